/-
  The laws RegenerateFlows and RegenerateTight.
-/
import Derived.Test.YtaipghchkamajaaProg
import Derived.Test.YtaipghchkamajaaTab
import Derived.Test.YtaipghchkamajaaPlainFx
import Derived.Test.YtaipghchkamajaaCz
import Derived.Test.YtaipghchkamajaaLists
import Derived.Test.YtaipghchkamajaaGraph
import Derived.Test.YtaipghchkamajaaReach
import Derived.Test.YtaipghchkamajaaMax
open Go Go.Cw
namespace Go.Proofs.Ytaipghchkamajaa
set_option maxRecDepth 100000
set_option linter.unusedVariables false
set_option linter.unusedSimpArgs false
theorem GraphArgsW_ok (n a b : Int) (h : List Fl) (c : List Int) (hh : h.length ≤ 130) : Ctr Try.prog 20 [aInt n, aInt a, aInt b, aSl 2 true aFl h, aSl 1 false aInt c] (aInt (gErr n a b h c)) := by
  refine ctr_of Try.call20 Try.func20 rfl rfl ?_
  intro w O
  refine ent_len 3 rfl (fun hlen3 => ?_)
  refine ent_len 4 rfl (fun hlen4 => ?_)
  refine ent_seq fun K1 hK1 => ?_
  refine ent_region ?_
  refine ent_o rfl (ok_assign rfl) ?_
  refine ent_nil ?_
  refine ent_k hK1 ?_
  refine ent_seq fun K2 hK2 => ?_
  refine ent_seq fun K3 hK3 => ?_
  refine ent_cut (⟨[(0, aInt n), (3, aSl 2 true aFl h), (4, aSl 1 false aInt c), (36, aBool (decide ((((((n < 1) ∨ (64 < n)) ∨ (a < 0)) ∨ (1048576 < a)) ∨ (b < 0)) ∨ (1048576 < b))))], []⟩) ?_ ?_
  · refine ent_region ?_
    refine ent_o rfl (ok_move rfl) ?_
    refine ent_o rfl (ok_lss rfl rfl) ?_
    refine ent_o rfl (ok_move rfl) ?_
    refine ent_guardXDf rfl rfl rfl rfl (fun hg17 => ?_) (fun hg17 => ?_)
    · refine ent_o rfl (ok_move rfl) ?_
      refine ent_guardXT rfl rfl rfl rfl (decide_eq_false hg17) ?_
      refine ent_o rfl (ok_gtr rfl rfl) ?_
      refine ent_o rfl (ok_pickF rfl (decide_eq_false hg17) rfl) ?_
      refine ent_o rfl (ok_move rfl) ?_
      refine ent_guardXDf rfl rfl rfl rfl (fun hg21 => ?_) (fun hg21 => ?_)
      · refine ent_o rfl (ok_move rfl) ?_
        refine ent_guardXT rfl rfl rfl rfl (decide_eq_false hg21) ?_
        refine ent_o rfl (ok_lss rfl rfl) ?_
        refine ent_o rfl (ok_pickF rfl (decide_eq_false hg21) rfl) ?_
        refine ent_o rfl (ok_move rfl) ?_
        refine ent_guardXDf rfl rfl rfl rfl (fun hg25 => ?_) (fun hg25 => ?_)
        · refine ent_o rfl (ok_move rfl) ?_
          refine ent_guardXT rfl rfl rfl rfl (decide_eq_false hg25) ?_
          refine ent_o rfl (ok_gtr rfl rfl) ?_
          refine ent_o rfl (ok_pickF rfl (decide_eq_false hg25) rfl) ?_
          refine ent_o rfl (ok_move rfl) ?_
          refine ent_guardXDf rfl rfl rfl rfl (fun hg29 => ?_) (fun hg29 => ?_)
          · refine ent_o rfl (ok_move rfl) ?_
            refine ent_guardXT rfl rfl rfl rfl (decide_eq_false hg29) ?_
            refine ent_o rfl (ok_lss rfl rfl) ?_
            refine ent_o rfl (ok_pickF rfl (decide_eq_false hg29) rfl) ?_
            refine ent_o rfl (ok_move rfl) ?_
            refine ent_guardXDf rfl rfl rfl rfl (fun hg33 => ?_) (fun hg33 => ?_)
            · refine ent_o rfl (ok_move rfl) ?_
              refine ent_guardXT rfl rfl rfl rfl (decide_eq_false hg33) ?_
              refine ent_o rfl (ok_gtr rfl rfl) ?_
              refine ent_o rfl (ok_pickF rfl (decide_eq_false hg33) rfl) ?_
              refine ent_nil ?_
              exact ent_rep ⟨rfl, rfl, rfl, slot_bool (dq_Q ((or_iff_right (fun h => h.elim (fun h => h.elim (fun h => h.elim (fun h => h.elim hg17 hg21) hg25) hg29) hg33)).trans Iff.rfl)), trivial⟩ rfl
            · refine ent_guardXF rfl rfl rfl rfl (decide_eq_true hg33) ?_
              refine ent_o rfl (ok_pickT rfl (decide_eq_true hg33) rfl) ?_
              refine ent_nil ?_
              exact ent_rep ⟨rfl, rfl, rfl, slot_bool (dq_T rfl (Or.inl (Or.inr hg33))), trivial⟩ rfl
          · refine ent_guardXF rfl rfl rfl rfl (decide_eq_true hg29) ?_
            refine ent_o rfl (ok_pickT rfl (decide_eq_true hg29) rfl) ?_
            refine ent_o rfl (ok_move rfl) ?_
            refine ent_guardXF rfl rfl rfl rfl rfl ?_
            refine ent_guardXF rfl rfl rfl rfl rfl ?_
            refine ent_o rfl (ok_pickT rfl rfl rfl) ?_
            refine ent_nil ?_
            exact ent_rep ⟨rfl, rfl, rfl, slot_bool (dq_T rfl (Or.inl (Or.inl (Or.inr hg29)))), trivial⟩ rfl
        · refine ent_guardXF rfl rfl rfl rfl (decide_eq_true hg25) ?_
          refine ent_o rfl (ok_pickT rfl (decide_eq_true hg25) rfl) ?_
          refine ent_o rfl (ok_move rfl) ?_
          refine ent_guardXF rfl rfl rfl rfl rfl ?_
          refine ent_guardXF rfl rfl rfl rfl rfl ?_
          refine ent_o rfl (ok_pickT rfl rfl rfl) ?_
          refine ent_o rfl (ok_move rfl) ?_
          refine ent_guardXF rfl rfl rfl rfl rfl ?_
          refine ent_guardXF rfl rfl rfl rfl rfl ?_
          refine ent_o rfl (ok_pickT rfl rfl rfl) ?_
          refine ent_nil ?_
          exact ent_rep ⟨rfl, rfl, rfl, slot_bool (dq_T rfl (Or.inl (Or.inl (Or.inl (Or.inr hg25))))), trivial⟩ rfl
      · refine ent_guardXF rfl rfl rfl rfl (decide_eq_true hg21) ?_
        refine ent_o rfl (ok_pickT rfl (decide_eq_true hg21) rfl) ?_
        refine ent_o rfl (ok_move rfl) ?_
        refine ent_guardXF rfl rfl rfl rfl rfl ?_
        refine ent_guardXF rfl rfl rfl rfl rfl ?_
        refine ent_o rfl (ok_pickT rfl rfl rfl) ?_
        refine ent_o rfl (ok_move rfl) ?_
        refine ent_guardXF rfl rfl rfl rfl rfl ?_
        refine ent_guardXF rfl rfl rfl rfl rfl ?_
        refine ent_o rfl (ok_pickT rfl rfl rfl) ?_
        refine ent_o rfl (ok_move rfl) ?_
        refine ent_guardXF rfl rfl rfl rfl rfl ?_
        refine ent_guardXF rfl rfl rfl rfl rfl ?_
        refine ent_o rfl (ok_pickT rfl rfl rfl) ?_
        refine ent_nil ?_
        exact ent_rep ⟨rfl, rfl, rfl, slot_bool (dq_T rfl (Or.inl (Or.inl (Or.inl (Or.inl (Or.inr hg21)))))), trivial⟩ rfl
    · refine ent_guardXF rfl rfl rfl rfl (decide_eq_true hg17) ?_
      refine ent_o rfl (ok_pickT rfl (decide_eq_true hg17) rfl) ?_
      refine ent_o rfl (ok_move rfl) ?_
      refine ent_guardXF rfl rfl rfl rfl rfl ?_
      refine ent_guardXF rfl rfl rfl rfl rfl ?_
      refine ent_o rfl (ok_pickT rfl rfl rfl) ?_
      refine ent_o rfl (ok_move rfl) ?_
      refine ent_guardXF rfl rfl rfl rfl rfl ?_
      refine ent_guardXF rfl rfl rfl rfl rfl ?_
      refine ent_o rfl (ok_pickT rfl rfl rfl) ?_
      refine ent_o rfl (ok_move rfl) ?_
      refine ent_guardXF rfl rfl rfl rfl rfl ?_
      refine ent_guardXF rfl rfl rfl rfl rfl ?_
      refine ent_o rfl (ok_pickT rfl rfl rfl) ?_
      refine ent_o rfl (ok_move rfl) ?_
      refine ent_guardXF rfl rfl rfl rfl rfl ?_
      refine ent_guardXF rfl rfl rfl rfl rfl ?_
      refine ent_o rfl (ok_pickT rfl rfl rfl) ?_
      refine ent_nil ?_
      exact ent_rep ⟨rfl, rfl, rfl, slot_bool (dq_T rfl (Or.inl (Or.inl (Or.inl (Or.inl (Or.inl hg17)))))), trivial⟩ rfl
  refine ent_k hK3 ?_
  refine ent_condD rfl (fun h36 => ?_) (fun h36 => ?_)
  · have hb : rngBad n a b := h36
    refine ent_seq fun K4 hK4 => ?_
    refine ent_region ?_
    refine ent_o rfl (ok_assign rfl) ?_
    refine ent_nil ?_
    refine ent_k hK4 ?_
    refine ent_ret ?_
    exact retR1 (.inr rfl) Try.results20 (resr_tmp (res_cv rfl (cv_int (by rw [gErr, if_pos hb]))))
  · have hb : ¬ rngBad n a b := h36
    refine ent_skip ?_
    refine ent_k hK2 ?_
    refine ent_seq fun K5 hK5 => ?_
    refine ent_region ?_
    refine ent_o rfl (ok_move rfl) ?_
    refine ent_o rfl (ok_mul rfl rfl (by omega) (by omega)) ?_
    refine ent_o rfl (ok_move rfl) ?_
    refine ent_o rfl (ok_len rfl Try.runUnderlying28 rfl) ?_
    refine ent_o rfl (ok_add rfl rfl (by omega) (by omega)) ?_
    refine ent_o rfl (ok_move rfl) ?_
    refine ent_o rfl (ok_len rfl Try.runUnderlying29 rfl) ?_
    refine ent_o rfl (ok_addW rfl rfl) ?_
    refine ent_o rfl (ok_assign rfl) ?_
    refine ent_nil ?_
    refine ent_k hK5 ?_
    refine ent_seq fun K6 hK6 => ?_
    refine ent_seq fun K7 hK7 => ?_
    refine ent_region ?_
    refine ent_o rfl (ok_assign rfl) ?_
    refine ent_nil ?_
    refine ent_k hK7 ?_
    refine ent_block ?_
    refine ent_loop (fun (i : Int) => (⟨[(0, aInt n), (3, aSl 2 true aFl h), (4, aSl 1 false aInt c), (11, aInt (w64 (2 * n + (h.length : Int) + (c.length : Int) + hArcs (h.take i.toNat)))), (12, aInt i)], []⟩ : St)) (fun (i : Int) => (0 ≤ i) ∧ (i ≤ h.length) ∧ (hErr n (h.take i.toNat) = 0)) (fun (i : Int) => (h.length - i).toNat) 0 ⟨(by first | rfl | assumption | omega | (simp_all; done) | grind), (by first | rfl | assumption | omega | (simp_all; done) | grind), (by simp [hErr])⟩ (ent_rep ⟨rfl, rfl, rfl, slot_av (av_int (show w64 (((2 * n) + (↑h.length : Int)) + (↑c.length : Int)) = w64 (2 * n + (h.length : Int) + (c.length : Int) + hArcs (h.take (0 : Int).toNat)) by simp [hArcs])), slot_av (av_int (show 0 = (0 : Int) by first | rfl | assumption | omega | (simp_all; done) | grind)), trivial⟩ rfl) ?_
    rintro i ⟨h0, h1, hp⟩
    show Ent _ (⟨[(0, aInt n), (3, aSl 2 true aFl h), (4, aSl 1 false aInt c), (11, aInt (w64 (2 * n + (h.length : Int) + (c.length : Int) + hArcs (h.take i.toNat)))), (12, aInt i)], []⟩ : St) _
    have hn : 1 ≤ n ∧ n ≤ 64 := by omega
    have hk := hArcs_le hn.2 hp
    have hkl : (List.length (h.take i.toNat) : Int) ≤ 130 := by simp; omega
    refine ent_seq fun K8 hK8 => ?_
    refine ent_seq fun K9 hK9 => ?_
    refine ent_region ?_
    refine ent_o rfl (ok_move rfl) ?_
    refine ent_o rfl (ok_move rfl) ?_
    refine ent_o rfl (ok_len rfl Try.runUnderlying28 rfl) ?_
    refine ent_o rfl (ok_lss rfl rfl) ?_
    refine ent_nil ?_
    refine ent_k hK9 ?_
    refine ent_condD rfl (fun h48 => ?_) (fun h48 => ?_)
    · refine ent_skip ?_
      refine ent_k hK8 ?_
      refine ent_seq fun K10 hK10 => ?_
      refine ent_block ?_
      refine ent_seq fun K11 hK11 => ?_
      refine ent_seq fun K12 hK12 => ?_
      refine ent_cut (⟨[(0, aInt n), (3, aSl 2 true aFl h), (4, aSl 1 false aInt c), (11, aInt (w64 (2 * n + (h.length : Int) + (c.length : Int) + hArcs (h.take i.toNat)))), (12, aInt i), (65, aBool (decide ((((ix (0, []) h i).1) < 0) ∨ (n ≤ ((ix (0, []) h i).1)))))], []⟩) ?_ ?_
      · refine ent_region ?_
        refine ent_o rfl (ok_move rfl) ?_
        refine ent_o rfl (ok_move rfl) ?_
        refine ent_o rfl (ok_index (0, []) sl28 rfl rfl (by omega) (by omega)) ?_
        refine ent_o rfl (ok_fieldAddr1 Try.runUnderlying40 rfl Try.sizeOf3 rfl rfl) ?_
        refine ent_o rfl (ok_load ti3 rfl) ?_
        refine ent_o rfl (ok_lss rfl rfl) ?_
        refine ent_o rfl (ok_move rfl) ?_
        refine ent_guardXDf rfl rfl rfl rfl (fun hg57 => ?_) (fun hg57 => ?_)
        · refine ent_o rfl (ok_move rfl) ?_
          refine ent_guardXT rfl rfl rfl rfl (decide_eq_false hg57) ?_
          refine ent_o rfl (ok_move rfl) ?_
          refine ent_guardXT rfl rfl rfl rfl (decide_eq_false hg57) ?_
          refine ent_o rfl (ok_index (0, []) sl28 rfl rfl (by omega) (by omega)) ?_
          refine ent_guardXT rfl rfl rfl rfl (decide_eq_false hg57) ?_
          refine ent_o rfl (ok_fieldAddr1 Try.runUnderlying40 rfl Try.sizeOf3 rfl rfl) ?_
          refine ent_guardXT rfl rfl rfl rfl (decide_eq_false hg57) ?_
          refine ent_o rfl (ok_load ti3 rfl) ?_
          refine ent_guardXT rfl rfl rfl rfl (decide_eq_false hg57) ?_
          refine ent_o rfl (ok_move rfl) ?_
          refine ent_guardXT rfl rfl rfl rfl (decide_eq_false hg57) ?_
          refine ent_o rfl (ok_geq rfl rfl) ?_
          refine ent_o rfl (ok_pickF rfl (decide_eq_false hg57) rfl) ?_
          refine ent_nil ?_
          exact ent_rep ⟨rfl, rfl, rfl, rfl, rfl, slot_bool (dq_Q ((or_iff_right hg57).trans Iff.rfl)), trivial⟩ rfl
        · refine ent_guardXF rfl rfl rfl rfl (decide_eq_true hg57) ?_
          refine ent_guardXF rfl rfl rfl rfl (decide_eq_true hg57) ?_
          refine ent_guardXF rfl rfl rfl rfl (decide_eq_true hg57) ?_
          refine ent_guardXF rfl rfl rfl rfl (decide_eq_true hg57) ?_
          refine ent_guardXF rfl rfl rfl rfl (decide_eq_true hg57) ?_
          refine ent_guardXF rfl rfl rfl rfl (decide_eq_true hg57) ?_
          refine ent_o rfl (ok_pickT rfl (decide_eq_true hg57) rfl) ?_
          refine ent_nil ?_
          exact ent_rep ⟨rfl, rfl, rfl, rfl, rfl, slot_bool (dq_T rfl (Or.inl hg57)), trivial⟩ rfl
      refine ent_k hK12 ?_
      refine ent_condD rfl (fun h65 => ?_) (fun h65 => ?_)
      · refine ent_seq fun K13 hK13 => ?_
        refine ent_region ?_
        refine ent_o rfl (ok_assign rfl) ?_
        refine ent_nil ?_
        refine ent_k hK13 ?_
        refine ent_ret ?_
        exact retR1 (.inr rfl) Try.results20 (resr_tmp (res_cv rfl (cv_int (by rw [gErr, if_neg hb, hErr_at h0 h48 hp (by rw [flErr, if_pos h65]; decide), flErr, if_pos h65]; rfl))))
      · refine ent_skip ?_
        refine ent_k hK11 ?_
        refine ent_seq fun K14 hK14 => ?_
        refine ent_draw 13 mixed (by kernel_rfl) (by kernel_rfl) (by kernel_rfl) ?_
        refine dw_o rfl (ok_move rfl) ?_
        refine dw_o rfl (ok_move rfl) ?_
        refine dw_o rfl (ok_move rfl) ?_
        refine dw_o rfl (ok_index (0, []) sl28 rfl rfl (by omega) (by omega)) ?_
        refine dw_o rfl (ok_fieldAddr1 Try.runUnderlying40 rfl Try.sizeOf29 rfl rfl) ?_
        refine dw_o rfl (ok_load ti29 rfl) ?_
        refine dw_o rfl (ok_move rfl) ?_
        refine dw_o rfl (ok_move rfl) ?_
        refine dw_o rfl (ok_index (0, []) sl28 rfl rfl (by omega) (by omega)) ?_
        refine dw_o rfl (ok_fieldAddr1 Try.runUnderlying40 rfl Try.sizeOf3 rfl rfl) ?_
        refine dw_o rfl (ok_load ti3 rfl) ?_
        refine dw_o rfl (ok_call (list_ok n ((ix (0, []) h i).2) ((ix (0, []) h i).1)) rfl) ?_
        refine dw_o rfl (ok_assign rfl) ?_
        refine dw_nil ?_
        refine ent_nil ?_
        refine ent_k hK14 ?_
        refine ent_seq fun K15 hK15 => ?_
        refine ent_seq fun K16 hK16 => ?_
        refine ent_region ?_
        refine ent_o rfl (ok_move rfl) ?_
        refine ent_o rfl (ok_neq rfl rfl) ?_
        refine ent_nil ?_
        refine ent_k hK16 ?_
        refine ent_condD rfl (fun h79 => ?_) (fun h79 => ?_)
        · refine ent_seq fun K17 hK17 => ?_
          refine ent_region ?_
          refine ent_o rfl (ok_move rfl) ?_
          refine ent_o rfl (ok_assign rfl) ?_
          refine ent_nil ?_
          refine ent_k hK17 ?_
          refine ent_ret ?_
          exact retR1 (.inr rfl) Try.results20 (resr_tmp (res_cv rfl (cv_int (by rw [gErr, if_neg hb, hErr_at h0 h48 hp (by rw [flErr, if_neg h65]; exact h79), flErr, if_neg h65, if_neg h79]))))
        · have he : flErr n (ix (0, []) h i) = 0 := by rw [flErr, if_neg h65]; exact Classical.not_not.1 h79
          have hl := lstErr_len (flErr_zero he).2.2 hn.2
          refine ent_skip ?_
          refine ent_k hK15 ?_
          refine ent_region ?_
          refine ent_o rfl (ok_move rfl) ?_
          refine ent_o rfl (ok_move rfl) ?_
          refine ent_o rfl (ok_move rfl) ?_
          refine ent_o rfl (ok_index (0, []) sl28 rfl rfl (by omega) (by omega)) ?_
          refine ent_o rfl (ok_fieldAddr1 Try.runUnderlying40 rfl Try.sizeOf29 rfl rfl) ?_
          refine ent_o rfl (ok_load ti29 rfl) ?_
          refine ent_o rfl (ok_len rfl Try.runUnderlying29 rfl) ?_
          refine ent_o rfl (ok_addW rfl rfl) ?_
          refine ent_o rfl (ok_assign rfl) ?_
          refine ent_nil ?_
          refine ent_k hK10 ?_
          refine ent_region ?_
          refine ent_o rfl (ok_move rfl) ?_
          refine ent_o rfl (ok_add rfl rfl (by omega) (by omega)) ?_
          refine ent_o rfl (ok_assign rfl) ?_
          refine ent_nil ?_
          refine ent_again (s := (i)) (i + 1) ⟨(by first | rfl | assumption | omega | (simp_all; done) | grind), (by first | rfl | assumption | omega | (simp_all; done) | grind), (hErr_succ h0 h48 hp he)⟩ (by first | omega | (dsimp only; omega)) (ent_rep ⟨rfl, rfl, rfl, slot_av (av_int (show w64 ((w64 (2 * n + (h.length : Int) + (c.length : Int) + hArcs (h.take i.toNat))) + (↑((ix (0, []) h i).2).length : Int)) = w64 (2 * n + (h.length : Int) + (c.length : Int) + hArcs (h.take (i + 1).toNat)) by rw [w64_add, hArcs_succ h0 h48]; exact congrArg w64 (by simp only [ix]; omega))), rfl, trivial⟩ rfl)
    · have hn : 1 ≤ n ∧ n ≤ 64 := by omega
      have hkk := hArcs_le hn.2 hp
      refine ent_exit ?_
      refine ent_k hK6 ?_
      refine ent_seq fun K18 hK18 => ?_
      refine ent_region ?_
      refine ent_o rfl (ok_move rfl) ?_
      refine ent_o rfl (ok_move rfl) ?_
      refine ent_o rfl (ok_call (list_ok n c (-1)) rfl) ?_
      refine ent_o rfl (ok_assign rfl) ?_
      refine ent_nil ?_
      refine ent_k hK18 ?_
      refine ent_seq fun K19 hK19 => ?_
      refine ent_seq fun K20 hK20 => ?_
      refine ent_region ?_
      refine ent_o rfl (ok_move rfl) ?_
      refine ent_o rfl (ok_neq rfl rfl) ?_
      refine ent_nil ?_
      refine ent_k hK20 ?_
      refine ent_condD rfl (fun h93 => ?_) (fun h93 => ?_)
      · refine ent_seq fun K21 hK21 => ?_
        refine ent_region ?_
        refine ent_o rfl (ok_move rfl) ?_
        refine ent_o rfl (ok_assign rfl) ?_
        refine ent_nil ?_
        refine ent_k hK21 ?_
        refine ent_ret ?_
        exact retR1 (.inr rfl) Try.results20 (resr_tmp (res_cv rfl (cv_int (by rw [List.take_of_length_le (by omega)] at hp; rw [gErr, if_neg hb, if_pos hp, if_neg h93]))))
      · have hh0 : hErr n h = 0 := by rw [List.take_of_length_le (by omega)] at hp; exact hp
        have hcl := lstErr_len (Classical.not_not.1 h93) hn.2
        have hka := hArcs_le hn.2 hh0
        have hw := w64_in (z := 2 * n + (h.length : Int) + (c.length : Int) + hArcs h) (by omega) (by omega)
        refine ent_skip ?_
        refine ent_k hK19 ?_
        refine ent_seq fun K22 hK22 => ?_
        refine ent_seq fun K23 hK23 => ?_
        refine ent_cut (⟨[(105, aBool (decide ((256 < ((2 * (n + (↑h.length : Int))) + 2)) ∨ (1024 < (w64 (2 * n + (h.length : Int) + (c.length : Int) + hArcs (h.take i.toNat)))))))], []⟩) ?_ ?_
        · refine ent_region ?_
          refine ent_o rfl (ok_move rfl) ?_
          refine ent_o rfl (ok_move rfl) ?_
          refine ent_o rfl (ok_len rfl Try.runUnderlying28 rfl) ?_
          refine ent_o rfl (ok_add rfl rfl (by omega) (by omega)) ?_
          refine ent_o rfl (ok_mul rfl rfl (by omega) (by omega)) ?_
          refine ent_o rfl (ok_add rfl rfl (by omega) (by omega)) ?_
          refine ent_o rfl (ok_gtr rfl rfl) ?_
          refine ent_o rfl (ok_move rfl) ?_
          refine ent_guardXDf rfl rfl rfl rfl (fun hg102 => ?_) (fun hg102 => ?_)
          · refine ent_o rfl (ok_move rfl) ?_
            refine ent_guardXT rfl rfl rfl rfl (decide_eq_false hg102) ?_
            refine ent_o rfl (ok_gtr rfl rfl) ?_
            refine ent_o rfl (ok_pickF rfl (decide_eq_false hg102) rfl) ?_
            refine ent_nil ?_
            exact ent_rep ⟨slot_bool (dq_Q ((or_iff_right hg102).trans Iff.rfl)), trivial⟩ rfl
          · refine ent_guardXF rfl rfl rfl rfl (decide_eq_true hg102) ?_
            refine ent_o rfl (ok_pickT rfl (decide_eq_true hg102) rfl) ?_
            refine ent_nil ?_
            exact ent_rep ⟨slot_bool (dq_T rfl (Or.inl hg102)), trivial⟩ rfl
        refine ent_k hK23 ?_
        refine ent_condD rfl (fun h105 => ?_) (fun h105 => ?_)
        · refine ent_seq fun K24 hK24 => ?_
          refine ent_region ?_
          refine ent_o rfl (ok_assign rfl) ?_
          refine ent_nil ?_
          refine ent_k hK24 ?_
          refine ent_ret ?_
          exact retR1 (.inr rfl) Try.results20 (resr_tmp (res_cv rfl (cv_int (by rw [List.take_of_length_le (by omega), hw] at h105; rw [gErr, if_neg hb, if_pos hh0, if_pos (Classical.not_not.1 h93), if_pos (show tooBig n h c from h105)]))))
        · refine ent_skip ?_
          refine ent_k hK22 ?_
          refine ent_seq fun K25 hK25 => ?_
          refine ent_region ?_
          refine ent_o rfl (ok_assign rfl) ?_
          refine ent_nil ?_
          refine ent_k hK25 ?_
          refine ent_ret ?_
          exact retR1 (.inr rfl) Try.results20 (resr_tmp (res_cv rfl (cv_int (by rw [List.take_of_length_le (by omega), hw] at h105; rw [gErr, if_neg hb, if_pos hh0, if_pos (Classical.not_not.1 h93), if_neg (show ¬ tooBig n h c from h105)]))))

theorem RegenerateFlows_ok (k d n a b : Int) (h : List Fl) (c : List Int) (hI : True) : Ctr Try.prog 5 [aInt k, aInt d, aInt n, aInt a, aInt b, aSl 2 true aFl h, aSl 1 false aInt c] (aBool true) := by
  refine ctr_of Try.call5 Try.func5 rfl rfl ?_
  intro w O
  refine ent_len 5 rfl (fun hlen5 => ?_)
  refine ent_len 6 rfl (fun hlen6 => ?_)
  refine ent_seq fun K1 hK1 => ?_
  refine ent_region ?_
  refine ent_o rfl (ok_assign rfl) ?_
  refine ent_nil ?_
  refine ent_k hK1 ?_
  refine ent_seq fun K2 hK2 => ?_
  refine ent_seq fun K3 hK3 => ?_
  refine ent_cut (⟨[(0, aInt k), (1, aInt d), (2, aInt n), (3, aInt a), (4, aInt b), (5, aSl 2 true aFl h), (6, aSl 1 false aInt c), (57, aBool (decide (((((((8 < (↑h.length : Int)) ∨ ((if cutBad k d a b then 6 else 0 : Int) ≠ 0)) ∨ ((gErr n a b h c) ≠ 0)) ∨ ((↑c.length : Int) < k)) ∨ (10 < n)) ∨ (100 < a)) ∨ (100 < b))))], []⟩) ?_ ?_
  · refine ent_region ?_
    refine ent_o rfl (ok_move rfl) ?_
    refine ent_o rfl (ok_len rfl Try.runUnderlying28 rfl) ?_
    refine ent_o rfl (ok_gtr rfl rfl) ?_
    refine ent_o rfl (ok_move rfl) ?_
    refine ent_guardXDf rfl rfl rfl rfl (fun hg23 => ?_) (fun hg23 => ?_)
    · refine ent_o rfl (ok_move rfl) ?_
      refine ent_guardXT rfl rfl rfl rfl (decide_eq_false hg23) ?_
      refine ent_o rfl (ok_move rfl) ?_
      refine ent_guardXT rfl rfl rfl rfl (decide_eq_false hg23) ?_
      refine ent_o rfl (ok_move rfl) ?_
      refine ent_guardXT rfl rfl rfl rfl (decide_eq_false hg23) ?_
      refine ent_o rfl (ok_move rfl) ?_
      refine ent_guardXT rfl rfl rfl rfl (decide_eq_false hg23) ?_
      refine ent_o rfl (ok_call (CutArgs_ok k d a b) rfl) ?_
      refine ent_guardXT rfl rfl rfl rfl (decide_eq_false hg23) ?_
      refine ent_o rfl (ok_neq rfl rfl) ?_
      refine ent_o rfl (ok_pickF rfl (decide_eq_false hg23) rfl) ?_
      refine ent_o rfl (ok_move rfl) ?_
      refine ent_guardXDf rfl rfl rfl rfl (fun hg31 => ?_) (fun hg31 => ?_)
      · refine ent_o rfl (ok_move rfl) ?_
        refine ent_guardXT rfl rfl rfl rfl (decide_eq_false hg31) ?_
        refine ent_o rfl (ok_move rfl) ?_
        refine ent_guardXT rfl rfl rfl rfl (decide_eq_false hg31) ?_
        refine ent_o rfl (ok_move rfl) ?_
        refine ent_guardXT rfl rfl rfl rfl (decide_eq_false hg31) ?_
        refine ent_o rfl (ok_move rfl) ?_
        refine ent_guardXT rfl rfl rfl rfl (decide_eq_false hg31) ?_
        refine ent_o rfl (ok_move rfl) ?_
        refine ent_guardXT rfl rfl rfl rfl (decide_eq_false hg31) ?_
        refine ent_o rfl (ok_call (GraphArgsW_ok n a b h c (by first | rfl | assumption | omega | (simp_all; done) | grind)) rfl) ?_
        refine ent_guardXT rfl rfl rfl rfl (decide_eq_false hg31) ?_
        refine ent_o rfl (ok_neq rfl rfl) ?_
        refine ent_o rfl (ok_pickF rfl (decide_eq_false hg31) rfl) ?_
        refine ent_o rfl (ok_move rfl) ?_
        refine ent_guardXDf rfl rfl rfl rfl (fun hg40 => ?_) (fun hg40 => ?_)
        · refine ent_o rfl (ok_move rfl) ?_
          refine ent_guardXT rfl rfl rfl rfl (decide_eq_false hg40) ?_
          refine ent_o rfl (ok_len rfl Try.runUnderlying29 rfl) ?_
          refine ent_guardXT rfl rfl rfl rfl (decide_eq_false hg40) ?_
          refine ent_o rfl (ok_move rfl) ?_
          refine ent_guardXT rfl rfl rfl rfl (decide_eq_false hg40) ?_
          refine ent_o rfl (ok_lss rfl rfl) ?_
          refine ent_o rfl (ok_pickF rfl (decide_eq_false hg40) rfl) ?_
          refine ent_o rfl (ok_move rfl) ?_
          refine ent_guardXDf rfl rfl rfl rfl (fun hg46 => ?_) (fun hg46 => ?_)
          · refine ent_o rfl (ok_move rfl) ?_
            refine ent_guardXT rfl rfl rfl rfl (decide_eq_false hg46) ?_
            refine ent_o rfl (ok_gtr rfl rfl) ?_
            refine ent_o rfl (ok_pickF rfl (decide_eq_false hg46) rfl) ?_
            refine ent_o rfl (ok_move rfl) ?_
            refine ent_guardXDf rfl rfl rfl rfl (fun hg50 => ?_) (fun hg50 => ?_)
            · refine ent_o rfl (ok_move rfl) ?_
              refine ent_guardXT rfl rfl rfl rfl (decide_eq_false hg50) ?_
              refine ent_o rfl (ok_gtr rfl rfl) ?_
              refine ent_o rfl (ok_pickF rfl (decide_eq_false hg50) rfl) ?_
              refine ent_o rfl (ok_move rfl) ?_
              refine ent_guardXDf rfl rfl rfl rfl (fun hg54 => ?_) (fun hg54 => ?_)
              · refine ent_o rfl (ok_move rfl) ?_
                refine ent_guardXT rfl rfl rfl rfl (decide_eq_false hg54) ?_
                refine ent_o rfl (ok_gtr rfl rfl) ?_
                refine ent_o rfl (ok_pickF rfl (decide_eq_false hg54) rfl) ?_
                refine ent_nil ?_
                exact ent_rep ⟨rfl, rfl, rfl, rfl, rfl, rfl, rfl, slot_bool (dq_Q ((or_iff_right (fun h => h.elim (fun h => h.elim (fun h => h.elim (fun h => h.elim (fun h => h.elim hg23 hg31) hg40) hg46) hg50) hg54)).trans Iff.rfl)), trivial⟩ rfl
              · refine ent_guardXF rfl rfl rfl rfl (decide_eq_true hg54) ?_
                refine ent_o rfl (ok_pickT rfl (decide_eq_true hg54) rfl) ?_
                refine ent_nil ?_
                exact ent_rep ⟨rfl, rfl, rfl, rfl, rfl, rfl, rfl, slot_bool (dq_T rfl (Or.inl (Or.inr hg54))), trivial⟩ rfl
            · refine ent_guardXF rfl rfl rfl rfl (decide_eq_true hg50) ?_
              refine ent_o rfl (ok_pickT rfl (decide_eq_true hg50) rfl) ?_
              refine ent_o rfl (ok_move rfl) ?_
              refine ent_guardXF rfl rfl rfl rfl rfl ?_
              refine ent_guardXF rfl rfl rfl rfl rfl ?_
              refine ent_o rfl (ok_pickT rfl rfl rfl) ?_
              refine ent_nil ?_
              exact ent_rep ⟨rfl, rfl, rfl, rfl, rfl, rfl, rfl, slot_bool (dq_T rfl (Or.inl (Or.inl (Or.inr hg50)))), trivial⟩ rfl
          · refine ent_guardXF rfl rfl rfl rfl (decide_eq_true hg46) ?_
            refine ent_o rfl (ok_pickT rfl (decide_eq_true hg46) rfl) ?_
            refine ent_o rfl (ok_move rfl) ?_
            refine ent_guardXF rfl rfl rfl rfl rfl ?_
            refine ent_guardXF rfl rfl rfl rfl rfl ?_
            refine ent_o rfl (ok_pickT rfl rfl rfl) ?_
            refine ent_o rfl (ok_move rfl) ?_
            refine ent_guardXF rfl rfl rfl rfl rfl ?_
            refine ent_guardXF rfl rfl rfl rfl rfl ?_
            refine ent_o rfl (ok_pickT rfl rfl rfl) ?_
            refine ent_nil ?_
            exact ent_rep ⟨rfl, rfl, rfl, rfl, rfl, rfl, rfl, slot_bool (dq_T rfl (Or.inl (Or.inl (Or.inl (Or.inr hg46))))), trivial⟩ rfl
        · refine ent_guardXF rfl rfl rfl rfl (decide_eq_true hg40) ?_
          refine ent_guardXF rfl rfl rfl rfl (decide_eq_true hg40) ?_
          refine ent_guardXF rfl rfl rfl rfl (decide_eq_true hg40) ?_
          refine ent_o rfl (ok_pickT rfl (decide_eq_true hg40) rfl) ?_
          refine ent_o rfl (ok_move rfl) ?_
          refine ent_guardXF rfl rfl rfl rfl rfl ?_
          refine ent_guardXF rfl rfl rfl rfl rfl ?_
          refine ent_o rfl (ok_pickT rfl rfl rfl) ?_
          refine ent_o rfl (ok_move rfl) ?_
          refine ent_guardXF rfl rfl rfl rfl rfl ?_
          refine ent_guardXF rfl rfl rfl rfl rfl ?_
          refine ent_o rfl (ok_pickT rfl rfl rfl) ?_
          refine ent_o rfl (ok_move rfl) ?_
          refine ent_guardXF rfl rfl rfl rfl rfl ?_
          refine ent_guardXF rfl rfl rfl rfl rfl ?_
          refine ent_o rfl (ok_pickT rfl rfl rfl) ?_
          refine ent_nil ?_
          exact ent_rep ⟨rfl, rfl, rfl, rfl, rfl, rfl, rfl, slot_bool (dq_T rfl (Or.inl (Or.inl (Or.inl (Or.inl (Or.inr hg40)))))), trivial⟩ rfl
      · refine ent_guardXF rfl rfl rfl rfl (decide_eq_true hg31) ?_
        refine ent_guardXF rfl rfl rfl rfl (decide_eq_true hg31) ?_
        refine ent_guardXF rfl rfl rfl rfl (decide_eq_true hg31) ?_
        refine ent_guardXF rfl rfl rfl rfl (decide_eq_true hg31) ?_
        refine ent_guardXF rfl rfl rfl rfl (decide_eq_true hg31) ?_
        refine ent_guardXF rfl rfl rfl rfl (decide_eq_true hg31) ?_
        refine ent_o rfl (ok_pickT rfl (decide_eq_true hg31) rfl) ?_
        refine ent_o rfl (ok_move rfl) ?_
        refine ent_guardXF rfl rfl rfl rfl rfl ?_
        refine ent_guardXF rfl rfl rfl rfl rfl ?_
        refine ent_guardXF rfl rfl rfl rfl rfl ?_
        refine ent_guardXF rfl rfl rfl rfl rfl ?_
        refine ent_o rfl (ok_pickT rfl rfl rfl) ?_
        refine ent_o rfl (ok_move rfl) ?_
        refine ent_guardXF rfl rfl rfl rfl rfl ?_
        refine ent_guardXF rfl rfl rfl rfl rfl ?_
        refine ent_o rfl (ok_pickT rfl rfl rfl) ?_
        refine ent_o rfl (ok_move rfl) ?_
        refine ent_guardXF rfl rfl rfl rfl rfl ?_
        refine ent_guardXF rfl rfl rfl rfl rfl ?_
        refine ent_o rfl (ok_pickT rfl rfl rfl) ?_
        refine ent_o rfl (ok_move rfl) ?_
        refine ent_guardXF rfl rfl rfl rfl rfl ?_
        refine ent_guardXF rfl rfl rfl rfl rfl ?_
        refine ent_o rfl (ok_pickT rfl rfl rfl) ?_
        refine ent_nil ?_
        exact ent_rep ⟨rfl, rfl, rfl, rfl, rfl, rfl, rfl, slot_bool (dq_T rfl (Or.inl (Or.inl (Or.inl (Or.inl (Or.inl (Or.inr hg31))))))), trivial⟩ rfl
    · refine ent_guardXF rfl rfl rfl rfl (decide_eq_true hg23) ?_
      refine ent_guardXF rfl rfl rfl rfl (decide_eq_true hg23) ?_
      refine ent_guardXF rfl rfl rfl rfl (decide_eq_true hg23) ?_
      refine ent_guardXF rfl rfl rfl rfl (decide_eq_true hg23) ?_
      refine ent_guardXF rfl rfl rfl rfl (decide_eq_true hg23) ?_
      refine ent_o rfl (ok_pickT rfl (decide_eq_true hg23) rfl) ?_
      refine ent_o rfl (ok_move rfl) ?_
      refine ent_guardXF rfl rfl rfl rfl rfl ?_
      refine ent_guardXF rfl rfl rfl rfl rfl ?_
      refine ent_guardXF rfl rfl rfl rfl rfl ?_
      refine ent_guardXF rfl rfl rfl rfl rfl ?_
      refine ent_guardXF rfl rfl rfl rfl rfl ?_
      refine ent_guardXF rfl rfl rfl rfl rfl ?_
      refine ent_guardXF rfl rfl rfl rfl rfl ?_
      refine ent_o rfl (ok_pickT rfl rfl rfl) ?_
      refine ent_o rfl (ok_move rfl) ?_
      refine ent_guardXF rfl rfl rfl rfl rfl ?_
      refine ent_guardXF rfl rfl rfl rfl rfl ?_
      refine ent_guardXF rfl rfl rfl rfl rfl ?_
      refine ent_guardXF rfl rfl rfl rfl rfl ?_
      refine ent_o rfl (ok_pickT rfl rfl rfl) ?_
      refine ent_o rfl (ok_move rfl) ?_
      refine ent_guardXF rfl rfl rfl rfl rfl ?_
      refine ent_guardXF rfl rfl rfl rfl rfl ?_
      refine ent_o rfl (ok_pickT rfl rfl rfl) ?_
      refine ent_o rfl (ok_move rfl) ?_
      refine ent_guardXF rfl rfl rfl rfl rfl ?_
      refine ent_guardXF rfl rfl rfl rfl rfl ?_
      refine ent_o rfl (ok_pickT rfl rfl rfl) ?_
      refine ent_o rfl (ok_move rfl) ?_
      refine ent_guardXF rfl rfl rfl rfl rfl ?_
      refine ent_guardXF rfl rfl rfl rfl rfl ?_
      refine ent_o rfl (ok_pickT rfl rfl rfl) ?_
      refine ent_nil ?_
      exact ent_rep ⟨rfl, rfl, rfl, rfl, rfl, rfl, rfl, slot_bool (dq_T rfl (Or.inl (Or.inl (Or.inl (Or.inl (Or.inl (Or.inl hg23))))))), trivial⟩ rfl
  refine ent_k hK3 ?_
  refine ent_condD rfl (fun h57 => ?_) (fun h57 => ?_)
  · refine ent_seq fun K4 hK4 => ?_
    refine ent_region ?_
    refine ent_o rfl (ok_assign rfl) ?_
    refine ent_nil ?_
    refine ent_k hK4 ?_
    refine ent_ret ?_
    exact retR1 (.inr rfl) Try.results5 (resr_tmp (res_cv rfl (cv_bool (by first | rfl | (rw [if_neg hcb]; exact decide_eq_true hbd)))))
  · have hG : GOk n a b h c := gErr_zero.1 (Classical.byContradiction fun q => h57 (.inl (.inl (.inl (.inl (.inr q))))))
    have hcb : ¬ cutBad k d a b := fun q => h57 (.inl (.inl (.inl (.inl (.inl (.inr (by rw [if_pos q]; decide)))))))
    have hkc : k ≤ c.length := by omega
    have hcl := lstErr_len hG.coll (by have := hG.rng; unfold rngBad at this; omega)
    have hE := gErr_zero.2 hG
    have hV : netV n a b h c = 2 * (n + h.length) + 2 := if_pos hE
    have hA : netA n a b h c = gArcs n a b h c := if_pos hE
    have hNt := hG.net
    have hrng := hG.rng
    unfold rngBad at hrng
    rw [← hV, ← hA] at hNt
    refine ent_skip ?_
    refine ent_k hK2 ?_
    refine ent_seq fun K5 hK5 => ?_
    refine ent_seq fun K6 hK6 => ?_
    refine ent_region ?_
    refine ent_o rfl (ok_assign rfl) ?_
    refine ent_nil ?_
    refine ent_k hK6 ?_
    refine ent_block ?_
    refine ent_loop (fun (i : Int) => (⟨[(0, aInt k), (1, aInt d), (2, aInt n), (3, aInt a), (4, aInt b), (5, aSl 2 true aFl h), (6, aSl 1 false aInt c), (15, aInt i)], []⟩ : St)) (fun (i : Int) => (0 ≤ i) ∧ (i ≤ h.length) ∧ (∀ f ∈ h.take i.toNat, d ≤ (f.2.length : Int))) (fun (i : Int) => (h.length - i).toNat) 0 ⟨(by first | rfl | assumption | omega | (simp_all; done) | grind), (by first | rfl | assumption | omega | (simp_all; done) | grind), (by simp)⟩ (ent_rep ⟨rfl, rfl, rfl, rfl, rfl, rfl, rfl, slot_av (av_int (show 0 = (0 : Int) by first | rfl | assumption | omega | (simp_all; done) | grind)), trivial⟩ rfl) ?_
    rintro i ⟨h0, h1, hd⟩
    show Ent _ (⟨[(0, aInt k), (1, aInt d), (2, aInt n), (3, aInt a), (4, aInt b), (5, aSl 2 true aFl h), (6, aSl 1 false aInt c), (15, aInt i)], []⟩ : St) _
    refine ent_seq fun K7 hK7 => ?_
    refine ent_seq fun K8 hK8 => ?_
    refine ent_region ?_
    refine ent_o rfl (ok_move rfl) ?_
    refine ent_o rfl (ok_move rfl) ?_
    refine ent_o rfl (ok_len rfl Try.runUnderlying28 rfl) ?_
    refine ent_o rfl (ok_lss rfl rfl) ?_
    refine ent_nil ?_
    refine ent_k hK8 ?_
    refine ent_condD rfl (fun h61 => ?_) (fun h61 => ?_)
    · refine ent_skip ?_
      refine ent_k hK7 ?_
      refine ent_seq fun K9 hK9 => ?_
      refine ent_block ?_
      refine ent_seq fun K10 hK10 => ?_
      refine ent_region ?_
      refine ent_o rfl (ok_move rfl) ?_
      refine ent_o rfl (ok_move rfl) ?_
      refine ent_o rfl (ok_index (0, []) sl28 rfl rfl (by omega) (by omega)) ?_
      refine ent_o rfl (ok_fieldAddr1 Try.runUnderlying40 rfl Try.sizeOf29 rfl rfl) ?_
      refine ent_o rfl (ok_load ti29 rfl) ?_
      refine ent_o rfl (ok_len rfl Try.runUnderlying29 rfl) ?_
      refine ent_o rfl (ok_move rfl) ?_
      refine ent_o rfl (ok_lss rfl rfl) ?_
      refine ent_nil ?_
      refine ent_k hK10 ?_
      refine ent_condD rfl (fun h71 => ?_) (fun h71 => ?_)
      · refine ent_seq fun K11 hK11 => ?_
        refine ent_region ?_
        refine ent_o rfl (ok_assign rfl) ?_
        refine ent_nil ?_
        refine ent_k hK11 ?_
        refine ent_ret ?_
        exact retR1 (.inr rfl) Try.results5 (resr_tmp (res_cv rfl (cv_bool (by first | rfl | (rw [if_neg hcb]; exact decide_eq_true hbd)))))
      · refine ent_skip ?_
        refine ent_k hK9 ?_
        refine ent_region ?_
        refine ent_o rfl (ok_move rfl) ?_
        refine ent_o rfl (ok_add rfl rfl (by omega) (by omega)) ?_
        refine ent_o rfl (ok_assign rfl) ?_
        refine ent_nil ?_
        refine ent_again (s := (i)) (i + 1) ⟨(by first | rfl | assumption | omega | (simp_all; done) | grind), (by first | rfl | assumption | omega | (simp_all; done) | grind), (fun f hf => by rw [take_succ_ix (0, []) h h0 h61, List.mem_append, List.mem_singleton] at hf; rcases hf with hf | rfl; exact hd f hf; omega)⟩ (by first | omega | (dsimp only; omega)) (ent_rep ⟨rfl, rfl, rfl, rfl, rfl, rfl, rfl, rfl, trivial⟩ rfl)
    · have hdd : ∀ f ∈ h, d ≤ (f.2.length : Int) := by rw [List.take_of_length_le (by omega)] at hd; exact hd
      refine ent_exit ?_
      refine ent_k hK5 ?_
      refine ent_seq fun K12 hK12 => ?_
      refine ent_region ?_
      refine ent_o rfl (ok_move rfl) ?_
      refine ent_o rfl (ok_move rfl) ?_
      refine ent_o rfl (ok_move rfl) ?_
      refine ent_o rfl (ok_move rfl) ?_
      refine ent_o rfl (ok_move rfl) ?_
      refine ent_o rfl (ok_call (Graph_ok n a b h c (by first | rfl | assumption | omega | (simp_all; done) | grind) (by first | rfl | assumption | omega | (simp_all; done) | grind)) rfl) ?_
      refine ent_o rfl (ok_move rfl) ?_
      refine ent_o rfl (ok_extract rfl rfl) ?_
      refine ent_o rfl (ok_extract rfl rfl) ?_
      refine ent_alloc (z := .agg #[.int .i64 0, .slice none 0 0]) [aInt 0, aEx (.slice none 0 0)] rfl zv32 rfl zc32 (fun b16_1 => ?_)
      refine ent_storeBS (k := 0) Try.sizeOf32 rfl rfl rfl (AllOne.mem ⟨(one_int _), one_sl, trivial⟩) rfl rfl ?_
      show Ent _ (⟨_, [oBox b16_1 32 [aInt (netV n a b h c), aSl 3 true aArc (netA n a b h c)]]⟩ : St) _
      refine ent_o rfl (ok_assign rfl) ?_
      refine ent_nil ?_
      refine ent_k hK12 ?_
      refine ent_seq fun K13 hK13 => ?_
      refine ent_region ?_
      refine ent_o rfl (ok_move rfl) ?_
      refine ent_o rfl (ok_move rfl) ?_
      refine ent_o rfl (ok_move rfl) ?_
      refine ent_o rfl (ok_move rfl) ?_
      refine ent_o rfl (ok_call (Cut_ok k d a b) rfl) ?_
      refine ent_o rfl (ok_move rfl) ?_
      refine ent_o rfl (ok_extract rfl rfl) ?_
      refine ent_o rfl (ok_extract rfl rfl) ?_
      refine ent_o rfl (ok_assign rfl) ?_
      refine ent_o rfl (ok_assign rfl) ?_
      refine ent_nil ?_
      refine ent_k hK13 ?_
      refine ent_seq fun K14 hK14 => ?_
      refine ent_seq fun K15 hK15 => ?_
      refine ent_cut (⟨[(16, aEx (.pointer (some ⟨b16_1, 0, none⟩))), (18, aInt (if cutBad k d a b then 0 else cutSum d a b k.toNat)), (104, aBool (decide (((((gErr n a b h c) ≠ 0) ∨ ((if cutBad k d a b then 6 else 0 : Int) ≠ 0)) ∨ ((netErr (netV n a b h c) (netA n a b h c)) ≠ 0)) ∨ ((netV n a b h c) < 2))))], [oBox b16_1 32 [aInt (netV n a b h c), aSl 3 true aArc (netA n a b h c)]]⟩) ?_ ?_
      · refine ent_region ?_
        refine ent_o rfl (ok_move rfl) ?_
        refine ent_o rfl (ok_neq rfl rfl) ?_
        refine ent_o rfl (ok_move rfl) ?_
        refine ent_guardXDf rfl rfl rfl rfl (fun hg91 => ?_) (fun hg91 => ?_)
        · refine ent_o rfl (ok_move rfl) ?_
          refine ent_guardXT rfl rfl rfl rfl (decide_eq_false hg91) ?_
          refine ent_o rfl (ok_neq rfl rfl) ?_
          refine ent_o rfl (ok_pickF rfl (decide_eq_false hg91) rfl) ?_
          refine ent_o rfl (ok_move rfl) ?_
          refine ent_guardXDf rfl rfl rfl rfl (fun hg95 => ?_) (fun hg95 => ?_)
          · refine ent_o rfl (ok_loadBS (k := 0) ti32 rfl rfl rfl) ?_
            refine ent_guardXT rfl rfl rfl rfl (decide_eq_false hg95) ?_
            refine ent_o rfl (ok_call (netCheck_ok (netV n a b h c) (netA n a b h c) hNt) rfl) ?_
            refine ent_guardXT rfl rfl rfl rfl (decide_eq_false hg95) ?_
            refine ent_o rfl (ok_neq rfl rfl) ?_
            refine ent_o rfl (ok_pickF rfl (decide_eq_false hg95) rfl) ?_
            refine ent_o rfl (ok_move rfl) ?_
            refine ent_guardXDf rfl rfl rfl rfl (fun hg100 => ?_) (fun hg100 => ?_)
            · refine ent_o rfl (ok_fieldAddrEx Try.runUnderlying32 rfl Try.sizeOf3 (by decide) rfl) ?_
              refine ent_guardXT rfl rfl rfl rfl (decide_eq_false hg100) ?_
              refine ent_o rfl (ok_loadB (k := 0) Try.isAgg3 rfl rfl rfl) ?_
              refine ent_guardXT rfl rfl rfl rfl (decide_eq_false hg100) ?_
              refine ent_o rfl (ok_lss rfl rfl) ?_
              refine ent_o rfl (ok_pickF rfl (decide_eq_false hg100) rfl) ?_
              refine ent_nil ?_
              exact ent_rep ⟨rfl, rfl, slot_bool (dq_Q ((or_iff_right (fun h => h.elim (fun h => h.elim hg91 hg95) hg100)).trans Iff.rfl)), trivial⟩ rfl
            · refine ent_guardXF rfl rfl rfl rfl (decide_eq_true hg100) ?_
              refine ent_guardXF rfl rfl rfl rfl (decide_eq_true hg100) ?_
              refine ent_o rfl (ok_pickT rfl (decide_eq_true hg100) rfl) ?_
              refine ent_nil ?_
              exact ent_rep ⟨rfl, rfl, slot_bool (dq_T rfl (Or.inl (Or.inr hg100))), trivial⟩ rfl
          · refine ent_guardXF rfl rfl rfl rfl (decide_eq_true hg95) ?_
            refine ent_guardXF rfl rfl rfl rfl (decide_eq_true hg95) ?_
            refine ent_o rfl (ok_pickT rfl (decide_eq_true hg95) rfl) ?_
            refine ent_o rfl (ok_move rfl) ?_
            refine ent_guardXF rfl rfl rfl rfl rfl ?_
            refine ent_guardXF rfl rfl rfl rfl rfl ?_
            refine ent_guardXF rfl rfl rfl rfl rfl ?_
            refine ent_o rfl (ok_pickT rfl rfl rfl) ?_
            refine ent_nil ?_
            exact ent_rep ⟨rfl, rfl, slot_bool (dq_T rfl (Or.inl (Or.inl (Or.inr hg95)))), trivial⟩ rfl
        · refine ent_guardXF rfl rfl rfl rfl (decide_eq_true hg91) ?_
          refine ent_o rfl (ok_pickT rfl (decide_eq_true hg91) rfl) ?_
          refine ent_o rfl (ok_move rfl) ?_
          refine ent_guardXF rfl rfl rfl rfl rfl ?_
          refine ent_guardXF rfl rfl rfl rfl rfl ?_
          refine ent_guardXF rfl rfl rfl rfl rfl ?_
          refine ent_o rfl (ok_pickT rfl rfl rfl) ?_
          refine ent_o rfl (ok_move rfl) ?_
          refine ent_guardXF rfl rfl rfl rfl rfl ?_
          refine ent_guardXF rfl rfl rfl rfl rfl ?_
          refine ent_guardXF rfl rfl rfl rfl rfl ?_
          refine ent_o rfl (ok_pickT rfl rfl rfl) ?_
          refine ent_nil ?_
          exact ent_rep ⟨rfl, rfl, slot_bool (dq_T rfl (Or.inl (Or.inl (Or.inl hg91)))), trivial⟩ rfl
      refine ent_k hK15 ?_
      refine ent_condD rfl (fun h104 => ?_) (fun h104 => ?_)
      · exfalso; rw [hE, if_neg hcb, netErr_zero hNt] at h104; omega
      · refine ent_skip ?_
        refine ent_k hK14 ?_
        refine ent_seq fun K16 hK16 => ?_
        refine ent_region ?_
        refine ent_o rfl (ok_loadBS (k := 0) ti32 rfl rfl rfl) ?_
        refine ent_o rfl (ok_fieldAddrEx Try.runUnderlying32 rfl Try.sizeOf3 (by decide) rfl) ?_
        refine ent_o rfl (ok_loadB (k := 0) Try.isAgg3 rfl rfl rfl) ?_
        refine ent_o rfl (ok_sub rfl rfl (by omega) (by omega)) ?_
        refine ent_o rfl (ok_call (Max_ok (netV n a b h c) 0 ((netV n a b h c) - 1) (netA n a b h c) hNt (by first | rfl | assumption | omega | (simp_all; done) | grind) (by first | rfl | assumption | omega | (simp_all; done) | grind) (by first | rfl | assumption | omega | (simp_all; done) | grind) (by first | rfl | assumption | omega | (simp_all; done) | grind) (by first | rfl | assumption | omega | (simp_all; done) | grind)) rfl) ?_
        refine ent_exi 109 rfl (fun mv_2 hmv_2 => ?_)
        have hmx := hmv_2
        rw [hA, hV, show 2 * (n + (h.length : Int)) + 2 - 1 = 2 * (n + (h.length : Int)) + 1 by omega] at hmx
        have hbd := max_bound hG hcb hkc hdd hmx
        refine ent_o rfl (ok_field1 Try.runUnderlying44 rfl Try.isAgg3 rfl rfl) ?_
        refine ent_o rfl (ok_move rfl) ?_
        refine ent_o rfl (ok_geq rfl rfl) ?_
        refine ent_o rfl (ok_assign rfl) ?_
        refine ent_nil ?_
        refine ent_k hK16 ?_
        refine ent_ret ?_
        exact retR1 (.inr rfl) Try.results5 (resr_tmp (res_cv rfl (cv_bool (by first | rfl | (rw [if_neg hcb]; exact decide_eq_true hbd)))))

theorem RegenerateTight_ok (k d a b : Int) (k0 : 0 ≤ k) (k1 : k ≤ 255) (d0 : 0 ≤ d) (d1 : d ≤ 255) (a0 : 0 ≤ a) (a1 : a ≤ 255) (b0 : 0 ≤ b) (b1 : b ≤ 255) : Ctr Try.prog 6 [aU8 k, aU8 d, aU8 a, aU8 b] (aBool true) := by
  refine ctr_of Try.call6 Try.func6 rfl rfl ?_
  intro w O
  refine ent_seq fun K1 hK1 => ?_
  refine ent_region ?_
  refine ent_o rfl (ok_assign rfl) ?_
  refine ent_nil ?_
  refine ent_k hK1 ?_
  refine ent_seq fun K2 hK2 => ?_
  refine ent_seq fun K3 hK3 => ?_
  refine ent_cut (⟨[(0, aU8 k), (1, aU8 d), (2, aU8 a), (3, aU8 b), (25, aBool (decide (((k < 1) ∨ (d < k)) ∨ (7 < d))))], []⟩) ?_ ?_
  · refine ent_region ?_
    refine ent_o rfl (ok_move rfl) ?_
    refine ent_o rfl (ok_lss8 rfl rfl) ?_
    refine ent_o rfl (ok_move rfl) ?_
    refine ent_guardXDf rfl rfl rfl rfl (fun hg17 => ?_) (fun hg17 => ?_)
    · refine ent_o rfl (ok_move rfl) ?_
      refine ent_guardXT rfl rfl rfl rfl (decide_eq_false hg17) ?_
      refine ent_o rfl (ok_move rfl) ?_
      refine ent_guardXT rfl rfl rfl rfl (decide_eq_false hg17) ?_
      refine ent_o rfl (ok_gtr8 rfl rfl) ?_
      refine ent_o rfl (ok_pickF rfl (decide_eq_false hg17) rfl) ?_
      refine ent_o rfl (ok_move rfl) ?_
      refine ent_guardXDf rfl rfl rfl rfl (fun hg22 => ?_) (fun hg22 => ?_)
      · refine ent_o rfl (ok_move rfl) ?_
        refine ent_guardXT rfl rfl rfl rfl (decide_eq_false hg22) ?_
        refine ent_o rfl (ok_gtr8 rfl rfl) ?_
        refine ent_o rfl (ok_pickF rfl (decide_eq_false hg22) rfl) ?_
        refine ent_nil ?_
        exact ent_rep ⟨rfl, rfl, rfl, rfl, slot_bool (dq_Q ((or_iff_right (fun h => h.elim hg17 hg22)).trans Iff.rfl)), trivial⟩ rfl
      · refine ent_guardXF rfl rfl rfl rfl (decide_eq_true hg22) ?_
        refine ent_o rfl (ok_pickT rfl (decide_eq_true hg22) rfl) ?_
        refine ent_nil ?_
        exact ent_rep ⟨rfl, rfl, rfl, rfl, slot_bool (dq_T rfl (Or.inl (Or.inr hg22))), trivial⟩ rfl
    · refine ent_guardXF rfl rfl rfl rfl (decide_eq_true hg17) ?_
      refine ent_guardXF rfl rfl rfl rfl (decide_eq_true hg17) ?_
      refine ent_o rfl (ok_pickT rfl (decide_eq_true hg17) rfl) ?_
      refine ent_o rfl (ok_move rfl) ?_
      refine ent_guardXF rfl rfl rfl rfl rfl ?_
      refine ent_guardXF rfl rfl rfl rfl rfl ?_
      refine ent_o rfl (ok_pickT rfl rfl rfl) ?_
      refine ent_nil ?_
      exact ent_rep ⟨rfl, rfl, rfl, rfl, slot_bool (dq_T rfl (Or.inl (Or.inl hg17))), trivial⟩ rfl
  refine ent_k hK3 ?_
  refine ent_condD rfl (fun h25 => ?_) (fun h25 => ?_)
  · refine ent_seq fun K4 hK4 => ?_
    refine ent_region ?_
    refine ent_o rfl (ok_assign rfl) ?_
    refine ent_nil ?_
    refine ent_k hK4 ?_
    refine ent_ret ?_
    exact retR1 (.inr rfl) Try.results6 (resr_tmp (res_cv rfl (cv_bool (by first | rfl | (rw [if_neg hcb]; exact decide_eq_true hbd)))))
  · have hG := worst_ok (k := k) (d := d) (by omega) (by omega) (by omega) a0 a1 b0 b1
    have hcb : ¬ cutBad k d a b := by unfold cutBad; omega
    have hwl : (worstH k d).length = k.toNat := length_mapR _ _
    have hml : (mapR id k).length = k.toNat := length_mapR _ _
    have hE := gErr_zero.2 hG
    have hV : netV (d + 1) a b (worstH k d) (mapR id k) = 2 * (d + 1 + ((worstH k d).length : Int)) + 2 := if_pos hE
    have hA : netA (d + 1) a b (worstH k d) (mapR id k) = gArcs (d + 1) a b (worstH k d) (mapR id k) := if_pos hE
    have hNt := hG.net
    rw [← hV, ← hA] at hNt
    refine ent_skip ?_
    refine ent_k hK2 ?_
    refine ent_seq fun K5 hK5 => ?_
    refine ent_region ?_
    refine ent_o rfl (ok_move rfl) ?_
    refine ent_o rfl (ok_conv8 (by rw [Try.underlying5]; rfl) Try.underlying3 rfl (by omega) (by omega)) ?_
    refine ent_o rfl (ok_move rfl) ?_
    refine ent_o rfl (ok_conv8 (by rw [Try.underlying5]; rfl) Try.underlying3 rfl (by omega) (by omega)) ?_
    refine ent_o rfl (ok_call (Worst_ok k d (by first | rfl | assumption | omega | (simp_all; done) | grind) (by first | rfl | assumption | omega | (simp_all; done) | grind) (by first | rfl | assumption | omega | (simp_all; done) | grind) (by first | rfl | assumption | omega | (simp_all; done) | grind)) rfl) ?_
    refine ent_o rfl (ok_move rfl) ?_
    refine ent_o rfl (ok_extract rfl rfl) ?_
    refine ent_o rfl (ok_extract rfl rfl) ?_
    refine ent_o rfl (ok_assign rfl) ?_
    refine ent_o rfl (ok_assign rfl) ?_
    refine ent_nil ?_
    refine ent_k hK5 ?_
    refine ent_seq fun K6 hK6 => ?_
    refine ent_region ?_
    refine ent_o rfl (ok_move rfl) ?_
    refine ent_o rfl (ok_conv8 (by rw [Try.underlying5]; rfl) Try.underlying3 rfl (by omega) (by omega)) ?_
    refine ent_o rfl (ok_add rfl rfl (by omega) (by omega)) ?_
    refine ent_o rfl (ok_move rfl) ?_
    refine ent_o rfl (ok_conv8 (by rw [Try.underlying5]; rfl) Try.underlying3 rfl (by omega) (by omega)) ?_
    refine ent_o rfl (ok_move rfl) ?_
    refine ent_o rfl (ok_conv8 (by rw [Try.underlying5]; rfl) Try.underlying3 rfl (by omega) (by omega)) ?_
    refine ent_o rfl (ok_move rfl) ?_
    refine ent_o rfl (ok_move rfl) ?_
    refine ent_o rfl (ok_call (Graph_ok (d + 1) a b (worstH k d) (mapR id k) (by first | rfl | assumption | omega | (simp_all; done) | grind) (by first | rfl | assumption | omega | (simp_all; done) | grind)) rfl) ?_
    refine ent_o rfl (ok_move rfl) ?_
    refine ent_o rfl (ok_extract rfl rfl) ?_
    refine ent_o rfl (ok_extract rfl rfl) ?_
    refine ent_alloc (z := .agg #[.int .i64 0, .slice none 0 0]) [aInt 0, aEx (.slice none 0 0)] rfl zv32 rfl zc32 (fun b11_1 => ?_)
    refine ent_storeBS (k := 0) Try.sizeOf32 rfl rfl rfl (AllOne.mem ⟨(one_int _), one_sl, trivial⟩) rfl rfl ?_
    show Ent _ (⟨_, [oBox b11_1 32 [aInt (netV (d + 1) a b (worstH k d) (mapR id k)), aSl 3 true aArc (netA (d + 1) a b (worstH k d) (mapR id k))]]⟩ : St) _
    refine ent_o rfl (ok_assign rfl) ?_
    refine ent_nil ?_
    refine ent_k hK6 ?_
    refine ent_seq fun K7 hK7 => ?_
    refine ent_region ?_
    refine ent_o rfl (ok_move rfl) ?_
    refine ent_o rfl (ok_conv8 (by rw [Try.underlying5]; rfl) Try.underlying3 rfl (by omega) (by omega)) ?_
    refine ent_o rfl (ok_move rfl) ?_
    refine ent_o rfl (ok_conv8 (by rw [Try.underlying5]; rfl) Try.underlying3 rfl (by omega) (by omega)) ?_
    refine ent_o rfl (ok_move rfl) ?_
    refine ent_o rfl (ok_conv8 (by rw [Try.underlying5]; rfl) Try.underlying3 rfl (by omega) (by omega)) ?_
    refine ent_o rfl (ok_move rfl) ?_
    refine ent_o rfl (ok_conv8 (by rw [Try.underlying5]; rfl) Try.underlying3 rfl (by omega) (by omega)) ?_
    refine ent_o rfl (ok_call (Cut_ok k d a b) rfl) ?_
    refine ent_o rfl (ok_move rfl) ?_
    refine ent_o rfl (ok_extract rfl rfl) ?_
    refine ent_o rfl (ok_extract rfl rfl) ?_
    refine ent_o rfl (ok_assign rfl) ?_
    refine ent_o rfl (ok_assign rfl) ?_
    refine ent_nil ?_
    refine ent_k hK7 ?_
    refine ent_seq fun K8 hK8 => ?_
    refine ent_seq fun K9 hK9 => ?_
    refine ent_cut (⟨[(11, aEx (.pointer (some ⟨b11_1, 0, none⟩))), (13, aInt (if cutBad k d a b then 0 else cutSum d a b k.toNat)), (74, aBool (decide (((((gErr (d + 1) a b (worstH k d) (mapR id k)) ≠ 0) ∨ ((if cutBad k d a b then 6 else 0 : Int) ≠ 0)) ∨ ((netErr (netV (d + 1) a b (worstH k d) (mapR id k)) (netA (d + 1) a b (worstH k d) (mapR id k))) ≠ 0)) ∨ ((netV (d + 1) a b (worstH k d) (mapR id k)) < 2))))], [oBox b11_1 32 [aInt (netV (d + 1) a b (worstH k d) (mapR id k)), aSl 3 true aArc (netA (d + 1) a b (worstH k d) (mapR id k))]]⟩) ?_ ?_
    · refine ent_region ?_
      refine ent_o rfl (ok_move rfl) ?_
      refine ent_o rfl (ok_neq rfl rfl) ?_
      refine ent_o rfl (ok_move rfl) ?_
      refine ent_guardXDf rfl rfl rfl rfl (fun hg61 => ?_) (fun hg61 => ?_)
      · refine ent_o rfl (ok_move rfl) ?_
        refine ent_guardXT rfl rfl rfl rfl (decide_eq_false hg61) ?_
        refine ent_o rfl (ok_neq rfl rfl) ?_
        refine ent_o rfl (ok_pickF rfl (decide_eq_false hg61) rfl) ?_
        refine ent_o rfl (ok_move rfl) ?_
        refine ent_guardXDf rfl rfl rfl rfl (fun hg65 => ?_) (fun hg65 => ?_)
        · refine ent_o rfl (ok_loadBS (k := 0) ti32 rfl rfl rfl) ?_
          refine ent_guardXT rfl rfl rfl rfl (decide_eq_false hg65) ?_
          refine ent_o rfl (ok_call (netCheck_ok (netV (d + 1) a b (worstH k d) (mapR id k)) (netA (d + 1) a b (worstH k d) (mapR id k)) hNt) rfl) ?_
          refine ent_guardXT rfl rfl rfl rfl (decide_eq_false hg65) ?_
          refine ent_o rfl (ok_neq rfl rfl) ?_
          refine ent_o rfl (ok_pickF rfl (decide_eq_false hg65) rfl) ?_
          refine ent_o rfl (ok_move rfl) ?_
          refine ent_guardXDf rfl rfl rfl rfl (fun hg70 => ?_) (fun hg70 => ?_)
          · refine ent_o rfl (ok_fieldAddrEx Try.runUnderlying32 rfl Try.sizeOf3 (by decide) rfl) ?_
            refine ent_guardXT rfl rfl rfl rfl (decide_eq_false hg70) ?_
            refine ent_o rfl (ok_loadB (k := 0) Try.isAgg3 rfl rfl rfl) ?_
            refine ent_guardXT rfl rfl rfl rfl (decide_eq_false hg70) ?_
            refine ent_o rfl (ok_lss rfl rfl) ?_
            refine ent_o rfl (ok_pickF rfl (decide_eq_false hg70) rfl) ?_
            refine ent_nil ?_
            exact ent_rep ⟨rfl, rfl, slot_bool (dq_Q ((or_iff_right (fun h => h.elim (fun h => h.elim hg61 hg65) hg70)).trans Iff.rfl)), trivial⟩ rfl
          · refine ent_guardXF rfl rfl rfl rfl (decide_eq_true hg70) ?_
            refine ent_guardXF rfl rfl rfl rfl (decide_eq_true hg70) ?_
            refine ent_o rfl (ok_pickT rfl (decide_eq_true hg70) rfl) ?_
            refine ent_nil ?_
            exact ent_rep ⟨rfl, rfl, slot_bool (dq_T rfl (Or.inl (Or.inr hg70))), trivial⟩ rfl
        · refine ent_guardXF rfl rfl rfl rfl (decide_eq_true hg65) ?_
          refine ent_guardXF rfl rfl rfl rfl (decide_eq_true hg65) ?_
          refine ent_o rfl (ok_pickT rfl (decide_eq_true hg65) rfl) ?_
          refine ent_o rfl (ok_move rfl) ?_
          refine ent_guardXF rfl rfl rfl rfl rfl ?_
          refine ent_guardXF rfl rfl rfl rfl rfl ?_
          refine ent_guardXF rfl rfl rfl rfl rfl ?_
          refine ent_o rfl (ok_pickT rfl rfl rfl) ?_
          refine ent_nil ?_
          exact ent_rep ⟨rfl, rfl, slot_bool (dq_T rfl (Or.inl (Or.inl (Or.inr hg65)))), trivial⟩ rfl
      · refine ent_guardXF rfl rfl rfl rfl (decide_eq_true hg61) ?_
        refine ent_o rfl (ok_pickT rfl (decide_eq_true hg61) rfl) ?_
        refine ent_o rfl (ok_move rfl) ?_
        refine ent_guardXF rfl rfl rfl rfl rfl ?_
        refine ent_guardXF rfl rfl rfl rfl rfl ?_
        refine ent_guardXF rfl rfl rfl rfl rfl ?_
        refine ent_o rfl (ok_pickT rfl rfl rfl) ?_
        refine ent_o rfl (ok_move rfl) ?_
        refine ent_guardXF rfl rfl rfl rfl rfl ?_
        refine ent_guardXF rfl rfl rfl rfl rfl ?_
        refine ent_guardXF rfl rfl rfl rfl rfl ?_
        refine ent_o rfl (ok_pickT rfl rfl rfl) ?_
        refine ent_nil ?_
        exact ent_rep ⟨rfl, rfl, slot_bool (dq_T rfl (Or.inl (Or.inl (Or.inl hg61)))), trivial⟩ rfl
    refine ent_k hK9 ?_
    refine ent_condD rfl (fun h74 => ?_) (fun h74 => ?_)
    · exfalso; rw [hE, if_neg hcb, netErr_zero hNt] at h74; omega
    · refine ent_skip ?_
      refine ent_k hK8 ?_
      refine ent_seq fun K10 hK10 => ?_
      refine ent_region ?_
      refine ent_o rfl (ok_loadBS (k := 0) ti32 rfl rfl rfl) ?_
      refine ent_o rfl (ok_fieldAddrEx Try.runUnderlying32 rfl Try.sizeOf3 (by decide) rfl) ?_
      refine ent_o rfl (ok_loadB (k := 0) Try.isAgg3 rfl rfl rfl) ?_
      refine ent_o rfl (ok_sub rfl rfl (by omega) (by omega)) ?_
      refine ent_o rfl (ok_call (Max_ok (netV (d + 1) a b (worstH k d) (mapR id k)) 0 ((netV (d + 1) a b (worstH k d) (mapR id k)) - 1) (netA (d + 1) a b (worstH k d) (mapR id k)) hNt (by first | rfl | assumption | omega | (simp_all; done) | grind) (by first | rfl | assumption | omega | (simp_all; done) | grind) (by first | rfl | assumption | omega | (simp_all; done) | grind) (by first | rfl | assumption | omega | (simp_all; done) | grind) (by first | rfl | assumption | omega | (simp_all; done) | grind)) rfl) ?_
      refine ent_exi 79 rfl (fun mv_2 hmv_2 => ?_)
      have hmx := hmv_2
      rw [hA, hV, show 2 * (d + 1 + ((worstH k d).length : Int)) + 2 - 1 = 2 * (d + 1 + ((worstH k d).length : Int)) + 1 by omega] at hmx
      have hbd := max_worst (by omega) (by omega) (by omega) a0 a1 b0 b1 hmx
      refine ent_o rfl (ok_field1 Try.runUnderlying44 rfl Try.isAgg3 rfl rfl) ?_
      refine ent_o rfl (ok_move rfl) ?_
      refine ent_o rfl (ok_eql rfl rfl) ?_
      refine ent_o rfl (ok_assign rfl) ?_
      refine ent_nil ?_
      refine ent_k hK10 ?_
      refine ent_ret ?_
      exact retR1 (.inr rfl) Try.results6 (resr_tmp (res_cv rfl (cv_bool (by first | rfl | (rw [if_neg hcb]; exact decide_eq_true hbd)))))
end Go.Proofs.Ytaipghchkamajaa
