/-
  The search over a network with a flow.
-/
import Derived.Test.YtaipghchkamajaaProg
import Derived.Test.YtaipghchkamajaaTab
import Derived.Test.YtaipghchkamajaaPlainFx
import Derived.Test.YtaipghchkamajaaCz
import Derived.Test.YtaipghchkamajaaLists
import Derived.Test.YtaipghchkamajaaGraph
open Go Go.Cw
namespace Go.Proofs.Ytaipghchkamajaa
set_option maxRecDepth 100000
set_option linter.unusedVariables false
set_option linter.unusedSimpArgs false
theorem CutArgs_ok (k d a b : Int)  : Ctr Try.prog 17 [aInt k, aInt d, aInt a, aInt b] (aInt (if cutBad k d a b then 6 else 0)) := by
  refine ctr_of Try.call17 Try.func17 rfl rfl ?_
  intro w O
  refine ent_seq fun K1 hK1 => ?_
  refine ent_region ?_
  refine ent_o rfl (ok_assign rfl) ?_
  refine ent_nil ?_
  refine ent_k hK1 ?_
  refine ent_seq fun K2 hK2 => ?_
  refine ent_seq fun K3 hK3 => ?_
  refine ent_cut (⟨[(35, aBool (decide (((((((k < 1) ∨ (d < k)) ∨ (64 < d)) ∨ (a < 0)) ∨ (1048576 < a)) ∨ (b < 0)) ∨ (1048576 < b))))], []⟩) ?_ ?_
  · refine ent_region ?_
    refine ent_o rfl (ok_move rfl) ?_
    refine ent_o rfl (ok_lss rfl rfl) ?_
    refine ent_o rfl (ok_move rfl) ?_
    refine ent_guardXDf rfl rfl rfl rfl (fun hg11 => ?_) (fun hg11 => ?_)
    · refine ent_o rfl (ok_move rfl) ?_
      refine ent_guardXT rfl rfl rfl rfl (decide_eq_false hg11) ?_
      refine ent_o rfl (ok_move rfl) ?_
      refine ent_guardXT rfl rfl rfl rfl (decide_eq_false hg11) ?_
      refine ent_o rfl (ok_gtr rfl rfl) ?_
      refine ent_o rfl (ok_pickF rfl (decide_eq_false hg11) rfl) ?_
      refine ent_o rfl (ok_move rfl) ?_
      refine ent_guardXDf rfl rfl rfl rfl (fun hg16 => ?_) (fun hg16 => ?_)
      · refine ent_o rfl (ok_move rfl) ?_
        refine ent_guardXT rfl rfl rfl rfl (decide_eq_false hg16) ?_
        refine ent_o rfl (ok_gtr rfl rfl) ?_
        refine ent_o rfl (ok_pickF rfl (decide_eq_false hg16) rfl) ?_
        refine ent_o rfl (ok_move rfl) ?_
        refine ent_guardXDf rfl rfl rfl rfl (fun hg20 => ?_) (fun hg20 => ?_)
        · refine ent_o rfl (ok_move rfl) ?_
          refine ent_guardXT rfl rfl rfl rfl (decide_eq_false hg20) ?_
          refine ent_o rfl (ok_lss rfl rfl) ?_
          refine ent_o rfl (ok_pickF rfl (decide_eq_false hg20) rfl) ?_
          refine ent_o rfl (ok_move rfl) ?_
          refine ent_guardXDf rfl rfl rfl rfl (fun hg24 => ?_) (fun hg24 => ?_)
          · refine ent_o rfl (ok_move rfl) ?_
            refine ent_guardXT rfl rfl rfl rfl (decide_eq_false hg24) ?_
            refine ent_o rfl (ok_gtr rfl rfl) ?_
            refine ent_o rfl (ok_pickF rfl (decide_eq_false hg24) rfl) ?_
            refine ent_o rfl (ok_move rfl) ?_
            refine ent_guardXDf rfl rfl rfl rfl (fun hg28 => ?_) (fun hg28 => ?_)
            · refine ent_o rfl (ok_move rfl) ?_
              refine ent_guardXT rfl rfl rfl rfl (decide_eq_false hg28) ?_
              refine ent_o rfl (ok_lss rfl rfl) ?_
              refine ent_o rfl (ok_pickF rfl (decide_eq_false hg28) rfl) ?_
              refine ent_o rfl (ok_move rfl) ?_
              refine ent_guardXDf rfl rfl rfl rfl (fun hg32 => ?_) (fun hg32 => ?_)
              · refine ent_o rfl (ok_move rfl) ?_
                refine ent_guardXT rfl rfl rfl rfl (decide_eq_false hg32) ?_
                refine ent_o rfl (ok_gtr rfl rfl) ?_
                refine ent_o rfl (ok_pickF rfl (decide_eq_false hg32) rfl) ?_
                refine ent_nil ?_
                exact ent_rep ⟨slot_bool (dq_Q ((or_iff_right (fun h => h.elim (fun h => h.elim (fun h => h.elim (fun h => h.elim (fun h => h.elim hg11 hg16) hg20) hg24) hg28) hg32)).trans Iff.rfl)), trivial⟩ rfl
              · refine ent_guardXF rfl rfl rfl rfl (decide_eq_true hg32) ?_
                refine ent_o rfl (ok_pickT rfl (decide_eq_true hg32) rfl) ?_
                refine ent_nil ?_
                exact ent_rep ⟨slot_bool (dq_T rfl (Or.inl (Or.inr hg32))), trivial⟩ rfl
            · refine ent_guardXF rfl rfl rfl rfl (decide_eq_true hg28) ?_
              refine ent_o rfl (ok_pickT rfl (decide_eq_true hg28) rfl) ?_
              refine ent_o rfl (ok_move rfl) ?_
              refine ent_guardXF rfl rfl rfl rfl rfl ?_
              refine ent_guardXF rfl rfl rfl rfl rfl ?_
              refine ent_o rfl (ok_pickT rfl rfl rfl) ?_
              refine ent_nil ?_
              exact ent_rep ⟨slot_bool (dq_T rfl (Or.inl (Or.inl (Or.inr hg28)))), trivial⟩ rfl
          · refine ent_guardXF rfl rfl rfl rfl (decide_eq_true hg24) ?_
            refine ent_o rfl (ok_pickT rfl (decide_eq_true hg24) rfl) ?_
            refine ent_o rfl (ok_move rfl) ?_
            refine ent_guardXF rfl rfl rfl rfl rfl ?_
            refine ent_guardXF rfl rfl rfl rfl rfl ?_
            refine ent_o rfl (ok_pickT rfl rfl rfl) ?_
            refine ent_o rfl (ok_move rfl) ?_
            refine ent_guardXF rfl rfl rfl rfl rfl ?_
            refine ent_guardXF rfl rfl rfl rfl rfl ?_
            refine ent_o rfl (ok_pickT rfl rfl rfl) ?_
            refine ent_nil ?_
            exact ent_rep ⟨slot_bool (dq_T rfl (Or.inl (Or.inl (Or.inl (Or.inr hg24))))), trivial⟩ rfl
        · refine ent_guardXF rfl rfl rfl rfl (decide_eq_true hg20) ?_
          refine ent_o rfl (ok_pickT rfl (decide_eq_true hg20) rfl) ?_
          refine ent_o rfl (ok_move rfl) ?_
          refine ent_guardXF rfl rfl rfl rfl rfl ?_
          refine ent_guardXF rfl rfl rfl rfl rfl ?_
          refine ent_o rfl (ok_pickT rfl rfl rfl) ?_
          refine ent_o rfl (ok_move rfl) ?_
          refine ent_guardXF rfl rfl rfl rfl rfl ?_
          refine ent_guardXF rfl rfl rfl rfl rfl ?_
          refine ent_o rfl (ok_pickT rfl rfl rfl) ?_
          refine ent_o rfl (ok_move rfl) ?_
          refine ent_guardXF rfl rfl rfl rfl rfl ?_
          refine ent_guardXF rfl rfl rfl rfl rfl ?_
          refine ent_o rfl (ok_pickT rfl rfl rfl) ?_
          refine ent_nil ?_
          exact ent_rep ⟨slot_bool (dq_T rfl (Or.inl (Or.inl (Or.inl (Or.inl (Or.inr hg20)))))), trivial⟩ rfl
      · refine ent_guardXF rfl rfl rfl rfl (decide_eq_true hg16) ?_
        refine ent_o rfl (ok_pickT rfl (decide_eq_true hg16) rfl) ?_
        refine ent_o rfl (ok_move rfl) ?_
        refine ent_guardXF rfl rfl rfl rfl rfl ?_
        refine ent_guardXF rfl rfl rfl rfl rfl ?_
        refine ent_o rfl (ok_pickT rfl rfl rfl) ?_
        refine ent_o rfl (ok_move rfl) ?_
        refine ent_guardXF rfl rfl rfl rfl rfl ?_
        refine ent_guardXF rfl rfl rfl rfl rfl ?_
        refine ent_o rfl (ok_pickT rfl rfl rfl) ?_
        refine ent_o rfl (ok_move rfl) ?_
        refine ent_guardXF rfl rfl rfl rfl rfl ?_
        refine ent_guardXF rfl rfl rfl rfl rfl ?_
        refine ent_o rfl (ok_pickT rfl rfl rfl) ?_
        refine ent_o rfl (ok_move rfl) ?_
        refine ent_guardXF rfl rfl rfl rfl rfl ?_
        refine ent_guardXF rfl rfl rfl rfl rfl ?_
        refine ent_o rfl (ok_pickT rfl rfl rfl) ?_
        refine ent_nil ?_
        exact ent_rep ⟨slot_bool (dq_T rfl (Or.inl (Or.inl (Or.inl (Or.inl (Or.inl (Or.inr hg16))))))), trivial⟩ rfl
    · refine ent_guardXF rfl rfl rfl rfl (decide_eq_true hg11) ?_
      refine ent_guardXF rfl rfl rfl rfl (decide_eq_true hg11) ?_
      refine ent_o rfl (ok_pickT rfl (decide_eq_true hg11) rfl) ?_
      refine ent_o rfl (ok_move rfl) ?_
      refine ent_guardXF rfl rfl rfl rfl rfl ?_
      refine ent_guardXF rfl rfl rfl rfl rfl ?_
      refine ent_o rfl (ok_pickT rfl rfl rfl) ?_
      refine ent_o rfl (ok_move rfl) ?_
      refine ent_guardXF rfl rfl rfl rfl rfl ?_
      refine ent_guardXF rfl rfl rfl rfl rfl ?_
      refine ent_o rfl (ok_pickT rfl rfl rfl) ?_
      refine ent_o rfl (ok_move rfl) ?_
      refine ent_guardXF rfl rfl rfl rfl rfl ?_
      refine ent_guardXF rfl rfl rfl rfl rfl ?_
      refine ent_o rfl (ok_pickT rfl rfl rfl) ?_
      refine ent_o rfl (ok_move rfl) ?_
      refine ent_guardXF rfl rfl rfl rfl rfl ?_
      refine ent_guardXF rfl rfl rfl rfl rfl ?_
      refine ent_o rfl (ok_pickT rfl rfl rfl) ?_
      refine ent_o rfl (ok_move rfl) ?_
      refine ent_guardXF rfl rfl rfl rfl rfl ?_
      refine ent_guardXF rfl rfl rfl rfl rfl ?_
      refine ent_o rfl (ok_pickT rfl rfl rfl) ?_
      refine ent_nil ?_
      exact ent_rep ⟨slot_bool (dq_T rfl (Or.inl (Or.inl (Or.inl (Or.inl (Or.inl (Or.inl hg11))))))), trivial⟩ rfl
  refine ent_k hK3 ?_
  refine ent_condD rfl (fun h35 => ?_) (fun h35 => ?_)
  · refine ent_seq fun K4 hK4 => ?_
    refine ent_region ?_
    refine ent_o rfl (ok_assign rfl) ?_
    refine ent_nil ?_
    refine ent_k hK4 ?_
    refine ent_ret ?_
    exact retR1 (.inr rfl) Try.results17 (resr_tmp (res_cv rfl (cv_int (by exact (if_pos (show cutBad k d a b by unfold cutBad; omega)).symm))))
  · refine ent_skip ?_
    refine ent_k hK2 ?_
    refine ent_seq fun K5 hK5 => ?_
    refine ent_region ?_
    refine ent_o rfl (ok_assign rfl) ?_
    refine ent_nil ?_
    refine ent_k hK5 ?_
    refine ent_ret ?_
    exact retR1 (.inr rfl) Try.results17 (resr_tmp (res_cv rfl (cv_int (by exact (if_neg (show ¬ cutBad k d a b by unfold cutBad; omega)).symm))))

theorem netCheck_ok (V : Int) (A : List Arc3) (hN : NetOk V A) : Ctr Try.prog 23 [aAgg [aInt V, aSl 3 true aArc A]] (aInt (netErr V A)) := by
  refine ctr_of Try.call23 Try.func23 rfl rfl ?_
  intro w O
  refine ent_lenC 0 1 rfl rfl (fun hlen0_1 => ?_)
  refine ent_seq fun K1 hK1 => ?_
  refine ent_region ?_
  refine ent_boxS rfl rfl (AllOne.mem ⟨(one_int _), one_sl, trivial⟩) (fun b1_1 => ?_)
  refine ent_o rfl (ok_assign rfl) ?_
  refine ent_nil ?_
  refine ent_k hK1 ?_
  refine ent_seq fun K2 hK2 => ?_
  refine ent_seq fun K3 hK3 => ?_
  refine ent_cut (⟨[(1, aEx (.pointer (some ⟨b1_1, 0, none⟩))), (12, aBool (decide ((V < 1) ∨ (256 < V))))], [oBox b1_1 32 [aInt V, aSl 3 true aArc A]]⟩) ?_ ?_
  · refine ent_region ?_
    refine ent_o rfl (ok_fieldAddrEx Try.runUnderlying32 rfl Try.sizeOf3 (by decide) rfl) ?_
    refine ent_o rfl (ok_loadB (k := 0) Try.isAgg3 rfl rfl rfl) ?_
    refine ent_o rfl (ok_lss rfl rfl) ?_
    refine ent_o rfl (ok_move rfl) ?_
    refine ent_guardXDf rfl rfl rfl rfl (fun hg8 => ?_) (fun hg8 => ?_)
    · refine ent_o rfl (ok_fieldAddrEx Try.runUnderlying32 rfl Try.sizeOf3 (by decide) rfl) ?_
      refine ent_guardXT rfl rfl rfl rfl (decide_eq_false hg8) ?_
      refine ent_o rfl (ok_loadB (k := 0) Try.isAgg3 rfl rfl rfl) ?_
      refine ent_guardXT rfl rfl rfl rfl (decide_eq_false hg8) ?_
      refine ent_o rfl (ok_gtr rfl rfl) ?_
      refine ent_o rfl (ok_pickF rfl (decide_eq_false hg8) rfl) ?_
      refine ent_nil ?_
      exact ent_rep ⟨rfl, slot_bool (dq_Q ((or_iff_right hg8).trans Iff.rfl)), trivial⟩ rfl
    · refine ent_guardXF rfl rfl rfl rfl (decide_eq_true hg8) ?_
      refine ent_guardXF rfl rfl rfl rfl (decide_eq_true hg8) ?_
      refine ent_o rfl (ok_pickT rfl (decide_eq_true hg8) rfl) ?_
      refine ent_nil ?_
      exact ent_rep ⟨rfl, slot_bool (dq_T rfl (Or.inl hg8)), trivial⟩ rfl
  refine ent_k hK3 ?_
  refine ent_condD rfl (fun h12 => ?_) (fun h12 => ?_)
  · exfalso; have h1 := hN.v1; have h2 := hN.v2; omega
  · refine ent_skip ?_
    refine ent_k hK2 ?_
    refine ent_seq fun K4 hK4 => ?_
    refine ent_seq fun K5 hK5 => ?_
    refine ent_region ?_
    refine ent_o rfl (ok_fieldAddrEx Try.runUnderlying32 rfl Try.sizeOf30 (by decide) rfl) ?_
    refine ent_o rfl (ok_loadB (k := 0) Try.isAgg30 rfl rfl rfl) ?_
    refine ent_o rfl (ok_len rfl Try.runUnderlying30 rfl) ?_
    refine ent_o rfl (ok_gtr rfl rfl) ?_
    refine ent_nil ?_
    refine ent_k hK5 ?_
    refine ent_condD rfl (fun h16 => ?_) (fun h16 => ?_)
    · exfalso; have h1 := hN.few; omega
    · refine ent_skip ?_
      refine ent_k hK4 ?_
      refine ent_seq fun K6 hK6 => ?_
      refine ent_seq fun K7 hK7 => ?_
      refine ent_region ?_
      refine ent_o rfl (ok_assign rfl) ?_
      refine ent_nil ?_
      refine ent_k hK7 ?_
      refine ent_block ?_
      refine ent_loop (fun (i : Int) => (⟨[(1, aEx (.pointer (some ⟨b1_1, 0, none⟩))), (3, aInt i)], [oBox b1_1 32 [aInt V, aSl 3 true aArc A]]⟩ : St)) (fun (i : Int) => (0 ≤ i) ∧ (i ≤ A.length)) (fun (i : Int) => (A.length - i).toNat) 0 ⟨(by first | rfl | assumption | omega | (simp_all; done) | grind), (by first | rfl | assumption | omega | (simp_all; done) | grind)⟩ (ent_rep ⟨rfl, slot_av (av_int (show 0 = (0 : Int) by first | rfl | assumption | omega | (simp_all; done) | grind)), trivial⟩ rfl) ?_
      rintro i ⟨h0, h1⟩
      show Ent _ (⟨[(1, aEx (.pointer (some ⟨b1_1, 0, none⟩))), (3, aInt i)], [oBox b1_1 32 [aInt V, aSl 3 true aArc A]]⟩ : St) _
      refine ent_seq fun K8 hK8 => ?_
      refine ent_seq fun K9 hK9 => ?_
      refine ent_region ?_
      refine ent_o rfl (ok_move rfl) ?_
      refine ent_o rfl (ok_fieldAddrEx Try.runUnderlying32 rfl Try.sizeOf30 (by decide) rfl) ?_
      refine ent_o rfl (ok_loadB (k := 0) Try.isAgg30 rfl rfl rfl) ?_
      refine ent_o rfl (ok_len rfl Try.runUnderlying30 rfl) ?_
      refine ent_o rfl (ok_lss rfl rfl) ?_
      refine ent_nil ?_
      refine ent_k hK9 ?_
      refine ent_condD rfl (fun h21 => ?_) (fun h21 => ?_)
      · refine ent_skip ?_
        refine ent_k hK8 ?_
        refine ent_seq fun K10 hK10 => ?_
        refine ent_block ?_
        refine ent_seq fun K11 hK11 => ?_
        refine ent_region ?_
        refine ent_o rfl (ok_fieldAddrEx Try.runUnderlying32 rfl Try.sizeOf30 (by decide) rfl) ?_
        refine ent_o rfl (ok_loadB (k := 0) Try.isAgg30 rfl rfl rfl) ?_
        refine ent_o rfl (ok_move rfl) ?_
        refine ent_o rfl (ok_index (0, 0, 0) sl30 rfl rfl (by omega) (by omega)) ?_
        refine ent_o rfl (ok_load ti89 rfl) ?_
        refine ent_alloc (z := .agg #[.int .i64 0, .int .i64 0, .int .i64 0]) [aInt 0, aInt 0, aInt 0] rfl zv89 rfl zc89 (fun b4_2 => ?_)
        refine ent_storeBS (k := 0) Try.sizeOf89 rfl rfl rfl (AllOne.mem ⟨(one_int _), (one_int _), (one_int _), trivial⟩) rfl rfl ?_
        show Ent _ (⟨_, [oBox b4_2 89 [aInt ((ix (0, 0, 0) A i).1), aInt ((ix (0, 0, 0) A i).2.1), aInt ((ix (0, 0, 0) A i).2.2)], oBox b1_1 32 [aInt V, aSl 3 true aArc A]]⟩ : St) _
        refine ent_nil ?_
        refine ent_k hK11 ?_
        refine ent_seq fun K12 hK12 => ?_
        refine ent_cut (⟨[(1, aEx (.pointer (some ⟨b1_1, 0, none⟩))), (3, aInt i), (60, aBool (decide ((((((((ix (0, 0, 0) A i).1) < 0) ∨ (V ≤ ((ix (0, 0, 0) A i).1))) ∨ (((ix (0, 0, 0) A i).2.1) < 0)) ∨ (V ≤ ((ix (0, 0, 0) A i).2.1))) ∨ (((ix (0, 0, 0) A i).2.2) < 0)) ∨ (1099511627776 < ((ix (0, 0, 0) A i).2.2)))))], [oBox b4_2 89 [aInt ((ix (0, 0, 0) A i).1), aInt ((ix (0, 0, 0) A i).2.1), aInt ((ix (0, 0, 0) A i).2.2)], oBox b1_1 32 [aInt V, aSl 3 true aArc A]]⟩) ?_ ?_
        · refine ent_region ?_
          refine ent_o rfl (ok_fieldAddrEx Try.runUnderlying89 rfl Try.sizeOf3 (by decide) rfl) ?_
          refine ent_o rfl (ok_loadB (k := 0) Try.isAgg3 rfl rfl rfl) ?_
          refine ent_o rfl (ok_lss rfl rfl) ?_
          refine ent_o rfl (ok_move rfl) ?_
          refine ent_guardXDf rfl rfl rfl rfl (fun hg32 => ?_) (fun hg32 => ?_)
          · refine ent_o rfl (ok_fieldAddrEx Try.runUnderlying89 rfl Try.sizeOf3 (by decide) rfl) ?_
            refine ent_guardXT rfl rfl rfl rfl (decide_eq_false hg32) ?_
            refine ent_o rfl (ok_loadB (k := 0) Try.isAgg3 rfl rfl rfl) ?_
            refine ent_guardXT rfl rfl rfl rfl (decide_eq_false hg32) ?_
            refine ent_o rfl (ok_fieldAddrEx Try.runUnderlying32 rfl Try.sizeOf3 (by decide) rfl) ?_
            refine ent_guardXT rfl rfl rfl rfl (decide_eq_false hg32) ?_
            refine ent_o rfl (ok_loadB (k := 1) Try.isAgg3 rfl rfl rfl) ?_
            refine ent_guardXT rfl rfl rfl rfl (decide_eq_false hg32) ?_
            refine ent_o rfl (ok_geq rfl rfl) ?_
            refine ent_o rfl (ok_pickF rfl (decide_eq_false hg32) rfl) ?_
            refine ent_o rfl (ok_move rfl) ?_
            refine ent_guardXDf rfl rfl rfl rfl (fun hg39 => ?_) (fun hg39 => ?_)
            · refine ent_o rfl (ok_fieldAddrEx Try.runUnderlying89 rfl Try.sizeOf3 (by decide) rfl) ?_
              refine ent_guardXT rfl rfl rfl rfl (decide_eq_false hg39) ?_
              refine ent_o rfl (ok_loadB (k := 0) Try.isAgg3 rfl rfl rfl) ?_
              refine ent_guardXT rfl rfl rfl rfl (decide_eq_false hg39) ?_
              refine ent_o rfl (ok_lss rfl rfl) ?_
              refine ent_o rfl (ok_pickF rfl (decide_eq_false hg39) rfl) ?_
              refine ent_o rfl (ok_move rfl) ?_
              refine ent_guardXDf rfl rfl rfl rfl (fun hg44 => ?_) (fun hg44 => ?_)
              · refine ent_o rfl (ok_fieldAddrEx Try.runUnderlying89 rfl Try.sizeOf3 (by decide) rfl) ?_
                refine ent_guardXT rfl rfl rfl rfl (decide_eq_false hg44) ?_
                refine ent_o rfl (ok_loadB (k := 0) Try.isAgg3 rfl rfl rfl) ?_
                refine ent_guardXT rfl rfl rfl rfl (decide_eq_false hg44) ?_
                refine ent_o rfl (ok_fieldAddrEx Try.runUnderlying32 rfl Try.sizeOf3 (by decide) rfl) ?_
                refine ent_guardXT rfl rfl rfl rfl (decide_eq_false hg44) ?_
                refine ent_o rfl (ok_loadB (k := 1) Try.isAgg3 rfl rfl rfl) ?_
                refine ent_guardXT rfl rfl rfl rfl (decide_eq_false hg44) ?_
                refine ent_o rfl (ok_geq rfl rfl) ?_
                refine ent_o rfl (ok_pickF rfl (decide_eq_false hg44) rfl) ?_
                refine ent_o rfl (ok_move rfl) ?_
                refine ent_guardXDf rfl rfl rfl rfl (fun hg51 => ?_) (fun hg51 => ?_)
                · refine ent_o rfl (ok_fieldAddrEx Try.runUnderlying89 rfl Try.sizeOf3 (by decide) rfl) ?_
                  refine ent_guardXT rfl rfl rfl rfl (decide_eq_false hg51) ?_
                  refine ent_o rfl (ok_loadB (k := 0) Try.isAgg3 rfl rfl rfl) ?_
                  refine ent_guardXT rfl rfl rfl rfl (decide_eq_false hg51) ?_
                  refine ent_o rfl (ok_lss rfl rfl) ?_
                  refine ent_o rfl (ok_pickF rfl (decide_eq_false hg51) rfl) ?_
                  refine ent_o rfl (ok_move rfl) ?_
                  refine ent_guardXDf rfl rfl rfl rfl (fun hg56 => ?_) (fun hg56 => ?_)
                  · refine ent_o rfl (ok_fieldAddrEx Try.runUnderlying89 rfl Try.sizeOf3 (by decide) rfl) ?_
                    refine ent_guardXT rfl rfl rfl rfl (decide_eq_false hg56) ?_
                    refine ent_o rfl (ok_loadB (k := 0) Try.isAgg3 rfl rfl rfl) ?_
                    refine ent_guardXT rfl rfl rfl rfl (decide_eq_false hg56) ?_
                    refine ent_o rfl (ok_gtr rfl rfl) ?_
                    refine ent_o rfl (ok_pickF rfl (decide_eq_false hg56) rfl) ?_
                    refine ent_nil ?_
                    exact ent_rep ⟨rfl, rfl, slot_bool (dq_Q ((or_iff_right (fun h => h.elim (fun h => h.elim (fun h => h.elim (fun h => h.elim hg32 hg39) hg44) hg51) hg56)).trans Iff.rfl)), trivial⟩ rfl
                  · refine ent_guardXF rfl rfl rfl rfl (decide_eq_true hg56) ?_
                    refine ent_guardXF rfl rfl rfl rfl (decide_eq_true hg56) ?_
                    refine ent_o rfl (ok_pickT rfl (decide_eq_true hg56) rfl) ?_
                    refine ent_nil ?_
                    exact ent_rep ⟨rfl, rfl, slot_bool (dq_T rfl (Or.inl (Or.inr hg56))), trivial⟩ rfl
                · refine ent_guardXF rfl rfl rfl rfl (decide_eq_true hg51) ?_
                  refine ent_guardXF rfl rfl rfl rfl (decide_eq_true hg51) ?_
                  refine ent_o rfl (ok_pickT rfl (decide_eq_true hg51) rfl) ?_
                  refine ent_o rfl (ok_move rfl) ?_
                  refine ent_guardXF rfl rfl rfl rfl rfl ?_
                  refine ent_guardXF rfl rfl rfl rfl rfl ?_
                  refine ent_guardXF rfl rfl rfl rfl rfl ?_
                  refine ent_o rfl (ok_pickT rfl rfl rfl) ?_
                  refine ent_nil ?_
                  exact ent_rep ⟨rfl, rfl, slot_bool (dq_T rfl (Or.inl (Or.inl (Or.inr hg51)))), trivial⟩ rfl
              · refine ent_guardXF rfl rfl rfl rfl (decide_eq_true hg44) ?_
                refine ent_guardXF rfl rfl rfl rfl (decide_eq_true hg44) ?_
                refine ent_guardXF rfl rfl rfl rfl (decide_eq_true hg44) ?_
                refine ent_guardXF rfl rfl rfl rfl (decide_eq_true hg44) ?_
                refine ent_o rfl (ok_pickT rfl (decide_eq_true hg44) rfl) ?_
                refine ent_o rfl (ok_move rfl) ?_
                refine ent_guardXF rfl rfl rfl rfl rfl ?_
                refine ent_guardXF rfl rfl rfl rfl rfl ?_
                refine ent_guardXF rfl rfl rfl rfl rfl ?_
                refine ent_o rfl (ok_pickT rfl rfl rfl) ?_
                refine ent_o rfl (ok_move rfl) ?_
                refine ent_guardXF rfl rfl rfl rfl rfl ?_
                refine ent_guardXF rfl rfl rfl rfl rfl ?_
                refine ent_guardXF rfl rfl rfl rfl rfl ?_
                refine ent_o rfl (ok_pickT rfl rfl rfl) ?_
                refine ent_nil ?_
                exact ent_rep ⟨rfl, rfl, slot_bool (dq_T rfl (Or.inl (Or.inl (Or.inl (Or.inr hg44))))), trivial⟩ rfl
            · refine ent_guardXF rfl rfl rfl rfl (decide_eq_true hg39) ?_
              refine ent_guardXF rfl rfl rfl rfl (decide_eq_true hg39) ?_
              refine ent_o rfl (ok_pickT rfl (decide_eq_true hg39) rfl) ?_
              refine ent_o rfl (ok_move rfl) ?_
              refine ent_guardXF rfl rfl rfl rfl rfl ?_
              refine ent_guardXF rfl rfl rfl rfl rfl ?_
              refine ent_guardXF rfl rfl rfl rfl rfl ?_
              refine ent_guardXF rfl rfl rfl rfl rfl ?_
              refine ent_guardXF rfl rfl rfl rfl rfl ?_
              refine ent_o rfl (ok_pickT rfl rfl rfl) ?_
              refine ent_o rfl (ok_move rfl) ?_
              refine ent_guardXF rfl rfl rfl rfl rfl ?_
              refine ent_guardXF rfl rfl rfl rfl rfl ?_
              refine ent_guardXF rfl rfl rfl rfl rfl ?_
              refine ent_o rfl (ok_pickT rfl rfl rfl) ?_
              refine ent_o rfl (ok_move rfl) ?_
              refine ent_guardXF rfl rfl rfl rfl rfl ?_
              refine ent_guardXF rfl rfl rfl rfl rfl ?_
              refine ent_guardXF rfl rfl rfl rfl rfl ?_
              refine ent_o rfl (ok_pickT rfl rfl rfl) ?_
              refine ent_nil ?_
              exact ent_rep ⟨rfl, rfl, slot_bool (dq_T rfl (Or.inl (Or.inl (Or.inl (Or.inl (Or.inr hg39)))))), trivial⟩ rfl
          · refine ent_guardXF rfl rfl rfl rfl (decide_eq_true hg32) ?_
            refine ent_guardXF rfl rfl rfl rfl (decide_eq_true hg32) ?_
            refine ent_guardXF rfl rfl rfl rfl (decide_eq_true hg32) ?_
            refine ent_guardXF rfl rfl rfl rfl (decide_eq_true hg32) ?_
            refine ent_o rfl (ok_pickT rfl (decide_eq_true hg32) rfl) ?_
            refine ent_o rfl (ok_move rfl) ?_
            refine ent_guardXF rfl rfl rfl rfl rfl ?_
            refine ent_guardXF rfl rfl rfl rfl rfl ?_
            refine ent_guardXF rfl rfl rfl rfl rfl ?_
            refine ent_o rfl (ok_pickT rfl rfl rfl) ?_
            refine ent_o rfl (ok_move rfl) ?_
            refine ent_guardXF rfl rfl rfl rfl rfl ?_
            refine ent_guardXF rfl rfl rfl rfl rfl ?_
            refine ent_guardXF rfl rfl rfl rfl rfl ?_
            refine ent_guardXF rfl rfl rfl rfl rfl ?_
            refine ent_guardXF rfl rfl rfl rfl rfl ?_
            refine ent_o rfl (ok_pickT rfl rfl rfl) ?_
            refine ent_o rfl (ok_move rfl) ?_
            refine ent_guardXF rfl rfl rfl rfl rfl ?_
            refine ent_guardXF rfl rfl rfl rfl rfl ?_
            refine ent_guardXF rfl rfl rfl rfl rfl ?_
            refine ent_o rfl (ok_pickT rfl rfl rfl) ?_
            refine ent_o rfl (ok_move rfl) ?_
            refine ent_guardXF rfl rfl rfl rfl rfl ?_
            refine ent_guardXF rfl rfl rfl rfl rfl ?_
            refine ent_guardXF rfl rfl rfl rfl rfl ?_
            refine ent_o rfl (ok_pickT rfl rfl rfl) ?_
            refine ent_nil ?_
            exact ent_rep ⟨rfl, rfl, slot_bool (dq_T rfl (Or.inl (Or.inl (Or.inl (Or.inl (Or.inl hg32)))))), trivial⟩ rfl
        refine ent_k hK12 ?_
        refine ent_condD rfl (fun h60 => ?_) (fun h60 => ?_)
        · exact absurd (ix_mem (0, 0, 0) A h0 h21) (fun hm => hN.arcs _ hm h60)
        · refine ent_skip ?_
          refine ent_k hK10 ?_
          refine ent_region ?_
          refine ent_o rfl (ok_move rfl) ?_
          refine ent_o rfl (ok_add rfl rfl (by omega) (by omega)) ?_
          refine ent_o rfl (ok_assign rfl) ?_
          refine ent_nil ?_
          refine ent_drop 0 ?_
          refine ent_again (s := (i)) (i + 1) ⟨(by first | rfl | assumption | omega | (simp_all; done) | grind), (by first | rfl | assumption | omega | (simp_all; done) | grind)⟩ (by first | omega | (dsimp only; omega)) (ent_rep ⟨rfl, rfl, trivial⟩ rfl)
      · refine ent_exit ?_
        refine ent_k hK6 ?_
        refine ent_seq fun K13 hK13 => ?_
        refine ent_region ?_
        refine ent_o rfl (ok_assign rfl) ?_
        refine ent_nil ?_
        refine ent_k hK13 ?_
        refine ent_ret ?_
        exact retR1 (.inr rfl) Try.results23 (resr_tmp (res_cv rfl (cv_int (by exact (netErr_zero hN).symm))))

set_option maxHeartbeats 1000000 in
theorem Reach_ok (V s : Int) (A : List Arc3) (l : List Int) (hN : NetOk V A) (hl : AlOk A l) (s0 : 0 ≤ s) (s1 : s < V) : CtrF Try.prog 50 [aAgg [aInt V, aSl 3 true aArc A], aSl 1 false aInt l, aInt s] (aExi (fun (stp : List Int) => RchOk V A l s stp) (fun (stp : List Int) => aSl 1 false aInt stp)) := by
  have hV1 := hN.v1
  have hV2 := hN.v2
  have hfewA := hN.few
  have hll := hl.len
  refine ctrF_of Try.call50 Try.func50 rfl rfl ?_
  intro w O
  refine ent_lenC 0 1 rfl rfl (fun hlen0_1 => ?_)
  refine ent_len 1 rfl (fun hlen1 => ?_)
  refine ent_seq fun K1 hK1 => ?_
  refine ent_region ?_
  refine ent_boxS rfl rfl (AllOne.mem ⟨(one_int _), one_sl, trivial⟩) (fun b3_1 => ?_)
  refine ent_o rfl (ok_assign rfl) ?_
  refine ent_nil ?_
  refine ent_k hK1 ?_
  refine ent_seq fun K2 hK2 => ?_
  refine ent_region ?_
  refine ent_o rfl (ok_fieldAddrEx Try.runUnderlying32 rfl Try.sizeOf3 (by decide) rfl) ?_
  refine ent_o rfl (ok_loadB (k := 0) Try.isAgg3 rfl rfl rfl) ?_
  refine ent_make aH Hdr.no rfl vt65 rfl rfl (by first | omega | (simp only [List.length_set]; omega)) (by first | omega | (simp only [List.length_set]; omega)) (by first | omega | (simp only [List.length_set]; omega)) (fun _ _ => rfl) (AllV.mem ⟨rfl, trivial⟩) (fun b21_2 => ?_)
  refine ent_rowsN 3 aInt ((V).toNat) ?_
  refine ent_o rfl (ok_assign rfl) ?_
  refine ent_nil ?_
  refine ent_k hK2 ?_
  refine ent_seq fun K3 hK3 => ?_
  refine ent_seq fun K4 hK4 => ?_
  refine ent_region ?_
  refine ent_o rfl (ok_assign rfl) ?_
  refine ent_nil ?_
  refine ent_k hK4 ?_
  refine ent_block ?_
  refine ent_loop (fun (ss : Int × List Hdr × List (List Int)) => match ss with | (i, Hs, X) => (⟨[(1, aSl 1 false aInt l), (2, aInt s), (3, aEx (.pointer (some ⟨b3_1, 0, none⟩))), (7, aEx (vec (some b21_2) ((V).toNat) ((V).toNat))), (8, aInt i)], [oRws 3 aInt [] Hs X, oVec (some b21_2) ((V).toNat) 29 1 false aH Hs, oBox b3_1 32 [aInt V, aSl 3 true aArc A]]⟩ : St)) (fun (ss : Int × List Hdr × List (List Int)) => match ss with | (i, Hs, X) => (0 ≤ i) ∧ (i ≤ A.length) ∧ ((Hs.length : Int) = V) ∧ (AdjOk V A (2 * i) X)) (fun (ss : Int × List Hdr × List (List Int)) => match ss with | (i, Hs, X) => (A.length - i).toNat) (0, List.replicate ((V).toNat) Hdr.no, List.replicate ((V).toNat) []) ⟨(by first | rfl | assumption | omega | (simp_all; done) | grind), (by first | rfl | assumption | omega | (simp_all; done) | grind), (by simp; omega), (AdjOk.zero A (by omega))⟩ (ent_rep ⟨rfl, rfl, rfl, rfl, slot_av (av_int (show 0 = (0 : Int) by first | rfl | assumption | omega | (simp_all; done) | grind)), trivial⟩ rfl) ?_
  rintro ⟨i, Hs, X⟩ ⟨h0, h1, hH, hX⟩
  show Ent _ (⟨[(1, aSl 1 false aInt l), (2, aInt s), (3, aEx (.pointer (some ⟨b3_1, 0, none⟩))), (7, aEx (vec (some b21_2) ((V).toNat) ((V).toNat))), (8, aInt i)], [oRws 3 aInt [] Hs X, oVec (some b21_2) ((V).toNat) 29 1 false aH Hs, oBox b3_1 32 [aInt V, aSl 3 true aArc A]]⟩ : St) _
  have hXl := hX.len
  refine ent_seq fun K5 hK5 => ?_
  refine ent_seq fun K6 hK6 => ?_
  refine ent_region ?_
  refine ent_o rfl (ok_move rfl) ?_
  refine ent_o rfl (ok_fieldAddrEx Try.runUnderlying32 rfl Try.sizeOf30 (by decide) rfl) ?_
  refine ent_o rfl (ok_loadB (k := 2) Try.isAgg30 rfl rfl rfl) ?_
  refine ent_o rfl (ok_len rfl Try.runUnderlying30 rfl) ?_
  refine ent_o rfl (ok_lss rfl rfl) ?_
  refine ent_nil ?_
  refine ent_k hK6 ?_
  refine ent_condD rfl (fun h26 => ?_) (fun h26 => ?_)
  · have ha := hN.arc h0 h26
    have hb1 := hX.bnd _ ha.1.1 ha.1.2
    have hX1 := hX.push (by omega) (cTail_even A i) ha.1.1 ha.1.2
    have hb2 := hX1.bnd _ ha.2.1.1 ha.2.1.2
    refine ent_skip ?_
    refine ent_k hK5 ?_
    refine ent_seq fun K7 hK7 => ?_
    refine ent_block ?_
    refine ent_seq fun K8 hK8 => ?_
    refine ent_region ?_
    refine ent_o rfl (ok_fieldAddrEx Try.runUnderlying32 rfl Try.sizeOf30 (by decide) rfl) ?_
    refine ent_o rfl (ok_loadB (k := 2) Try.isAgg30 rfl rfl rfl) ?_
    refine ent_o rfl (ok_move rfl) ?_
    refine ent_o rfl (ok_index (0, 0, 0) sl30 rfl rfl (by first | omega | (simp only [List.length_set]; omega)) (by first | omega | (simp only [List.length_set]; omega))) ?_
    refine ent_o rfl (ok_load ti89 rfl) ?_
    refine ent_alloc (z := .agg #[.int .i64 0, .int .i64 0, .int .i64 0]) [aInt 0, aInt 0, aInt 0] rfl zv89 rfl zc89 (fun b9_3 => ?_)
    refine ent_storeBS (k := 0) Try.sizeOf89 rfl rfl rfl (AllOne.mem ⟨(one_int _), (one_int _), (one_int _), trivial⟩) rfl rfl ?_
    show Ent _ (⟨_, [oBox b9_3 89 [aInt ((ix (0, 0, 0) A i).1), aInt ((ix (0, 0, 0) A i).2.1), aInt ((ix (0, 0, 0) A i).2.2)], oRws 3 aInt [] Hs X, oVec (some b21_2) ((V).toNat) 29 1 false aH Hs, oBox b3_1 32 [aInt V, aSl 3 true aArc A]]⟩ : St) _
    refine ent_nil ?_
    refine ent_k hK8 ?_
    refine ent_seq fun K9 hK9 => ?_
    refine ent_drawP2 11 [0, 1, 2] [(34, aEx (vec (some b21_2) ((V).toNat) ((V).toNat))), (35, aEx (.pointer (some ⟨b9_3, 0, none⟩))), (36, aInt ((ix (0, 0, 0) A i).1))] [(1, aSl 1 false aInt l), (2, aInt s), (3, aEx (.pointer (some ⟨b3_1, 0, none⟩))), (7, aEx (vec (some b21_2) ((V).toNat) ((V).toNat))), (8, aInt i), (9, aEx (.pointer (some ⟨b9_3, 0, none⟩))), (41, aH (ix Hdr.no Hs ((ix (0, 0, 0) A i).1))), (44, aSl 1 false aInt [2 * i])] mixed (by kernel_rfl) (by kernel_rfl) rfl (by decide) rfl (by kernel_rfl) (AllPlS.mem ⟨pl_ex, pl_ex, pl_ex, trivial⟩) ?_ ?_
    · refine dw_o rfl (ok_move rfl) ?_
      refine dw_o rfl (ok_fieldAddrEx Try.runUnderlying89 rfl Try.sizeOf3 (by decide) rfl) ?_
      refine dw_o rfl (ok_loadB (k := 0) Try.isAgg3 rfl rfl rfl) ?_
      refine dw_o rfl (ok_move rfl) ?_
      refine dw_o rfl (ok_fieldAddrEx Try.runUnderlying89 rfl Try.sizeOf3 (by decide) rfl) ?_
      refine dw_o rfl (ok_loadB (k := 0) Try.isAgg3 rfl rfl rfl) ?_
      refine dw_o rfl (ok_indexV sl65 rfl rfl (by first | omega | (simp only [List.length_set]; omega)) (by first | omega | (simp only [List.length_set]; omega))) ?_
      refine dw_o rfl (ok_loadV (k := 2) Hdr.no ti29 rfl rfl (by first | omega | (simp only [List.length_set]; omega)) (by first | omega | (simp only [List.length_set]; omega))) ?_
      refine dw_o rfl (ok_move rfl) ?_
      refine dw_o rfl (ok_mul rfl rfl (by first | omega | (simp only [List.length_set]; omega)) (by first | omega | (simp only [List.length_set]; omega))) ?_
      refine dw_o rfl (ok_build1 (enc := aInt) (y := 2 * i) vt29 rfl (elem_one (one_int _)) (by decide)) ?_
      refine dw_nil ?_
      exact ⟨⟨rfl, rfl, rfl, rfl, rfl, rfl, rfl, rfl, trivial⟩, ⟨rfl, rfl, rfl, trivial⟩⟩
    refine ent_takeRow 1 ((ix (0, 0, 0) A i).1) rfl (by omega) (by first | omega | (simp only [List.length_set]; omega)) (by first | exact List.not_mem_nil | (simp; done) | (simp; omega)) (fun hn41 => ?_)
    refine ent_appendS (k := 0) rfl vt29 rfl rfl (by first | rfl | assumption | (simp; done) | (simp_all; done) | omega) rfl (cv_id sub_refl) (by first | omega | (simp only [List.length_append, List.length_cons, List.length_nil]; omega) | (simp; omega)) (by first | omega | (simp only [List.length_append, List.length_cons, List.length_nil]; omega) | (simp; omega)) (fun r45_4 cr45_4 => ?_)
    refine ent_nil ?_
    refine ent_QK ?_
    refine ent_ph1 (t0 := some 45) 11 [0, 1, 2] [(34, aEx (vec (some b21_2) ((V).toNat) ((V).toNat))), (35, aEx (.pointer (some ⟨b9_3, 0, none⟩))), (36, aInt ((ix (0, 0, 0) A i).1))] (by kernel_rfl) (by kernel_rfl) (by decide) (by decide) (by kernel_rfl) rfl (AllPlS.mem ⟨pl_ex, pl_ex, pl_ex, trivial⟩) (by kernel_rfl) ?_
    refine dwi_o (o := ⟨_, _, _, _, _, _⟩) rfl rfl rfl ?_ ?_
    · exact OpOK.eqv (ok_move rfl) rfl
    refine dwi_o (o := ⟨_, _, _, _, _, _⟩) rfl rfl rfl ?_ ?_
    · exact OpOK.eqv (ok_fieldAddrEx Try.runUnderlying89 rfl Try.sizeOf3 (by decide) rfl) rfl
    refine dwi_o (o := ⟨_, _, _, _, _, _⟩) rfl rfl rfl ?_ ?_
    · exact OpOK.eqv (ok_loadB (k := 1) Try.isAgg3 rfl rfl rfl) rfl
    refine ent_o rfl (ok_indexV sl65 rfl rfl (by first | omega | (simp only [List.length_set]; omega)) (by first | omega | (simp only [List.length_set]; omega))) ?_
    refine ent_storeV (k := 3) (z := ⟨r45_4, ((ix [] X ((ix (0, 0, 0) A i).1)) ++ [2 * i]).length, cr45_4⟩) ti29 rfl rfl rfl (elem_one (one_ex rfl)) (by first | omega | (simp only [List.length_set]; omega)) (by first | omega | (simp only [List.length_set]; omega)) ?_
    refine ent_putRow 2 0 ((ix (0, 0, 0) A i).1) (m := ((ix [] X ((ix (0, 0, 0) A i).1)) ++ [2 * i]).length) [] rfl rfl (by decide) (by simp) (by first | rfl | assumption | (simp; done) | (simp_all; done) | omega) ?_
    refine ent_nil ?_
    refine ent_k hK9 ?_
    refine ent_drawP2 12 [0, 1, 2] [(47, aEx (vec (some b21_2) ((V).toNat) ((V).toNat))), (48, aEx (.pointer (some ⟨b9_3, 1, none⟩))), (49, aInt ((ix (0, 0, 0) A i).2.1))] [(1, aSl 1 false aInt l), (2, aInt s), (3, aEx (.pointer (some ⟨b3_1, 0, none⟩))), (7, aEx (vec (some b21_2) ((V).toNat) ((V).toNat))), (8, aInt i), (9, aEx (.pointer (some ⟨b9_3, 0, none⟩))), (54, aH (ix Hdr.no (List.set Hs ((ix (0, 0, 0) A i).1).toNat (⟨r45_4, ((ix [] X ((ix (0, 0, 0) A i).1)) ++ [2 * i]).length, cr45_4⟩)) ((ix (0, 0, 0) A i).2.1))), (58, aSl 1 false aInt [(2 * i) + 1])] mixed (by kernel_rfl) (by kernel_rfl) rfl (by decide) rfl (by kernel_rfl) (AllPlS.mem ⟨pl_ex, pl_ex, pl_ex, trivial⟩) ?_ ?_
    · refine dw_o rfl (ok_move rfl) ?_
      refine dw_o rfl (ok_fieldAddrEx Try.runUnderlying89 rfl Try.sizeOf3 (by decide) rfl) ?_
      refine dw_o rfl (ok_loadB (k := 0) Try.isAgg3 rfl rfl rfl) ?_
      refine dw_o rfl (ok_move rfl) ?_
      refine dw_o rfl (ok_fieldAddrEx Try.runUnderlying89 rfl Try.sizeOf3 (by decide) rfl) ?_
      refine dw_o rfl (ok_loadB (k := 0) Try.isAgg3 rfl rfl rfl) ?_
      refine dw_o rfl (ok_indexV sl65 rfl rfl (by first | omega | (simp only [List.length_set]; omega)) (by first | omega | (simp only [List.length_set]; omega))) ?_
      refine dw_o rfl (ok_loadV (k := 2) Hdr.no ti29 rfl rfl (by first | omega | (simp only [List.length_set]; omega)) (by first | omega | (simp only [List.length_set]; omega))) ?_
      refine dw_o rfl (ok_move rfl) ?_
      refine dw_o rfl (ok_mul rfl rfl (by first | omega | (simp only [List.length_set]; omega)) (by first | omega | (simp only [List.length_set]; omega))) ?_
      refine dw_o rfl (ok_add rfl rfl (by first | omega | (simp only [List.length_set]; omega)) (by first | omega | (simp only [List.length_set]; omega))) ?_
      refine dw_o rfl (ok_build1 (enc := aInt) (y := (2 * i) + 1) vt29 rfl (elem_one (one_int _)) (by decide)) ?_
      refine dw_nil ?_
      exact ⟨⟨rfl, rfl, rfl, rfl, rfl, rfl, rfl, rfl, trivial⟩, ⟨rfl, rfl, rfl, trivial⟩⟩
    refine ent_takeRow 1 ((ix (0, 0, 0) A i).2.1) rfl (by omega) (by first | omega | (simp only [List.length_set]; omega)) (by first | exact List.not_mem_nil | (simp; done) | (simp; omega)) (fun hn54 => ?_)
    refine ent_appendS (k := 0) rfl vt29 rfl rfl (by first | rfl | assumption | (simp; done) | (simp_all; done) | omega) rfl (cv_id sub_refl) (by first | omega | (simp only [List.length_append, List.length_cons, List.length_nil]; omega) | (simp; omega)) (by first | omega | (simp only [List.length_append, List.length_cons, List.length_nil]; omega) | (simp; omega)) (fun r59_6 cr59_6 => ?_)
    refine ent_nil ?_
    refine ent_QK ?_
    refine ent_ph1 (t0 := some 59) 12 [0, 1, 2] [(47, aEx (vec (some b21_2) ((V).toNat) ((V).toNat))), (48, aEx (.pointer (some ⟨b9_3, 1, none⟩))), (49, aInt ((ix (0, 0, 0) A i).2.1))] (by kernel_rfl) (by kernel_rfl) (by decide) (by decide) (by kernel_rfl) rfl (AllPlS.mem ⟨pl_ex, pl_ex, pl_ex, trivial⟩) (by kernel_rfl) ?_
    refine dwi_o (o := ⟨_, _, _, _, _, _⟩) rfl rfl rfl ?_ ?_
    · exact OpOK.eqv (ok_move rfl) rfl
    refine dwi_o (o := ⟨_, _, _, _, _, _⟩) rfl rfl rfl ?_ ?_
    · exact OpOK.eqv (ok_fieldAddrEx Try.runUnderlying89 rfl Try.sizeOf3 (by decide) rfl) rfl
    refine dwi_o (o := ⟨_, _, _, _, _, _⟩) rfl rfl rfl ?_ ?_
    · exact OpOK.eqv (ok_loadB (k := 1) Try.isAgg3 rfl rfl rfl) rfl
    refine ent_o rfl (ok_indexV sl65 rfl rfl (by first | omega | (simp only [List.length_set]; omega)) (by first | omega | (simp only [List.length_set]; omega))) ?_
    refine ent_storeV (k := 3) (z := ⟨r59_6, ((ix [] (List.set X ((ix (0, 0, 0) A i).1).toNat ((ix [] X ((ix (0, 0, 0) A i).1)) ++ [2 * i])) ((ix (0, 0, 0) A i).2.1)) ++ [(2 * i) + 1]).length, cr59_6⟩) ti29 rfl rfl rfl (elem_one (one_ex rfl)) (by first | omega | (simp only [List.length_set]; omega)) (by first | omega | (simp only [List.length_set]; omega)) ?_
    refine ent_putRow 2 0 ((ix (0, 0, 0) A i).2.1) (m := ((ix [] (List.set X ((ix (0, 0, 0) A i).1).toNat ((ix [] X ((ix (0, 0, 0) A i).1)) ++ [2 * i])) ((ix (0, 0, 0) A i).2.1)) ++ [(2 * i) + 1]).length) [] rfl rfl (by decide) (by simp) (by first | rfl | assumption | (simp; done) | (simp_all; done) | omega) ?_
    refine ent_nil ?_
    refine ent_k hK7 ?_
    refine ent_region ?_
    refine ent_o rfl (ok_move rfl) ?_
    refine ent_o rfl (ok_add rfl rfl (by first | omega | (simp only [List.length_set]; omega)) (by first | omega | (simp only [List.length_set]; omega))) ?_
    refine ent_o rfl (ok_assign rfl) ?_
    refine ent_nil ?_
    refine ent_drop 0 ?_
    refine ent_again (s := (i, Hs, X)) (i + 1, List.set (List.set Hs ((ix (0, 0, 0) A i).1).toNat ⟨r45_4, ((ix [] X ((ix (0, 0, 0) A i).1)) ++ [2 * i]).length, cr45_4⟩) ((ix (0, 0, 0) A i).2.1).toNat ⟨r59_6, ((ix [] (List.set X ((ix (0, 0, 0) A i).1).toNat ((ix [] X ((ix (0, 0, 0) A i).1)) ++ [2 * i])) ((ix (0, 0, 0) A i).2.1)) ++ [(2 * i) + 1]).length, cr59_6⟩, List.set (List.set X ((ix (0, 0, 0) A i).1).toNat ((ix [] X ((ix (0, 0, 0) A i).1)) ++ [2 * i])) ((ix (0, 0, 0) A i).2.1).toNat ((ix [] (List.set X ((ix (0, 0, 0) A i).1).toNat ((ix [] X ((ix (0, 0, 0) A i).1)) ++ [2 * i])) ((ix (0, 0, 0) A i).2.1)) ++ [(2 * i) + 1])) ⟨(by first | rfl | assumption | omega | (simp_all; done) | grind), (by first | rfl | assumption | omega | (simp_all; done) | grind), (by simp only [List.length_set]; exact hH), (hX.arc hN h0 h26)⟩ (by first | omega | (dsimp only; omega)) (ent_rep ⟨rfl, rfl, rfl, rfl, rfl, trivial⟩ (own_cons (rfl) (own_cons (own_vec (show (List.set (List.set Hs ((ix (0, 0, 0) A i).1).toNat ⟨r45_4, ((ix [] X ((ix (0, 0, 0) A i).1)) ++ [2 * i]).length, cr45_4⟩) ((ix (0, 0, 0) A i).2.1).toNat ⟨r59_6, ((ix [] (List.set X ((ix (0, 0, 0) A i).1).toNat ((ix [] X ((ix (0, 0, 0) A i).1)) ++ [2 * i])) ((ix (0, 0, 0) A i).2.1)) ++ [(2 * i) + 1]).length, cr59_6⟩) = List.set (List.set Hs ((ix (0, 0, 0) A i).1).toNat (⟨r45_4, ((ix [] X ((ix (0, 0, 0) A i).1)) ++ [2 * i]).length, cr45_4⟩)) ((ix (0, 0, 0) A i).2.1).toNat (⟨r59_6, ((ix [] (List.set X ((ix (0, 0, 0) A i).1).toNat ((ix [] X ((ix (0, 0, 0) A i).1)) ++ [2 * i])) ((ix (0, 0, 0) A i).2.1)) ++ [(2 * i) + 1]).length, cr59_6⟩) by first | rfl | assumption | omega | (simp_all; done) | grind)) (rfl))))
  · have hiA : i = (A.length : Int) := by omega
    rw [hiA] at hX
    have hXl := hX.len
    refine ent_exit ?_
    refine ent_k hK3 ?_
    refine ent_seq fun K10 hK10 => ?_
    refine ent_region ?_
    refine ent_o rfl (ok_fieldAddrEx Try.runUnderlying32 rfl Try.sizeOf3 (by decide) rfl) ?_
    refine ent_o rfl (ok_loadB (k := 2) Try.isAgg3 rfl rfl rfl) ?_
    refine ent_make aInt 0 rfl vt29 rfl rfl (by first | omega | (simp only [List.length_set]; omega)) (by first | omega | (simp only [List.length_set]; omega)) (by first | omega | (simp only [List.length_set]; omega)) (fun _ _ => rfl) (AllV.mem ⟨rfl, trivial⟩) (fun b63_8 => ?_)
    refine ent_o rfl (ok_assign rfl) ?_
    refine ent_nil ?_
    refine ent_k hK10 ?_
    refine ent_seq fun K11 hK11 => ?_
    refine ent_seq fun K12 hK12 => ?_
    refine ent_region ?_
    refine ent_o rfl (ok_assign rfl) ?_
    refine ent_nil ?_
    refine ent_k hK12 ?_
    refine ent_block ?_
    refine ent_loop (fun (v : Int) => (⟨[(1, aSl 1 false aInt l), (2, aInt s), (3, aEx (.pointer (some ⟨b3_1, 0, none⟩))), (7, aEx (vec (some b21_2) ((V).toNat) ((V).toNat))), (10, aEx (vec (some b63_8) ((V).toNat) ((V).toNat))), (11, aInt v)], [oVec (some b63_8) ((V).toNat) 3 1 false aInt (fillR (fun _ => (-2 : Int)) 0 V v), oRws 3 aInt [] Hs X, oVec (some b21_2) ((V).toNat) 29 1 false aH Hs, oBox b3_1 32 [aInt V, aSl 3 true aArc A]]⟩ : St)) (fun (v : Int) => (0 ≤ v) ∧ (v ≤ V)) (fun (v : Int) => (V - v).toNat) 0 ⟨(by first | rfl | assumption | omega | (simp_all; done) | grind), (by first | rfl | assumption | omega | (simp_all; done) | grind)⟩ (ent_rep ⟨rfl, rfl, rfl, rfl, rfl, slot_av (av_int (show 0 = (0 : Int) by first | rfl | assumption | omega | (simp_all; done) | grind)), trivial⟩ (own_cons (own_vec (show fillR (fun _ => (-2 : Int)) 0 V (0 : Int) = List.replicate ((V).toNat) 0 by exact fillR_zero _ _ _)) (rfl))) ?_
    rintro v ⟨v0, v1⟩
    show Ent _ (⟨[(1, aSl 1 false aInt l), (2, aInt s), (3, aEx (.pointer (some ⟨b3_1, 0, none⟩))), (7, aEx (vec (some b21_2) ((V).toNat) ((V).toNat))), (10, aEx (vec (some b63_8) ((V).toNat) ((V).toNat))), (11, aInt v)], [oVec (some b63_8) ((V).toNat) 3 1 false aInt (fillR (fun _ => (-2 : Int)) 0 V v), oRws 3 aInt [] Hs X, oVec (some b21_2) ((V).toNat) 29 1 false aH Hs, oBox b3_1 32 [aInt V, aSl 3 true aArc A]]⟩ : St) _
    have lfl := length_fillR (fun _ => (-2 : Int)) 0 v0 v1
    refine ent_seq fun K13 hK13 => ?_
    refine ent_seq fun K14 hK14 => ?_
    refine ent_region ?_
    refine ent_o rfl (ok_move rfl) ?_
    refine ent_o rfl (ok_fieldAddrEx Try.runUnderlying32 rfl Try.sizeOf3 (by decide) rfl) ?_
    refine ent_o rfl (ok_loadB (k := 3) Try.isAgg3 rfl rfl rfl) ?_
    refine ent_o rfl (ok_lss rfl rfl) ?_
    refine ent_nil ?_
    refine ent_k hK14 ?_
    refine ent_condD rfl (fun h67 => ?_) (fun h67 => ?_)
    · refine ent_skip ?_
      refine ent_k hK13 ?_
      refine ent_seq fun K15 hK15 => ?_
      refine ent_block ?_
      refine ent_region ?_
      refine ent_o rfl (ok_move rfl) ?_
      refine ent_o rfl (ok_move rfl) ?_
      refine ent_o rfl (ok_indexV sl29 rfl rfl (by first | omega | (simp only [List.length_set]; omega)) (by first | omega | (simp only [List.length_set]; omega))) ?_
      refine ent_storeV (k := 0) (z := (-2)) ti3 rfl rfl rfl (elem_one (one_int _)) (by first | omega | (simp only [List.length_set]; omega)) (by first | omega | (simp only [List.length_set]; omega)) ?_
      refine ent_nil ?_
      refine ent_k hK15 ?_
      refine ent_region ?_
      refine ent_o rfl (ok_move rfl) ?_
      refine ent_o rfl (ok_add rfl rfl (by first | omega | (simp only [List.length_set]; omega)) (by first | omega | (simp only [List.length_set]; omega))) ?_
      refine ent_o rfl (ok_assign rfl) ?_
      refine ent_nil ?_
      refine ent_again (s := (v)) (v + 1) ⟨(by first | rfl | assumption | omega | (simp_all; done) | grind), (by first | rfl | assumption | omega | (simp_all; done) | grind)⟩ (by first | omega | (dsimp only; omega)) (ent_rep ⟨rfl, rfl, rfl, rfl, rfl, rfl, trivial⟩ (own_cons (own_vec (show fillR (fun _ => (-2 : Int)) 0 V (v + 1) = List.set (fillR (fun _ => (-2 : Int)) 0 V v) (v).toNat (-2) by exact (fillR_set (fun _ => (-2 : Int)) 0 v0 h67).symm)) (rfl)))
    · refine ent_exit ?_
      refine ent_k hK11 ?_
      refine ent_seq fun K16 hK16 => ?_
      refine ent_region ?_
      refine ent_o rfl (ok_move rfl) ?_
      refine ent_o rfl (ok_move rfl) ?_
      refine ent_o rfl (ok_indexV sl29 rfl rfl (by first | omega | (simp only [List.length_set]; omega)) (by first | omega | (simp only [List.length_set]; omega))) ?_
      refine ent_storeV (k := 0) (z := (-1)) ti3 rfl rfl rfl (elem_one (one_int _)) (by first | omega | (simp only [List.length_set]; omega)) (by first | omega | (simp only [List.length_set]; omega)) ?_
      refine ent_nil ?_
      refine ent_k hK16 ?_
      refine ent_seq fun K17 hK17 => ?_
      refine ent_region ?_
      refine ent_o rfl (ok_move rfl) ?_
      refine ent_buildN aInt [s] rfl vt29 (by decide) (⟨0, 1, rfl, .inl ⟨rfl, _, rfl, (one_int _), rfl, rfl⟩⟩) rfl (fun b77_9 => ?_)
      refine ent_o rfl (ok_assign rfl) ?_
      refine ent_nil ?_
      refine ent_k hK17 ?_
      refine ent_seq fun K18 hK18 => ?_
      refine ent_seq fun K19 hK19 => ?_
      refine ent_region ?_
      refine ent_o rfl (ok_assign rfl) ?_
      refine ent_nil ?_
      refine ent_k hK19 ?_
      refine ent_block ?_
      refine ent_loop (fun (ss : Int × List Int × List Int × Option Nat × Nat) => match ss with | (k, Q, stp, rr10, cc10) => (⟨[(1, aSl 1 false aInt l), (3, aEx (.pointer (some ⟨b3_1, 0, none⟩))), (7, aEx (vec (some b21_2) ((V).toNat) ((V).toNat))), (10, aEx (vec (some b63_8) ((V).toNat) ((V).toNat))), (12, aEx (vec rr10 ((Q).length) cc10)), (13, aInt k)], [oVec rr10 cc10 3 1 false aInt Q, oVec (some b63_8) ((V).toNat) 3 1 false aInt stp, oRws 3 aInt [] Hs X, oVec (some b21_2) ((V).toNat) 29 1 false aH Hs, oBox b3_1 32 [aInt V, aSl 3 true aArc A]]⟩ : St)) (fun (ss : Int × List Int × List Int × Option Nat × Nat) => match ss with | (k, Q, stp, rr10, cc10) => (0 ≤ k) ∧ (BfsOk V A l s Q stp) ∧ (k ≤ Q.length) ∧ (Clo A l X Q stp k)) (fun (ss : Int × List Int × List Int × Option Nat × Nat) => match ss with | (k, Q, stp, rr10, cc10) => (V - k).toNat) (0, [s], List.set (fillR (fun _ => (-2 : Int)) 0 V v) (s).toNat (-1), (some b77_9), 1) ⟨(by first | rfl | assumption | omega | (simp_all; done) | grind), (by rw [fillR_all _ _ (by omega), show v = V by omega, mapR_const]; exact BfsOk.zero A l s0 s1), (by simp), (fun p p0 p1 => by omega)⟩ (ent_rep ⟨rfl, rfl, rfl, rfl, slot_av (av_vec (by first | rfl | assumption | (simp; done) | (simp_all; done) | omega)), slot_av (av_int (show 0 = (0 : Int) by first | rfl | assumption | omega | (simp_all; done) | grind)), trivial⟩ rfl) ?_
      rintro ⟨k, Q, stp, rr10, cc10⟩ ⟨k0, hB, hk, hC⟩
      show Ent _ (⟨[(1, aSl 1 false aInt l), (3, aEx (.pointer (some ⟨b3_1, 0, none⟩))), (7, aEx (vec (some b21_2) ((V).toNat) ((V).toNat))), (10, aEx (vec (some b63_8) ((V).toNat) ((V).toNat))), (12, aEx (vec rr10 ((Q).length) cc10)), (13, aInt k)], [oVec rr10 cc10 3 1 false aInt Q, oVec (some b63_8) ((V).toNat) 3 1 false aInt stp, oRws 3 aInt [] Hs X, oVec (some b21_2) ((V).toNat) 29 1 false aH Hs, oBox b3_1 32 [aInt V, aSl 3 true aArc A]]⟩ : St) _
      have hfq := hB.few (by omega)
      refine ent_seq fun K20 hK20 => ?_
      refine ent_seq fun K21 hK21 => ?_
      refine ent_region ?_
      refine ent_o rfl (ok_move rfl) ?_
      refine ent_o rfl (ok_move rfl) ?_
      refine ent_o rfl (ok_lenEx rfl Try.runUnderlying29 rfl) ?_
      refine ent_o rfl (ok_lss rfl rfl) ?_
      refine ent_nil ?_
      refine ent_k hK21 ?_
      refine ent_condD rfl (fun h81 => ?_) (fun h81 => ?_)
      · have hv := hB.rng _ (ix_mem 0 Q k0 h81)
        have hL : ∀ c ∈ ix [] X (ix 0 Q k), 0 ≤ c ∧ c < 2 * A.length := fun c hc => by have := hX.val _ hv.1 hv.2 c hc; exact ⟨this.1, this.2.1⟩
        have hbn := hX.bnd _ hv.1 hv.2
        refine ent_skip ?_
        refine ent_k hK20 ?_
        refine ent_seq fun K22 hK22 => ?_
        refine ent_block ?_
        refine ent_seq fun K23 hK23 => ?_
        refine ent_region ?_
        refine ent_o rfl (ok_move rfl) ?_
        refine ent_o rfl (ok_move rfl) ?_
        refine ent_o rfl (ok_indexV0 (k := 0) sl29 rfl rfl (by first | rfl | assumption | (simp; done) | (simp_all; done) | omega) rfl (by first | omega | (simp only [List.length_set]; omega)) (by first | omega | (simp only [List.length_set]; omega))) ?_
        refine ent_o rfl (ok_loadV0 (k := 0) 0 ti3 rfl rfl (by first | omega | (simp only [List.length_set]; omega)) (by first | omega | (simp only [List.length_set]; omega))) ?_
        refine ent_o rfl (ok_assign rfl) ?_
        refine ent_nil ?_
        refine ent_k hK23 ?_
        refine ent_seq fun K24 hK24 => ?_
        refine ent_region ?_
        refine ent_o rfl (ok_assign rfl) ?_
        refine ent_nil ?_
        refine ent_k hK24 ?_
        refine ent_block ?_
        refine ent_loop (fun (ss : Int × List Int × List Int × Option Nat × Nat) => match ss with | (j, Q2, stp2, rr11, cc11) => (⟨[(1, aSl 1 false aInt l), (3, aEx (.pointer (some ⟨b3_1, 0, none⟩))), (7, aEx (vec (some b21_2) ((V).toNat) ((V).toNat))), (10, aEx (vec (some b63_8) ((V).toNat) ((V).toNat))), (12, aEx (vec rr11 ((Q2).length) cc11)), (13, aInt k), (14, aInt (ix 0 Q k)), (15, aInt j)], [oVec rr11 cc11 3 1 false aInt Q2, oVec (some b63_8) ((V).toNat) 3 1 false aInt stp2, oRws 3 aInt [] Hs X, oVec (some b21_2) ((V).toNat) 29 1 false aH Hs, oBox b3_1 32 [aInt V, aSl 3 true aArc A]]⟩ : St)) (fun (ss : Int × List Int × List Int × Option Nat × Nat) => match ss with | (j, Q2, stp2, rr11, cc11) => (0 ≤ j) ∧ (j ≤ (ix [] X (ix 0 Q k)).length) ∧ (BfsOk V A l s Q2 stp2) ∧ (k < Q2.length) ∧ (Clo A l X Q2 stp2 k) ∧ (CloJ A l (ix [] X (ix 0 Q k)) stp2 j) ∧ (ix 0 Q2 k = ix 0 Q k)) (fun (ss : Int × List Int × List Int × Option Nat × Nat) => match ss with | (j, Q2, stp2, rr11, cc11) => ((ix [] X (ix 0 Q k)).length - j).toNat) (0, Q, stp, rr10, cc10) ⟨(by first | rfl | assumption | omega | (simp_all; done) | grind), (by first | rfl | assumption | omega | (simp_all; done) | grind), hB, h81, hC, (fun q q0 q1 => by omega), rfl⟩ (ent_rep ⟨rfl, rfl, rfl, rfl, rfl, rfl, rfl, slot_av (av_int (show 0 = (0 : Int) by first | rfl | assumption | omega | (simp_all; done) | grind)), trivial⟩ rfl) ?_
        rintro ⟨j, Q2, stp2, rr11, cc11⟩ ⟨j0, j1, hB2, hk2, hC2, hJ, hQ⟩
        show Ent _ (⟨[(1, aSl 1 false aInt l), (3, aEx (.pointer (some ⟨b3_1, 0, none⟩))), (7, aEx (vec (some b21_2) ((V).toNat) ((V).toNat))), (10, aEx (vec (some b63_8) ((V).toNat) ((V).toNat))), (12, aEx (vec rr11 ((Q2).length) cc11)), (13, aInt k), (14, aInt (ix 0 Q k)), (15, aInt j)], [oVec rr11 cc11 3 1 false aInt Q2, oVec (some b63_8) ((V).toNat) 3 1 false aInt stp2, oRws 3 aInt [] Hs X, oVec (some b21_2) ((V).toNat) 29 1 false aH Hs, oBox b3_1 32 [aInt V, aSl 3 true aArc A]]⟩ : St) _
        have hsl := hB2.len
        have hf2 := hB2.few (by omega)
        refine ent_seq fun K25 hK25 => ?_
        refine ent_seq fun K26 hK26 => ?_
        refine ent_region ?_
        refine ent_o rfl (ok_move rfl) ?_
        refine ent_o rfl (ok_move rfl) ?_
        refine ent_o rfl (ok_move rfl) ?_
        refine ent_o rfl (ok_indexV sl65 rfl rfl (by first | omega | (simp only [List.length_set]; omega)) (by first | omega | (simp only [List.length_set]; omega))) ?_
        refine ent_o rfl (ok_loadV (k := 3) Hdr.no ti29 rfl rfl (by first | omega | (simp only [List.length_set]; omega)) (by first | omega | (simp only [List.length_set]; omega))) ?_
        refine ent_o rfl (ok_lenH (k := 2) rfl Try.runUnderlying29 rfl rfl (by omega) (by omega) (by first | exact List.not_mem_nil | (simp; done) | (simp; omega))) ?_
        refine ent_o rfl (ok_lss rfl rfl) ?_
        refine ent_nil ?_
        refine ent_k hK26 ?_
        refine ent_condD rfl (fun h94 => ?_) (fun h94 => ?_)
        · have hc := hX.val _ hv.1 hv.2 _ (ix_mem 0 (ix [] X (ix 0 Q k)) j0 h94)
          have ht := (hN.tail hc.1 hc.2.1).2
          have hca := hN.arc (i := (ix 0 (ix [] X (ix 0 Q k)) j) / 2) (by omega) (by omega)
          refine ent_skip ?_
          refine ent_k hK25 ?_
          refine ent_seq fun K27 hK27 => ?_
          refine ent_block ?_
          refine ent_seq fun K28 hK28 => ?_
          refine ent_region ?_
          refine ent_o rfl (ok_move rfl) ?_
          refine ent_o rfl (ok_move rfl) ?_
          refine ent_o rfl (ok_indexV sl65 rfl rfl (by first | omega | (simp only [List.length_set]; omega)) (by first | omega | (simp only [List.length_set]; omega))) ?_
          refine ent_o rfl (ok_loadV (k := 3) Hdr.no ti29 rfl rfl (by first | omega | (simp only [List.length_set]; omega)) (by first | omega | (simp only [List.length_set]; omega))) ?_
          refine ent_o rfl (ok_move rfl) ?_
          refine ent_o rfl (ok_indexH (k := 2) sl29 rfl rfl rfl (by first | omega | (simp only [List.length_set]; omega)) (by first | omega | (simp only [List.length_set]; omega)) (by first | exact List.not_mem_nil | (simp; done) | (simp; omega)) (by first | omega | (simp only [List.length_set]; omega)) (by first | omega | (simp only [List.length_set]; omega))) ?_
          refine ent_o rfl (ok_loadH (k := 2) 0 ti3 rfl rfl (by first | omega | (simp only [List.length_set]; omega)) (by first | omega | (simp only [List.length_set]; omega)) (by first | exact List.not_mem_nil | (simp; done) | (simp; omega)) (by first | omega | (simp only [List.length_set]; omega)) (by first | omega | (simp only [List.length_set]; omega))) ?_
          refine ent_o rfl (ok_quo rfl rfl (by first | omega | (simp only [List.length_set]; omega)) (by first | omega | (simp only [List.length_set]; omega)) (by first | omega | (simp only [List.length_set]; omega))) ?_
          refine ent_o rfl (ok_assign rfl) ?_
          refine ent_nil ?_
          refine ent_k hK28 ?_
          refine ent_seq fun K29 hK29 => ?_
          refine ent_region ?_
          refine ent_o rfl (ok_fieldAddrEx Try.runUnderlying32 rfl Try.sizeOf30 (by decide) rfl) ?_
          refine ent_o rfl (ok_loadB (k := 4) Try.isAgg30 rfl rfl rfl) ?_
          refine ent_o rfl (ok_move rfl) ?_
          refine ent_o rfl (ok_index (0, 0, 0) sl30 rfl rfl (by first | omega | (simp only [List.length_set]; omega)) (by first | omega | (simp only [List.length_set]; omega))) ?_
          refine ent_o rfl (ok_fieldAddr1 Try.runUnderlying89 rfl Try.sizeOf3 rfl rfl) ?_
          refine ent_o rfl (ok_load ti3 rfl) ?_
          refine ent_o rfl (ok_assign rfl) ?_
          refine ent_nil ?_
          refine ent_k hK29 ?_
          refine ent_seq fun K30 hK30 => ?_
          refine ent_draw 12 mixed (by kernel_rfl) (by kernel_rfl) (by kernel_rfl) ?_
          refine dw_o rfl (ok_move rfl) ?_
          refine dw_o rfl (ok_move rfl) ?_
          refine dw_o rfl (ok_index 0 sl29 rfl rfl (by first | omega | (simp only [List.length_set]; omega)) (by first | omega | (simp only [List.length_set]; omega))) ?_
          refine dw_o rfl (ok_load ti3 rfl) ?_
          refine dw_o rfl (ok_fieldAddrEx Try.runUnderlying32 rfl Try.sizeOf30 (by decide) rfl) ?_
          refine dw_o rfl (ok_loadB (k := 4) Try.isAgg30 rfl rfl rfl) ?_
          refine dw_o rfl (ok_move rfl) ?_
          refine dw_o rfl (ok_index (0, 0, 0) sl30 rfl rfl (by first | omega | (simp only [List.length_set]; omega)) (by first | omega | (simp only [List.length_set]; omega))) ?_
          refine dw_o rfl (ok_fieldAddr1 Try.runUnderlying89 rfl Try.sizeOf3 rfl rfl) ?_
          refine dw_o rfl (ok_load ti3 rfl) ?_
          refine dw_o rfl (ok_lss rfl rfl) ?_
          refine dw_o rfl (ok_assign rfl) ?_
          refine dw_nil ?_
          refine ent_nil ?_
          refine ent_k hK30 ?_
          refine ent_seq fun K31 hK31 => ?_
          refine ent_seq fun K32 hK32 => ?_
          refine ent_region ?_
          refine ent_o rfl (ok_move rfl) ?_
          refine ent_o rfl (ok_move rfl) ?_
          refine ent_o rfl (ok_indexV sl65 rfl rfl (by first | omega | (simp only [List.length_set]; omega)) (by first | omega | (simp only [List.length_set]; omega))) ?_
          refine ent_o rfl (ok_loadV (k := 3) Hdr.no ti29 rfl rfl (by first | omega | (simp only [List.length_set]; omega)) (by first | omega | (simp only [List.length_set]; omega))) ?_
          refine ent_o rfl (ok_move rfl) ?_
          refine ent_o rfl (ok_indexH (k := 2) sl29 rfl rfl rfl (by first | omega | (simp only [List.length_set]; omega)) (by first | omega | (simp only [List.length_set]; omega)) (by first | exact List.not_mem_nil | (simp; done) | (simp; omega)) (by first | omega | (simp only [List.length_set]; omega)) (by first | omega | (simp only [List.length_set]; omega))) ?_
          refine ent_o rfl (ok_loadH (k := 2) 0 ti3 rfl rfl (by first | omega | (simp only [List.length_set]; omega)) (by first | omega | (simp only [List.length_set]; omega)) (by first | exact List.not_mem_nil | (simp; done) | (simp; omega)) (by first | omega | (simp only [List.length_set]; omega)) (by first | omega | (simp only [List.length_set]; omega))) ?_
          refine ent_o rfl (ok_rem rfl rfl (by first | omega | (simp only [List.length_set]; omega)) (by first | omega | (simp only [List.length_set]; omega))) ?_
          refine ent_o rfl (ok_eql rfl rfl) ?_
          refine ent_nil ?_
          refine ent_k hK32 ?_
          refine ent_cut (⟨[(1, aSl 1 false aInt l), (3, aEx (.pointer (some ⟨b3_1, 0, none⟩))), (7, aEx (vec (some b21_2) ((V).toNat) ((V).toNat))), (10, aEx (vec (some b63_8) ((V).toNat) ((V).toNat))), (12, aEx (vec rr11 ((Q2).length) cc11)), (13, aInt k), (14, aInt (ix 0 Q k)), (15, aInt j), (17, aInt (cHead A (ix 0 (ix [] X (ix 0 Q k)) j))), (18, aBool (decide (0 < cRes A l (ix 0 (ix [] X (ix 0 Q k)) j))))], [oVec rr11 cc11 3 1 false aInt Q2, oVec (some b63_8) ((V).toNat) 3 1 false aInt stp2, oRws 3 aInt [] Hs X, oVec (some b21_2) ((V).toNat) 29 1 false aH Hs, oBox b3_1 32 [aInt V, aSl 3 true aArc A]]⟩) ?_ ?_
          · refine ent_condD rfl (fun h130 => ?_) (fun h130 => ?_)
            · refine ent_seq fun K33 hK33 => ?_
              refine ent_region ?_
              refine ent_o rfl (ok_fieldAddrEx Try.runUnderlying32 rfl Try.sizeOf30 (by decide) rfl) ?_
              refine ent_o rfl (ok_loadB (k := 4) Try.isAgg30 rfl rfl rfl) ?_
              refine ent_o rfl (ok_move rfl) ?_
              refine ent_o rfl (ok_index (0, 0, 0) sl30 rfl rfl (by first | omega | (simp only [List.length_set]; omega)) (by first | omega | (simp only [List.length_set]; omega))) ?_
              refine ent_o rfl (ok_fieldAddr1 Try.runUnderlying89 rfl Try.sizeOf3 rfl rfl) ?_
              refine ent_o rfl (ok_load ti3 rfl) ?_
              refine ent_o rfl (ok_assign rfl) ?_
              refine ent_nil ?_
              refine ent_k hK33 ?_
              refine ent_region ?_
              refine ent_o rfl (ok_move rfl) ?_
              refine ent_o rfl (ok_move rfl) ?_
              refine ent_o rfl (ok_index 0 sl29 rfl rfl (by first | omega | (simp only [List.length_set]; omega)) (by first | omega | (simp only [List.length_set]; omega))) ?_
              refine ent_o rfl (ok_load ti3 rfl) ?_
              refine ent_o rfl (ok_gtr rfl rfl) ?_
              refine ent_o rfl (ok_assign rfl) ?_
              refine ent_nil ?_
              exact ent_rep ⟨rfl, rfl, rfl, rfl, rfl, rfl, rfl, rfl, slot_av (av_int (show (ix (0, 0, 0) A ((ix 0 (ix [] X (ix 0 Q k)) j) / 2)).1 = cHead A (ix 0 (ix [] X (ix 0 Q k)) j) by unfold cHead; first | exact (if_pos h130).symm | exact (if_neg h130).symm)), slot_av (av_bool (show (decide (0 < (ix 0 l ((ix 0 (ix [] X (ix 0 Q k)) j) / 2))) : Bool) = decide (0 < cRes A l (ix 0 (ix [] X (ix 0 Q k)) j)) by unfold cRes; first | (rw [if_pos h130]; done) | (rw [if_neg h130]; exact decide_eq_decide.2 (by omega)))), trivial⟩ rfl
            · refine ent_skip ?_
              exact ent_rep ⟨rfl, rfl, rfl, rfl, rfl, rfl, rfl, rfl, slot_av (av_int (show (ix (0, 0, 0) A ((ix 0 (ix [] X (ix 0 Q k)) j) / 2)).2.1 = cHead A (ix 0 (ix [] X (ix 0 Q k)) j) by unfold cHead; first | exact (if_pos h130).symm | exact (if_neg h130).symm)), slot_av (av_bool (show (decide ((ix 0 l ((ix 0 (ix [] X (ix 0 Q k)) j) / 2)) < ((ix (0, 0, 0) A ((ix 0 (ix [] X (ix 0 Q k)) j) / 2)).2.2)) : Bool) = decide (0 < cRes A l (ix 0 (ix [] X (ix 0 Q k)) j)) by unfold cRes; first | (rw [if_pos h130]; done) | (rw [if_neg h130]; exact decide_eq_decide.2 (by omega)))), trivial⟩ rfl
          refine ent_k hK31 ?_
          refine ent_seq fun K34 hK34 => ?_
          refine ent_cut (⟨[(1, aSl 1 false aInt l), (3, aEx (.pointer (some ⟨b3_1, 0, none⟩))), (7, aEx (vec (some b21_2) ((V).toNat) ((V).toNat))), (10, aEx (vec (some b63_8) ((V).toNat) ((V).toNat))), (12, aEx (vec rr11 ((Q2).length) cc11)), (13, aInt k), (14, aInt (ix 0 Q k)), (15, aInt j), (17, aInt (cHead A (ix 0 (ix [] X (ix 0 Q k)) j))), (149, aBool (decide ((0 < cRes A l (ix 0 (ix [] X (ix 0 Q k)) j)) ∧ ((ix 0 stp2 (cHead A (ix 0 (ix [] X (ix 0 Q k)) j))) = (-2)))))], [oVec rr11 cc11 3 1 false aInt Q2, oVec (some b63_8) ((V).toNat) 3 1 false aInt stp2, oRws 3 aInt [] Hs X, oVec (some b21_2) ((V).toNat) 29 1 false aH Hs, oBox b3_1 32 [aInt V, aSl 3 true aArc A]]⟩) ?_ ?_
          · refine ent_region ?_
            refine ent_o rfl (ok_move rfl) ?_
            refine ent_o rfl (ok_move rfl) ?_
            refine ent_guardXDt rfl rfl rfl rfl (fun hg143 => ?_) (fun hg143 => ?_)
            · refine ent_o rfl (ok_move rfl) ?_
              refine ent_guardXT rfl rfl rfl rfl (decide_eq_true hg143) ?_
              refine ent_o rfl (ok_move rfl) ?_
              refine ent_guardXT rfl rfl rfl rfl (decide_eq_true hg143) ?_
              refine ent_o rfl (ok_indexV sl29 rfl rfl (by first | omega | (simp only [List.length_set]; omega)) (by first | omega | (simp only [List.length_set]; omega))) ?_
              refine ent_guardXT rfl rfl rfl rfl (decide_eq_true hg143) ?_
              refine ent_o rfl (ok_loadV (k := 1) 0 ti3 rfl rfl (by first | omega | (simp only [List.length_set]; omega)) (by first | omega | (simp only [List.length_set]; omega))) ?_
              refine ent_guardXT rfl rfl rfl rfl (decide_eq_true hg143) ?_
              refine ent_o rfl (ok_eql rfl rfl) ?_
              refine ent_o rfl (ok_pickT rfl (decide_eq_true hg143) rfl) ?_
              refine ent_nil ?_
              exact ent_rep ⟨rfl, rfl, rfl, rfl, rfl, rfl, rfl, rfl, rfl, slot_bool (dq_Q ((and_iff_right hg143).trans Iff.rfl)), trivial⟩ rfl
            · refine ent_guardXF rfl rfl rfl rfl (decide_eq_false hg143) ?_
              refine ent_guardXF rfl rfl rfl rfl (decide_eq_false hg143) ?_
              refine ent_guardXF rfl rfl rfl rfl (decide_eq_false hg143) ?_
              refine ent_guardXF rfl rfl rfl rfl (decide_eq_false hg143) ?_
              refine ent_o rfl (ok_pickF rfl (decide_eq_false hg143) rfl) ?_
              refine ent_nil ?_
              exact ent_rep ⟨rfl, rfl, rfl, rfl, rfl, rfl, rfl, rfl, rfl, slot_bool (dq_F rfl (fun h => hg143 h.1)), trivial⟩ rfl
          refine ent_k hK34 ?_
          refine ent_condD rfl (fun h149 => ?_) (fun h149 => ?_)
          · refine ent_seq fun K35 hK35 => ?_
            refine ent_region ?_
            refine ent_o rfl (ok_move rfl) ?_
            refine ent_o rfl (ok_move rfl) ?_
            refine ent_o rfl (ok_move rfl) ?_
            refine ent_o rfl (ok_move rfl) ?_
            refine ent_o rfl (ok_indexV sl65 rfl rfl (by first | omega | (simp only [List.length_set]; omega)) (by first | omega | (simp only [List.length_set]; omega))) ?_
            refine ent_o rfl (ok_loadV (k := 3) Hdr.no ti29 rfl rfl (by first | omega | (simp only [List.length_set]; omega)) (by first | omega | (simp only [List.length_set]; omega))) ?_
            refine ent_o rfl (ok_move rfl) ?_
            refine ent_o rfl (ok_indexH (k := 2) sl29 rfl rfl rfl (by first | omega | (simp only [List.length_set]; omega)) (by first | omega | (simp only [List.length_set]; omega)) (by first | exact List.not_mem_nil | (simp; done) | (simp; omega)) (by first | omega | (simp only [List.length_set]; omega)) (by first | omega | (simp only [List.length_set]; omega))) ?_
            refine ent_o rfl (ok_loadH (k := 2) 0 ti3 rfl rfl (by first | omega | (simp only [List.length_set]; omega)) (by first | omega | (simp only [List.length_set]; omega)) (by first | exact List.not_mem_nil | (simp; done) | (simp; omega)) (by first | omega | (simp only [List.length_set]; omega)) (by first | omega | (simp only [List.length_set]; omega))) ?_
            refine ent_o rfl (ok_indexV sl29 rfl rfl (by first | omega | (simp only [List.length_set]; omega)) (by first | omega | (simp only [List.length_set]; omega))) ?_
            refine ent_storeV (k := 1) (z := ix 0 (ix [] X (ix 0 Q k)) j) ti3 rfl rfl rfl (elem_one (one_int _)) (by first | omega | (simp only [List.length_set]; omega)) (by first | omega | (simp only [List.length_set]; omega)) ?_
            refine ent_nil ?_
            refine ent_k hK35 ?_
            refine ent_region ?_
            refine ent_o rfl (ok_move rfl) ?_
            refine ent_o rfl (ok_move rfl) ?_
            refine ent_appendL (k := 0) (enc := aInt) (y := cHead A (ix 0 (ix [] X (ix 0 Q k)) j)) rfl rfl vt29 rfl rfl (by first | rfl | assumption | (simp; done) | (simp_all; done) | omega) rfl ((elem_one (one_int _))) (by first | omega | (simp only [List.length_append, List.length_cons, List.length_nil]; omega) | (simp; omega)) (by first | omega | (simp only [List.length_append, List.length_cons, List.length_nil]; omega) | (simp; omega)) (by decide) (fun b163_12 c163_12 => ?_)
            refine ent_o rfl (ok_assign rfl) ?_
            refine ent_nil ?_
            refine ent_k hK27 ?_
            refine ent_region ?_
            refine ent_o rfl (ok_move rfl) ?_
            refine ent_o rfl (ok_add rfl rfl (by first | omega | (simp only [List.length_set]; omega)) (by first | omega | (simp only [List.length_set]; omega))) ?_
            refine ent_o rfl (ok_assign rfl) ?_
            refine ent_nil ?_
            refine ent_again (s := (j, Q2, stp2, rr11, cc11)) (j + 1, Q2 ++ [cHead A (ix 0 (ix [] X (ix 0 Q k)) j)], List.set stp2 (cHead A (ix 0 (ix [] X (ix 0 Q k)) j)).toNat (ix 0 (ix [] X (ix 0 Q k)) j), (some b163_12), c163_12) ⟨(by first | rfl | assumption | omega | (simp_all; done) | grind), (by first | rfl | assumption | omega | (simp_all; done) | grind), (by first | exact hB2.add hN hc.1 hc.2.1 (by rw [hc.2.2, ← hQ]; exact ix_mem 0 Q2 k0 hk2) h149.1 h149.2 | exact hB2), (by first | exact hk2 | (rw [List.length_append]; omega)), (by first | exact hC2.add hN hX (by omega) hB2.rng (by omega) ht.1 (by omega) hc.1 _ | exact hC2), (by first | exact (hJ.add hN hL (by omega) ht.1 (by omega) hc.1).step (fun _ => by rw [ix_setE 0 _ _ ht.1 (by omega) ht.1, if_pos rfl]; omega) | exact hJ.step (fun hr he => h149 ⟨hr, he⟩)), (by first | (rw [ix_appL 0 _ _ k0 hk2]; exact hQ) | exact hQ)⟩ (by first | omega | (dsimp only; omega)) (ent_rep ⟨rfl, rfl, rfl, rfl, slot_av (av_vec (congrArg List.length (show (Q2 ++ [cHead A (ix 0 (ix [] X (ix 0 Q k)) j)]) = Q2 ++ [cHead A (ix 0 (ix [] X (ix 0 Q k)) j)] by first | rfl | assumption | omega | (simp_all; done) | grind).symm)), rfl, rfl, rfl, trivial⟩ rfl)
          · refine ent_skip ?_
            refine ent_k hK27 ?_
            refine ent_region ?_
            refine ent_o rfl (ok_move rfl) ?_
            refine ent_o rfl (ok_add rfl rfl (by first | omega | (simp only [List.length_set]; omega)) (by first | omega | (simp only [List.length_set]; omega))) ?_
            refine ent_o rfl (ok_assign rfl) ?_
            refine ent_nil ?_
            refine ent_again (s := (j, Q2, stp2, rr11, cc11)) (j + 1, Q2, stp2, rr11, cc11) ⟨(by first | rfl | assumption | omega | (simp_all; done) | grind), (by first | rfl | assumption | omega | (simp_all; done) | grind), (by first | exact hB2.add hN hc.1 hc.2.1 (by rw [hc.2.2, ← hQ]; exact ix_mem 0 Q2 k0 hk2) h149.1 h149.2 | exact hB2), (by first | exact hk2 | (rw [List.length_append]; omega)), (by first | exact hC2.add hN hX (by omega) hB2.rng (by omega) ht.1 (by omega) hc.1 _ | exact hC2), (by first | exact (hJ.add hN hL (by omega) ht.1 (by omega) hc.1).step (fun _ => by rw [ix_setE 0 _ _ ht.1 (by omega) ht.1, if_pos rfl]; omega) | exact hJ.step (fun hr he => h149 ⟨hr, he⟩)), (by first | (rw [ix_appL 0 _ _ k0 hk2]; exact hQ) | exact hQ)⟩ (by first | omega | (dsimp only; omega)) (ent_rep ⟨rfl, rfl, rfl, rfl, rfl, rfl, rfl, rfl, trivial⟩ rfl)
        · refine ent_exit ?_
          refine ent_k hK22 ?_
          refine ent_region ?_
          refine ent_o rfl (ok_move rfl) ?_
          refine ent_o rfl (ok_add rfl rfl (by first | omega | (simp only [List.length_set]; omega)) (by first | omega | (simp only [List.length_set]; omega))) ?_
          refine ent_o rfl (ok_assign rfl) ?_
          refine ent_nil ?_
          refine ent_again (s := (k, Q, stp, rr10, cc10)) (k + 1, Q2, stp2, rr11, cc11) ⟨(by omega), hB2, (by omega), (hC2.step (by rw [hQ]; exact hJ.full (by omega)))⟩ (by first | omega | (dsimp only; omega)) (ent_rep ⟨rfl, rfl, rfl, rfl, rfl, rfl, trivial⟩ rfl)
      · have hsl0 := hB.len
        refine ent_exit ?_
        refine ent_k hK18 ?_
        refine ent_seq fun K36 hK36 => ?_
        refine ent_region ?_
        refine ent_o rfl (ok_move rfl) ?_
        refine ent_o rfl (ok_assign rfl) ?_
        refine ent_nil ?_
        refine ent_k hK36 ?_
        refine ent_ret ?_
        exact retR1 (.inr rfl) Try.results50 (resr_tmp (res_cv rfl (cv_exi (stp) (RchOk.of hN hX hB (by omega) hC) (cvF_vec (k := 1) flat_int rfl rfl (by first | rfl | assumption | (simp; done) | (simp_all; done) | omega) (by rfl)))))
end Go.Proofs.Ytaipghchkamajaa
