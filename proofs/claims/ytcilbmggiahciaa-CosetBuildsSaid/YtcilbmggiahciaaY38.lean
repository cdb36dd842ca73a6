/-
  Walks of functions of the program and the reference.
-/
import Derived.Test.YtcilbmggiahciaaY37
open Go Go.Cw
namespace Go.Proofs.Ytcilbmggiahciaa
open Try
set_option maxRecDepth 100000
set_option linter.unusedVariables false
set_option linter.unusedSimpArgs false

abbrev aLab (t : Lab) : AV := aAgg [aInt t.1, aInt t.2.1, aInt t.2.2]

theorem proves_ok (c : Cod) (ls : List Lab) (hc : csE c = 0) (h64 : ∀ t ∈ ls, -9223372036854775808 ≤ t.1 ∧ t.1 ≤ 9223372036854775807) : Ctr Try.prog 29 [aSp c, aSl 3 true aLab ls] (aBool (decide (Prv c ls))) := by
 have hcs := csE_zero.1 hc
 have hk := hcs.1
 have hqb := hk.fld.1.bd
 have hq2 := hk.q2
 have hdd := hk.dim_dua
 have hn64 := hk.n64
 have hn1 := hk.n1
 have hp1 := pow_pos_of c.F.q hq2 (dua c).Gen.length
 have hct := hcs.2
 have ltn := length_turnL (dua c).Gen c.N
 refine ctr_of Try.call29 func29 rfl rfl ?_
 intro w O
 refine ent_lenP 0 5 rfl rfl (fun hlen0_5 => ?_)
 refine ent_len 1 rfl (fun hlen1 => ?_)
 refine esk rfl ?_
 refine ent_seq fun _ K2 => ?_
 refine ent_seq fun _ K3 => ?_
 refine ent_cut (⟨[(0, aSp c), (1, aSl 3 true aLab ls), (26, aBool (decide (((↑ls.length : Int) ≠ (c.F.q ^ (dua c).Gen.length)) ∨ ([(ix (0, 0, 0) ls 0).1, (ix (0, 0, 0) ls 0).2.1, (ix (0, 0, 0) ls 0).2.2] ≠ [0, 0, 0]))))], []⟩) ?_ ?_
 ·refine ent_region ?_
  refine emm rfl ?_
  refine ent_o rfl (ok_len rfl runUnderlying37 rfl) ?_
  refine emm rfl ?_
  refine ent_o rfl (ok_nilCheck rfl) ?_
  refine ent_o rfl (ok_fieldAddr1 runUnderlying50 rfl sizeOf3 rfl rfl) ?_
  refine ent_o rfl (ok_load ti3 rfl) ?_
  refine ent_o rfl (ok_neq rfl rfl) ?_
  refine emm rfl ?_
  refine ent_guardXDf rfl rfl rfl rfl (fun hg20 => ?_) (fun hg20 => ?_)
  ·refine emm rfl ?_
   refine ent_guardXT rfl rfl rfl rfl (decide_eq_false hg20) ?_
   refine ent_o rfl (ok_index (0, 0, 0) sl37 rfl rfl (by omega) (by omega)) ?_
   refine ent_guardXT rfl rfl rfl rfl (decide_eq_false hg20) ?_
   refine ent_o rfl (ok_load ti63 rfl) ?_
   refine ent_guardXT rfl rfl rfl rfl (decide_eq_false hg20) ?_
   refine ent_o rfl (ok_build st63 (As := [aInt 0, aInt 0, aInt 0]) z63 (rfl)) ?_
   refine ent_guardXT rfl rfl rfl rfl (decide_eq_false hg20) ?_
   refine ent_o rfl (ok_neqIs (ms := [(ix (0, 0, 0) ls 0).1, (ix (0, 0, 0) ls 0).2.1, (ix (0, 0, 0) ls 0).2.2]) (ns := [0, 0, 0]) is63 rfl rfl rfl rfl) ?_
   refine ent_o rfl (ok_pickF rfl (decide_eq_false hg20) rfl) ?_
   refine ent_nil ?_
   exact ent_rep ⟨rfl, rfl, slot_bool (dq_Q ((or_iff_right hg20).trans Iff.rfl)), trivial⟩ rfl
  refine ent_guardXF rfl rfl rfl rfl (decide_eq_true hg20) ?_
  refine ent_guardXF rfl rfl rfl rfl (decide_eq_true hg20) ?_
  refine ent_guardXF rfl rfl rfl rfl (decide_eq_true hg20) ?_
  refine ent_guardXF rfl rfl rfl rfl (decide_eq_true hg20) ?_
  refine ent_o rfl (ok_pickT rfl (decide_eq_true hg20) rfl) ?_
  refine ent_nil ?_
  exact ent_rep ⟨rfl, rfl, slot_bool (dq_T rfl (Or.inl hg20)), trivial⟩ rfl
 refine ent_k K3 ?_
 refine ent_condD rfl (fun h26 => ?_) (fun h26 => ?_)
 ·refine esk rfl ?_
  refine ent_ret ?_
  exact retR1 (.inr rfl) results29 (resr_tmp (res_cv rfl (cv_bool (by refine (decide_eq_false (fun h => ?_)).symm; exact h26.elim (fun g => g h.len) (fun g => lab_neq g h.zero)))))
 have hlen : (ls.length : Int) = c.F.q ^ (dua c).Gen.length := Classical.not_not.1 fun h => h26 (.inl h)
 have hz0 : ix (0, 0, 0) ls 0 = (0, 0, 0) := lab_zero (fun h => h26 (.inr h))
 refine esp K2 ?_
 refine ent_seq fun _ K5 => ?_
 refine esr rfl fun _ K6 => ?_
 refine ent_o rfl (ok_len rfl runUnderlying37 rfl) ?_
 refine emm rfl ?_
 refine enk K6 ?_
 refine ent_block ?_
 refine ent_loop (fun (x : Int) => (⟨[(0, aSp c), (1, aSl 3 true aLab ls), (27, aSl 3 true aLab ls), (28, aInt (↑ls.length : Int)), (29, aInt x)], []⟩ : St)) (fun (x : Int) => (0 ≤ x) ∧ (x ≤ ls.length) ∧ (∀ z : Int, 1 ≤ z → z < x → LabOk c ls z)) (fun (x : Int) => (ls.length - x).toNat) 0 ⟨(by omega), (by omega), (fun z z0 z1 => by omega)⟩ (ent_rep ⟨rfl, rfl, rfl, rfl, slot_av (av_int (show 0 = (0 : Int) by rfl)), trivial⟩ rfl) ?_
 rintro x ⟨x0, x1, h2⟩
 show Ent _ ⟨_, []⟩ _
 refine esr rfl fun _ K7 => ?_
 refine ent_o rfl (ok_lss rfl rfl) ?_
 refine enk K7 ?_
 refine ent_seq fun _ K8 => ?_
 refine ent_condD rfl (fun h30 => ?_) (fun h30 => ?_)
 ·refine esp K8 ?_
  refine ent_seq fun _ K9 => ?_
  refine ent_block ?_
  refine esr rfl fun _ K10 => ?_
  refine ent_o rfl (ok_index (0, 0, 0) sl37 rfl rfl (by omega) (by omega)) ?_
  refine ent_o rfl (ok_load ti63 rfl) ?_
  refine ent_alloc (z := .agg #[.int .i64 0, .int .i64 0, .int .i64 0]) [aInt 0, aInt 0, aInt 0] rfl zv63 rfl zc63 (fun b6_1 => ?_)
  refine emm rfl ?_
  refine ent_storeBS (k := 0) sizeOf63 rfl rfl rfl (AllOne.mem ⟨(one_int _), (one_int _), (one_int _), trivial⟩) rfl rfl ?_
  show Ent _ ⟨_, [_]⟩ _
  refine enk K10 ?_
  refine esr rfl fun _ K11 => ?_
  refine ent_o rfl (ok_gtr rfl rfl) ?_
  refine enk K11 ?_
  refine ent_condD rfl (fun h35 => ?_) (fun h35 => ?_)
  ·refine ent_seq fun _ K12 => ?_
   refine ent_seq fun _ K13 => ?_
   refine ent_cut (⟨[(0, aSp c), (1, aSl 3 true aLab ls), (5, aInt x), (6, aEx (.pointer (some ⟨b6_1, 0, none⟩))), (27, aSl 3 true aLab ls), (28, aInt (↑ls.length : Int)), (29, aInt x), (61, aBool (decide ((((((ix (0, 0, 0) ls x).2.1) < 0) ∨ (c.N ≤ ((ix (0, 0, 0) ls x).2.1))) ∨ (((ix (0, 0, 0) ls x).2.2) < 1)) ∨ (c.F.q ≤ ((ix (0, 0, 0) ls x).2.2)))))], [oBox b6_1 63 [aInt ((ix (0, 0, 0) ls x).1), aInt ((ix (0, 0, 0) ls x).2.1), aInt ((ix (0, 0, 0) ls x).2.2)]]⟩) ?_ ?_
   ·refine ent_draw 26 mixed (by kernel_rfl) (drawQ_F (by kernel_rfl)) (by kernel_rfl) ?_
    refine dw_o rfl (ok_fieldAddrEx runUnderlying63 rfl sizeOf3 (by decide) rfl) ?_
    refine dw_o rfl (ok_loadB (k := 0) isAgg3 rfl rfl rfl) ?_
    refine dw_o rfl (ok_lss rfl rfl) ?_
    refine dw_o rfl (ok_move rfl) ?_
    refine dw_guardDf rfl rfl rfl rfl (fun hg39 => ?_) (fun hg39 => ?_)
    ·refine dw_o rfl (ok_fieldAddrEx runUnderlying63 rfl sizeOf3 (by decide) rfl) ?_
     refine dw_guardT rfl rfl rfl rfl (decide_eq_false hg39) ?_
     refine dw_o rfl (ok_loadB (k := 0) isAgg3 rfl rfl rfl) ?_
     refine dw_guardT rfl rfl rfl rfl (decide_eq_false hg39) ?_
     refine dw_o rfl (ok_move rfl) ?_
     refine dw_guardT rfl rfl rfl rfl (decide_eq_false hg39) ?_
     refine dw_o rfl (ok_nilCheck rfl) ?_
     refine dw_guardT rfl rfl rfl rfl (decide_eq_false hg39) ?_
     refine dw_o rfl (ok_fieldAddr1 runUnderlying50 rfl sizeOf3 rfl rfl) ?_
     refine dw_guardT rfl rfl rfl rfl (decide_eq_false hg39) ?_
     refine dw_o rfl (ok_load ti3 rfl) ?_
     refine dw_guardT rfl rfl rfl rfl (decide_eq_false hg39) ?_
     refine dw_o rfl (ok_geq rfl rfl) ?_
     refine dw_o rfl (ok_pickF rfl (decide_eq_false hg39) rfl) ?_
     refine dw_o rfl (ok_move rfl) ?_
     refine dw_guardDf rfl rfl rfl rfl (fun hg48 => ?_) (fun hg48 => ?_)
     ·refine dw_o rfl (ok_fieldAddrEx runUnderlying63 rfl sizeOf3 (by decide) rfl) ?_
      refine dw_guardT rfl rfl rfl rfl (decide_eq_false hg48) ?_
      refine dw_o rfl (ok_loadB (k := 0) isAgg3 rfl rfl rfl) ?_
      refine dw_guardT rfl rfl rfl rfl (decide_eq_false hg48) ?_
      refine dw_o rfl (ok_lss rfl rfl) ?_
      refine dw_o rfl (ok_pickF rfl (decide_eq_false hg48) rfl) ?_
      refine dw_o rfl (ok_move rfl) ?_
      refine dw_guardDf rfl rfl rfl rfl (fun hg53 => ?_) (fun hg53 => ?_)
      ·refine dw_o rfl (ok_fieldAddrEx runUnderlying63 rfl sizeOf3 (by decide) rfl) ?_
       refine dw_guardT rfl rfl rfl rfl (decide_eq_false hg53) ?_
       refine dw_o rfl (ok_loadB (k := 0) isAgg3 rfl rfl rfl) ?_
       refine dw_guardT rfl rfl rfl rfl (decide_eq_false hg53) ?_
       refine dw_o rfl (ok_move rfl) ?_
       refine dw_guardT rfl rfl rfl rfl (decide_eq_false hg53) ?_
       refine dw_o rfl (ok_nilCheck rfl) ?_
       refine dw_guardT rfl rfl rfl rfl (decide_eq_false hg53) ?_
       refine dw_o rfl (ok_fieldAddr1 runUnderlying50 rfl sizeOf3 rfl rfl) ?_
       refine dw_guardT rfl rfl rfl rfl (decide_eq_false hg53) ?_
       refine dw_o rfl (ok_load ti3 rfl) ?_
       refine dw_guardT rfl rfl rfl rfl (decide_eq_false hg53) ?_
       refine dw_o rfl (ok_geq rfl rfl) ?_
       refine dw_o rfl (ok_pickF rfl (decide_eq_false hg53) rfl) ?_
       refine dw_nil ?_
       refine ent_nil ?_
       exact ent_rep ⟨rfl, rfl, rfl, rfl, rfl, rfl, rfl, slot_bool (dq_Q ((or_iff_right (fun h => h.elim (fun h => h.elim hg39 hg48) hg53)).trans Iff.rfl)), trivial⟩ rfl
      refine dw_guardF rfl rfl rfl rfl (decide_eq_true hg53) ?_
      refine dw_guardF rfl rfl rfl rfl (decide_eq_true hg53) ?_
      refine dw_guardF rfl rfl rfl rfl (decide_eq_true hg53) ?_
      refine dw_guardF rfl rfl rfl rfl (decide_eq_true hg53) ?_
      refine dw_guardF rfl rfl rfl rfl (decide_eq_true hg53) ?_
      refine dw_guardF rfl rfl rfl rfl (decide_eq_true hg53) ?_
      refine dw_o rfl (ok_pickT rfl (decide_eq_true hg53) rfl) ?_
      refine dw_nil ?_
      refine ent_nil ?_
      exact ent_rep ⟨rfl, rfl, rfl, rfl, rfl, rfl, rfl, slot_bool (dq_T rfl (Or.inl (Or.inr hg53))), trivial⟩ rfl
     refine dw_guardF rfl rfl rfl rfl (decide_eq_true hg48) ?_
     refine dw_guardF rfl rfl rfl rfl (decide_eq_true hg48) ?_
     refine dw_o rfl (ok_pickT rfl (decide_eq_true hg48) rfl) ?_
     refine dw_o rfl (ok_move rfl) ?_
     refine dw_guardF rfl rfl rfl rfl rfl ?_
     refine dw_guardF rfl rfl rfl rfl rfl ?_
     refine dw_guardF rfl rfl rfl rfl rfl ?_
     refine dw_guardF rfl rfl rfl rfl rfl ?_
     refine dw_guardF rfl rfl rfl rfl rfl ?_
     refine dw_guardF rfl rfl rfl rfl rfl ?_
     refine dw_guardF rfl rfl rfl rfl rfl ?_
     refine dw_o rfl (ok_pickT rfl rfl rfl) ?_
     refine dw_nil ?_
     refine ent_nil ?_
     exact ent_rep ⟨rfl, rfl, rfl, rfl, rfl, rfl, rfl, slot_bool (dq_T rfl (Or.inl (Or.inl (Or.inr hg48)))), trivial⟩ rfl
    refine dw_guardF rfl rfl rfl rfl (decide_eq_true hg39) ?_
    refine dw_guardF rfl rfl rfl rfl (decide_eq_true hg39) ?_
    refine dw_guardF rfl rfl rfl rfl (decide_eq_true hg39) ?_
    refine dw_guardF rfl rfl rfl rfl (decide_eq_true hg39) ?_
    refine dw_guardF rfl rfl rfl rfl (decide_eq_true hg39) ?_
    refine dw_guardF rfl rfl rfl rfl (decide_eq_true hg39) ?_
    refine dw_o rfl (ok_pickT rfl (decide_eq_true hg39) rfl) ?_
    refine dw_o rfl (ok_move rfl) ?_
    refine dw_guardF rfl rfl rfl rfl rfl ?_
    refine dw_guardF rfl rfl rfl rfl rfl ?_
    refine dw_guardF rfl rfl rfl rfl rfl ?_
    refine dw_o rfl (ok_pickT rfl rfl rfl) ?_
    refine dw_o rfl (ok_move rfl) ?_
    refine dw_guardF rfl rfl rfl rfl rfl ?_
    refine dw_guardF rfl rfl rfl rfl rfl ?_
    refine dw_guardF rfl rfl rfl rfl rfl ?_
    refine dw_guardF rfl rfl rfl rfl rfl ?_
    refine dw_guardF rfl rfl rfl rfl rfl ?_
    refine dw_guardF rfl rfl rfl rfl rfl ?_
    refine dw_guardF rfl rfl rfl rfl rfl ?_
    refine dw_o rfl (ok_pickT rfl rfl rfl) ?_
    refine dw_nil ?_
    refine ent_nil ?_
    exact ent_rep ⟨rfl, rfl, rfl, rfl, rfl, rfl, rfl, slot_bool (dq_T rfl (Or.inl (Or.inl (Or.inl hg39)))), trivial⟩ rfl
   refine ent_k K13 ?_
   refine ent_condD rfl (fun h61 => ?_) (fun h61 => ?_)
   ·refine esk rfl ?_
    refine ent_ret ?_
    exact retR1 (.inr rfl) results29 (resr_tmp (res_cv rfl (cv_bool (by refine (decide_eq_false (fun h => ?_)).symm; have hl := h.two x (by omega) (by omega); unfold LabOk lbl at hl; omega))))
   have hpj : 0 ≤ (ix (0, 0, 0) ls x).2.1 ∧ (ix (0, 0, 0) ls x).2.1 < c.N ∧ 1 ≤ (ix (0, 0, 0) ls x).2.2 ∧ (ix (0, 0, 0) ls x).2.2 < c.F.q := by omega
   refine esp K12 ?_
   refine esr rfl fun _ K15 => ?_
   refine ent_o rfl (ok_fieldAddrEx runUnderlying63 rfl sizeOf3 (by decide) rfl) ?_
   refine ent_o rfl (ok_loadB (k := 0) isAgg3 rfl rfl rfl) ?_
   refine ent_o rfl (ok_fieldAddrEx runUnderlying63 rfl sizeOf3 (by decide) rfl) ?_
   refine ent_o rfl (ok_loadB (k := 0) isAgg3 rfl rfl rfl) ?_
   refine ent_o rfl (ok_call (minus_ok c x ((ix (0, 0, 0) ls x).2.1) ((ix (0, 0, 0) ls x).2.2) hk hct ‹_› (by omega) (by omega) (by omega)) rfl) ?_
   refine emm rfl ?_
   refine enk K15 ?_
   refine ent_seq fun _ K16 => ?_
   refine ent_cut (⟨[(0, aSp c), (1, aSl 3 true aLab ls), (27, aSl 3 true aLab ls), (28, aInt (↑ls.length : Int)), (29, aInt x), (82, aBool (decide ((((ix (0, 0, 0) ls x).1) < 1) ∨ (((ix (0, 0, 0) ls (minV c x ((ix (0, 0, 0) ls x).2.1) ((ix (0, 0, 0) ls x).2.2))).1) ≠ (((ix (0, 0, 0) ls x).1) - 1)))))], [oBox b6_1 63 [aInt ((ix (0, 0, 0) ls x).1), aInt ((ix (0, 0, 0) ls x).2.1), aInt ((ix (0, 0, 0) ls x).2.2)]]⟩) ?_ ?_
   ·have hw64 := h64 _ (ix_mem (0, 0, 0) ls x0 (by omega))
    have hmv := min_dig hk x (ix (0, 0, 0) ls x).2.1 (ix (0, 0, 0) ls x).2.2
    refine ent_draw 14 mixed (by kernel_rfl) (by kernel_rfl) (by kernel_rfl) ?_
    refine dw_o rfl (ok_fieldAddrEx runUnderlying63 rfl sizeOf3 (by decide) rfl) ?_
    refine dw_o rfl (ok_loadB (k := 0) isAgg3 rfl rfl rfl) ?_
    refine dw_o rfl (ok_lss rfl rfl) ?_
    refine dw_o rfl (ok_move rfl) ?_
    refine dw_guardDf rfl rfl rfl rfl (fun hg72 => ?_) (fun hg72 => ?_)
    ·refine dw_o rfl (ok_move rfl) ?_
     refine dw_guardT rfl rfl rfl rfl (decide_eq_false hg72) ?_
     refine dw_o rfl (ok_move rfl) ?_
     refine dw_guardT rfl rfl rfl rfl (decide_eq_false hg72) ?_
     refine dw_o rfl (ok_index (0, 0, 0) sl37 rfl rfl (by omega) (by omega)) ?_
     refine dw_guardT rfl rfl rfl rfl (decide_eq_false hg72) ?_
     refine dw_o rfl (ok_fieldAddr1 runUnderlying63 rfl sizeOf3 rfl rfl) ?_
     refine dw_guardT rfl rfl rfl rfl (decide_eq_false hg72) ?_
     refine dw_o rfl (ok_load ti3 rfl) ?_
     refine dw_guardT rfl rfl rfl rfl (decide_eq_false hg72) ?_
     refine dw_o rfl (ok_fieldAddrEx runUnderlying63 rfl sizeOf3 (by decide) rfl) ?_
     refine dw_guardT rfl rfl rfl rfl (decide_eq_false hg72) ?_
     refine dw_o rfl (ok_loadB (k := 0) isAgg3 rfl rfl rfl) ?_
     refine dw_guardT rfl rfl rfl rfl (decide_eq_false hg72) ?_
     refine dw_o rfl (ok_sub rfl rfl (by omega) (by omega)) ?_
     refine dw_guardT rfl rfl rfl rfl (decide_eq_false hg72) ?_
     refine dw_o rfl (ok_neq rfl rfl) ?_
     refine dw_o rfl (ok_pickF rfl (decide_eq_false hg72) rfl) ?_
     refine dw_nil ?_
     refine ent_nil ?_
     exact ent_rep ⟨rfl, rfl, rfl, rfl, rfl, slot_bool (dq_Q ((or_iff_right hg72).trans Iff.rfl)), trivial⟩ rfl
    refine dw_guardF rfl rfl rfl rfl (decide_eq_true hg72) ?_
    refine dw_guardF rfl rfl rfl rfl (decide_eq_true hg72) ?_
    refine dw_guardF rfl rfl rfl rfl (decide_eq_true hg72) ?_
    refine dw_guardF rfl rfl rfl rfl (decide_eq_true hg72) ?_
    refine dw_guardF rfl rfl rfl rfl (decide_eq_true hg72) ?_
    refine dw_guardF rfl rfl rfl rfl (decide_eq_true hg72) ?_
    refine dw_guardF rfl rfl rfl rfl (decide_eq_true hg72) ?_
    refine dw_guardF rfl rfl rfl rfl (decide_eq_true hg72) ?_
    refine dw_o rfl (ok_pickT rfl (decide_eq_true hg72) rfl) ?_
    refine dw_nil ?_
    refine ent_nil ?_
    exact ent_rep ⟨rfl, rfl, rfl, rfl, rfl, slot_bool (dq_T rfl (Or.inl hg72)), trivial⟩ rfl
   refine ent_k K16 ?_
   refine ent_condD rfl (fun h82 => ?_) (fun h82 => ?_)
   ·refine esk rfl ?_
    refine ent_ret ?_
    exact retR1 (.inr rfl) results29 (resr_tmp (res_cv rfl (cv_bool (by refine (decide_eq_false (fun h => ?_)).symm; have hl := h.two x (by omega) (by omega); unfold LabOk lbl at hl; omega))))
   have hlx : LabOk c ls x := by unfold LabOk lbl; omega
   refine esp K9 ?_
   refine ent_region ?_
   refine ent_o rfl (ok_add rfl rfl (by omega) (by omega)) ?_
   refine emm rfl ?_
   refine ent_nil ?_
   refine ent_drop 0 ?_
   refine ent_again (s := (x)) (x + 1) ⟨(by omega), ‹_›, (fun z z0 z1 => by by_cases hz : z = x; (rw [hz]; first | exact hlx | omega); exact h2 z z0 (by omega))⟩ (by omega) (ent_rep ⟨rfl, rfl, rfl, rfl, rfl, trivial⟩ rfl)
  refine esp K9 ?_
  refine ent_region ?_
  refine ent_o rfl (ok_add rfl rfl (by omega) (by omega)) ?_
  refine emm rfl ?_
  refine ent_nil ?_
  refine ent_drop 0 ?_
  refine ent_again (s := (x)) (x + 1) ⟨(by omega), ‹_›, (fun z z0 z1 => by by_cases hz : z = x; (rw [hz]; first | exact hlx | omega); exact h2 z z0 (by omega))⟩ (by omega) (ent_rep ⟨rfl, rfl, rfl, rfl, rfl, trivial⟩ rfl)
 refine ent_exit ?_
 refine ent_k K5 ?_
 refine ent_seq fun _ K18 => ?_
 refine ent_seq fun _ K19 => ?_
 have htwo : ∀ z : Int, 1 ≤ z → z < c.F.q ^ (dua c).Gen.length → LabOk c ls z := fun z z0 z1 => h2 z z0 (by omega)
 refine ent_region ?_
 refine emm rfl ?_
 refine ent_o rfl (ok_len rfl runUnderlying37 rfl) ?_
 refine emm rfl ?_
 refine enk K19 ?_
 refine ent_block ?_
 refine ent_loop (fun (u : Int) => (⟨[(0, aSp c), (1, aSl 3 true aLab ls), (84, aSl 3 true aLab ls), (85, aInt (↑ls.length : Int)), (86, aInt u)], []⟩ : St)) (fun (u : Int) => (0 ≤ u) ∧ (u ≤ ls.length) ∧ (∀ z j2 a2 : Int, 0 ≤ z → z < u → 0 ≤ j2 → j2 < c.N → 1 ≤ a2 → a2 < c.F.q → Step3 c ls z j2 a2)) (fun (u : Int) => (ls.length - u).toNat) 0 ⟨(by omega), (by omega), (fun z j2 a2 z0 z1 => by omega)⟩ (ent_rep ⟨rfl, rfl, rfl, rfl, slot_av (av_int (show 0 = (0 : Int) by rfl)), trivial⟩ rfl) ?_
 rintro u ⟨u0, u1, h3⟩
 show Ent _ ⟨_, []⟩ _
 refine esr rfl fun _ K20 => ?_
 refine ent_o rfl (ok_lss rfl rfl) ?_
 refine enk K20 ?_
 refine ent_seq fun _ K21 => ?_
 refine ent_condD rfl (fun h87 => ?_) (fun h87 => ?_)
 ·refine esp K21 ?_
  refine ent_seq fun _ K22 => ?_
  refine ent_block ?_
  refine esr rfl fun _ K23 => ?_
  refine ent_o rfl (ok_index (0, 0, 0) sl37 rfl rfl (by omega) (by omega)) ?_
  refine ent_o rfl (ok_load ti63 rfl) ?_
  refine ent_alloc (z := .agg #[.int .i64 0, .int .i64 0, .int .i64 0]) [aInt 0, aInt 0, aInt 0] rfl zv63 rfl zc63 (fun b9_2 => ?_)
  refine emm rfl ?_
  refine ent_storeBS (k := 0) sizeOf63 rfl rfl rfl (AllOne.mem ⟨(one_int _), (one_int _), (one_int _), trivial⟩) rfl rfl ?_
  show Ent _ ⟨_, [_]⟩ _
  refine enk K23 ?_
  refine esr rfl fun _ K24 => ?_
  refine ent_o rfl (ok_nilCheck rfl) ?_
  refine ent_o rfl (ok_fieldAddr1 runUnderlying50 rfl sizeOf25 rfl rfl) ?_
  refine ent_o rfl (ok_load ti25 rfl) ?_
  refine ent_o rfl (ok_len rfl runUnderlying25 rfl) ?_
  refine emm rfl ?_
  refine enk K24 ?_
  refine ent_block ?_
  refine ent_loop (fun (j : Int) => (⟨[(0, aSp c), (1, aSl 3 true aLab ls), (8, aInt u), (9, aEx (.pointer (some ⟨b9_2, 0, none⟩))), (84, aSl 3 true aLab ls), (85, aInt (↑ls.length : Int)), (86, aInt u), (95, aInt (↑(turnL (dua c).Gen c.N).length : Int)), (96, aInt j)], [oBox b9_2 63 [aInt ((ix (0, 0, 0) ls u).1), aInt ((ix (0, 0, 0) ls u).2.1), aInt ((ix (0, 0, 0) ls u).2.2)]]⟩ : St)) (fun (j : Int) => (0 ≤ j) ∧ (j ≤ c.N) ∧ (∀ j2 a2 : Int, 0 ≤ j2 → j2 < j → 1 ≤ a2 → a2 < c.F.q → Step3 c ls u j2 a2)) (fun (j : Int) => (c.N - j).toNat) 0 ⟨(by omega), (by omega), (fun j2 a2 z0 z1 => by omega)⟩ (ent_rep ⟨rfl, rfl, rfl, rfl, rfl, rfl, rfl, rfl, slot_av (av_int (show 0 = (0 : Int) by rfl)), trivial⟩ rfl) ?_
  rintro j ⟨j0, j1, h4⟩
  show Ent _ ⟨_, [_]⟩ _
  refine esr rfl fun _ K25 => ?_
  refine ent_o rfl (ok_lss rfl rfl) ?_
  refine enk K25 ?_
  refine ent_seq fun _ K26 => ?_
  refine ent_condD rfl (fun h97 => ?_) (fun h97 => ?_)
  ·refine esp K26 ?_
   refine ent_seq fun _ K27 => ?_
   refine ent_block ?_
   refine esk rfl ?_
   refine esk rfl ?_
   refine ent_block ?_
   refine ent_loop (fun (a : Int) => (⟨[(0, aSp c), (1, aSl 3 true aLab ls), (8, aInt u), (9, aEx (.pointer (some ⟨b9_2, 0, none⟩))), (10, aInt j), (11, aInt a), (84, aSl 3 true aLab ls), (85, aInt (↑ls.length : Int)), (86, aInt u), (95, aInt (↑(turnL (dua c).Gen c.N).length : Int)), (96, aInt j)], [oBox b9_2 63 [aInt ((ix (0, 0, 0) ls u).1), aInt ((ix (0, 0, 0) ls u).2.1), aInt ((ix (0, 0, 0) ls u).2.2)]]⟩ : St)) (fun (a : Int) => (1 ≤ a) ∧ (a ≤ c.F.q) ∧ (∀ a2 : Int, 1 ≤ a2 → a2 < a → Step3 c ls u j a2)) (fun (a : Int) => (c.F.q - a).toNat) 1 ⟨(by omega), (by omega), (fun a2 z0 z1 => by omega)⟩ (ent_rep ⟨rfl, rfl, rfl, rfl, rfl, slot_av (av_int (show 1 = (1 : Int) by rfl)), rfl, rfl, rfl, rfl, rfl, trivial⟩ rfl) ?_
   rintro a ⟨a0, a1, h5⟩
   show Ent _ ⟨_, [_]⟩ _
   refine ent_seq fun _ K30 => ?_
   refine esr rfl fun _ K31 => ?_
   refine ent_o rfl (ok_nilCheck rfl) ?_
   refine ent_o rfl (ok_fieldAddr1 runUnderlying50 rfl sizeOf3 rfl rfl) ?_
   refine ent_o rfl (ok_load ti3 rfl) ?_
   refine ent_o rfl (ok_lss rfl rfl) ?_
   refine enk K31 ?_
   refine ent_condD rfl (fun h104 => ?_) (fun h104 => ?_)
   ·have hmu := min_dig hk u j a
    have hbu : 0 ≤ (ix (0, 0, 0) ls u).1 ∧ (ix (0, 0, 0) ls u).1 < c.F.q ^ (dua c).Gen.length := two_bd hk hz0 htwo u0 (by omega)
    refine esp K30 ?_
    refine ent_seq fun _ K32 => ?_
    refine ent_block ?_
    refine esr rfl fun _ K33 => ?_
    refine ent_o rfl (ok_call (minus_ok c u j a hk hct ‹_› (by omega) ‹_› (by omega)) rfl) ?_
    refine ent_o rfl (ok_index (0, 0, 0) sl37 rfl rfl (by omega) (by omega)) ?_
    refine ent_o rfl (ok_fieldAddr1 runUnderlying63 rfl sizeOf3 rfl rfl) ?_
    refine ent_o rfl (ok_load ti3 rfl) ?_
    refine emm rfl ?_
    refine enk K33 ?_
    refine ent_seq fun _ K34 => ?_
    refine ent_cut (⟨[(0, aSp c), (1, aSl 3 true aLab ls), (8, aInt u), (9, aEx (.pointer (some ⟨b9_2, 0, none⟩))), (10, aInt j), (11, aInt a), (84, aSl 3 true aLab ls), (85, aInt (↑ls.length : Int)), (86, aInt u), (95, aInt (↑(turnL (dua c).Gen c.N).length : Int)), (96, aInt j), (127, aBool (decide (((((ix (0, 0, 0) ls u).1) + 1) < ((ix (0, 0, 0) ls (minV c u j a)).1)) ∨ (((ix (0, 0, 0) ls (minV c u j a)).1) < (((ix (0, 0, 0) ls u).1) - 1)))))], [oBox b9_2 63 [aInt ((ix (0, 0, 0) ls u).1), aInt ((ix (0, 0, 0) ls u).2.1), aInt ((ix (0, 0, 0) ls u).2.2)]]⟩) ?_ ?_
    ·refine ent_region ?_
     refine emm rfl ?_
     refine ent_o rfl (ok_fieldAddrEx runUnderlying63 rfl sizeOf3 (by decide) rfl) ?_
     refine ent_o rfl (ok_loadB (k := 0) isAgg3 rfl rfl rfl) ?_
     refine ent_o rfl (ok_add rfl rfl (by omega) (by omega)) ?_
     refine ent_o rfl (ok_gtr rfl rfl) ?_
     refine emm rfl ?_
     refine ent_guardXDf rfl rfl rfl rfl (fun hg121 => ?_) (fun hg121 => ?_)
     ·refine emm rfl ?_
      refine ent_guardXT rfl rfl rfl rfl (decide_eq_false hg121) ?_
      refine ent_o rfl (ok_fieldAddrEx runUnderlying63 rfl sizeOf3 (by decide) rfl) ?_
      refine ent_guardXT rfl rfl rfl rfl (decide_eq_false hg121) ?_
      refine ent_o rfl (ok_loadB (k := 0) isAgg3 rfl rfl rfl) ?_
      refine ent_guardXT rfl rfl rfl rfl (decide_eq_false hg121) ?_
      refine ent_o rfl (ok_sub rfl rfl (by omega) (by omega)) ?_
      refine ent_guardXT rfl rfl rfl rfl (decide_eq_false hg121) ?_
      refine ent_o rfl (ok_lss rfl rfl) ?_
      refine ent_o rfl (ok_pickF rfl (decide_eq_false hg121) rfl) ?_
      refine ent_nil ?_
      exact ent_rep ⟨rfl, rfl, rfl, rfl, rfl, rfl, rfl, rfl, rfl, rfl, rfl, slot_bool (dq_Q ((or_iff_right hg121).trans Iff.rfl)), trivial⟩ rfl
     refine ent_guardXF rfl rfl rfl rfl (decide_eq_true hg121) ?_
     refine ent_guardXF rfl rfl rfl rfl (decide_eq_true hg121) ?_
     refine ent_guardXF rfl rfl rfl rfl (decide_eq_true hg121) ?_
     refine ent_guardXF rfl rfl rfl rfl (decide_eq_true hg121) ?_
     refine ent_o rfl (ok_pickT rfl (decide_eq_true hg121) rfl) ?_
     refine ent_nil ?_
     exact ent_rep ⟨rfl, rfl, rfl, rfl, rfl, rfl, rfl, rfl, rfl, rfl, rfl, slot_bool (dq_T rfl (Or.inl hg121)), trivial⟩ rfl
    refine ent_k K34 ?_
    refine ent_condD rfl (fun h127 => ?_) (fun h127 => ?_)
    ·refine esk rfl ?_
     refine ent_ret ?_
     exact retR1 (.inr rfl) results29 (resr_tmp (res_cv rfl (cv_bool (by refine (decide_eq_false (fun h => ?_)).symm; exact h.three u j a u0 (by omega) j0 (by omega) a0 (by omega) h127))))
    refine esp K32 ?_
    refine ent_region ?_
    refine emm rfl ?_
    refine ent_o rfl (ok_add rfl rfl (by omega) (by omega)) ?_
    refine emm rfl ?_
    refine ent_nil ?_
    refine ent_again (s := (a)) (a + 1) ⟨(by omega), ‹_›, (fun a2 b0 b1 => by by_cases hz : a2 = a; (rw [hz]; exact h127); exact h5 a2 b0 (by omega))⟩ (by omega) (ent_rep ⟨rfl, rfl, rfl, rfl, rfl, rfl, rfl, rfl, rfl, rfl, rfl, trivial⟩ rfl)
   refine ent_exit ?_
   refine ent_k K27 ?_
   refine ent_region ?_
   refine ent_o rfl (ok_add rfl rfl (by omega) (by omega)) ?_
   refine emm rfl ?_
   refine ent_nil ?_
   refine ent_again (s := (j)) (j + 1) ⟨(by omega), (by omega), (fun j2 a2 b0 b1 c0 c1 => by by_cases hz : j2 = j; (rw [hz]; exact h5 a2 c0 (by omega)); exact h4 j2 a2 b0 (by omega) c0 c1)⟩ (by omega) (ent_rep ⟨rfl, rfl, rfl, rfl, rfl, rfl, rfl, rfl, rfl, trivial⟩ rfl)
  refine ent_exit ?_
  refine ent_k K22 ?_
  refine ent_region ?_
  refine ent_o rfl (ok_add rfl rfl (by omega) (by omega)) ?_
  refine emm rfl ?_
  refine ent_nil ?_
  refine ent_drop 0 ?_
  refine ent_again (s := (u)) (u + 1) ⟨(by omega), ‹_›, (fun z j2 a2 z0 z1 b0 b1 c0 c1 => by by_cases hz : z = u; (rw [hz]; exact h4 j2 a2 b0 (by omega) c0 c1); exact h3 z j2 a2 z0 (by omega) b0 b1 c0 c1)⟩ (by omega) (ent_rep ⟨rfl, rfl, rfl, rfl, rfl, trivial⟩ rfl)
 refine ent_exit ?_
 refine ent_k K18 ?_
 refine esk rfl ?_
 refine ent_ret ?_
 exact retR1 (.inr rfl) results29 (resr_tmp (res_cv rfl (cv_bool (by exact (decide_eq_true (⟨hlen, hz0, htwo, fun z j2 a2 z0 z1 b0 b1 c0 c1 => h3 z j2 a2 z0 (by omega) b0 b1 c0 c1⟩ : Prv c ls)).symm))))

end Go.Proofs.Ytcilbmggiahciaa

