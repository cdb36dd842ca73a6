/-
  Facts for the law EnumerateWithin.
-/
import Derived.Test.YtbofipdmoocflaaProg
import Derived.Test.YtbofipdmoocflaaXTab
import Derived.Test.YtbofipdmoocflaaPlainEm
import Derived.Test.YtbofipdmoocflaaCiLib
import Derived.Test.YtbofipdmoocflaaX4
import Derived.Test.YtbofipdmoocflaaX5
import Derived.Test.YtbofipdmoocflaaX6
import Derived.Test.YtbofipdmoocflaaX9
import Derived.Test.YtbofipdmoocflaaX1
import Derived.Test.YtbofipdmoocflaaX10
import Derived.Test.YtbofipdmoocflaaX11
import Derived.Test.YtbofipdmoocflaaX12
import Derived.Test.YtbofipdmoocflaaX13
import Derived.Test.YtbofipdmoocflaaX14
import Derived.Test.YtbofipdmoocflaaX15
import Derived.Test.YtbofipdmoocflaaX18
import Derived.Test.YtbofipdmoocflaaX19
import Derived.Test.YtbofipdmoocflaaX20
import Derived.Test.YtbofipdmoocflaaX30
import Derived.Test.YtbofipdmoocflaaX31
import Derived.Test.YtbofipdmoocflaaX32
import Derived.Test.YtbofipdmoocflaaX33
import Derived.Test.YtbofipdmoocflaaX34
import Derived.Test.YtbofipdmoocflaaX35
import Derived.Test.YtbofipdmoocflaaX36
open Go Go.Cw
namespace Go.Proofs.Ytbofipdmoocflaa
set_option maxRecDepth 100000
set_option linter.unusedVariables false
set_option linter.unusedSimpArgs false
theorem EnumerateOfWeight_walk (c : Cod) (d : Int)  : Ctr Try.prog 4 [aCod c, aInt d] (aBool true) := by
 refine ctr_of Try.call4 Try.func4 rfl rfl ?_
 intro w O
 refine ent_lenC 0 2 rfl rfl (fun hlen0_2 => ?_)
 refine ent_lenC 0 4 rfl rfl (fun hlen0_4 => ?_)
 refine esr rfl fun _ K1 => ?_
 refine ent_boxS rfl rfl (AllOne.mem ⟨(one_int _), (one_int _), one_sl, (one_int _), one_sl, trivial⟩) (fun b2_1 => ?_)
 refine emm rfl ?_
 refine enk K1 ?_
 refine ent_seq fun _ K2 => ?_
 refine esr rfl fun _ K3 => ?_
 refine ent_o rfl (ok_loadBS (k := 0) ti27 rfl rfl rfl) ?_
 refine ent_o rfl (ok_call (small_ok c) rfl) ?_
 refine ent_o rfl (ok_notD rfl) ?_
 refine enk K3 ?_
 refine ent_condD rfl (fun h14 => ?_) (fun h14 => ?_)
 ·refine esr rfl fun _ K4 => ?_
  refine ent_o rfl (ok_call alive_ok rfl) ?_
  refine emm rfl ?_
  refine enk K4 ?_
  refine ent_ret ?_
  exact retR1 (.inr rfl) Try.results4 (resr_tmp (res_cv rfl (cv_bool (by first | rfl | (rw [hno.1, hno.2]; simp; done) | (simp [hno.1, hno.2]; done)))))
 ·refine esp K2 ?_
  refine esr rfl fun _ K5 => ?_
  refine ent_o rfl (ok_loadBS (k := 0) ti27 rfl rfl rfl) ?_
  refine emm rfl ?_
  refine ent_o rfl (ok_call (eOfWeight_ok c d) rfl) ?_
  refine emm rfl ?_
  refine ent_o rfl (ok_extract rfl rfl) ?_
  refine ent_o rfl (ok_extract rfl rfl) ?_
  refine emm rfl ?_
  refine enk K5 ?_
  refine esr rfl fun _ K6 => ?_
  refine ent_o rfl (ok_loadBS (k := 0) ti27 rfl rfl rfl) ?_
  refine ent_o rfl (ok_call (rcCheck_ok c) rfl) ?_
  refine emm rfl ?_
  refine enk K6 ?_
  refine ent_seq fun _ K7 => ?_
  refine esr rfl fun _ K8 => ?_
  refine ent_o rfl (ok_neq rfl rfl) ?_
  refine enk K8 ?_
  refine ent_condD rfl (fun h25 => ?_) (fun h25 => ?_)
  ·have hno := owE_no (d := d) h25
   refine ent_seq fun _ K9 => ?_
   refine ent_cut (⟨[(4, aBool (decide ((((owE c d) = (codE c)) ∧ ((↑(owL c d).length : Int) = 0)) ∨ False)))], [oBox b2_1 27 [aInt c.F.P, aInt c.F.M, aSl 1 false aInt c.F.mod, aInt c.N, aSl 1 false aInts c.Gen]]⟩) ?_ ?_
   ·refine ent_region ?_
    refine emm rfl ?_
    refine ent_o rfl (ok_eql rfl rfl) ?_
    refine emm rfl ?_
    refine ent_guardXDt rfl rfl rfl rfl (fun hg29 => ?_) (fun hg29 => ?_)
    ·refine emm rfl ?_
     refine ent_guardXT rfl rfl rfl rfl (decide_eq_true hg29) ?_
     refine ent_o rfl (ok_len rfl Try.runUnderlying25 rfl) ?_
     refine ent_guardXT rfl rfl rfl rfl (decide_eq_true hg29) ?_
     refine ent_o rfl (ok_eql rfl rfl) ?_
     refine ent_o rfl (ok_pickT rfl (decide_eq_true hg29) rfl) ?_
     refine emm rfl ?_
     refine ent_guardXDt rfl rfl rfl rfl (fun hg34 => ?_) (fun hg34 => ?_)
     ·refine ent_o rfl (ok_call alive_ok rfl) ?_
      refine ent_o rfl (ok_pickT rfl (decide_eq_true hg34) rfl) ?_
      refine emm rfl ?_
      refine ent_nil ?_
      exact ent_rep ⟨slot_bool (dq_T rfl (Or.inl ⟨hg29, hg34⟩)), trivial⟩ rfl
     ·refine ent_o rfl (ok_pickF rfl (decide_eq_false hg34) rfl) ?_
      refine emm rfl ?_
      refine ent_nil ?_
      exact ent_rep ⟨slot_bool (dq_F rfl (fun h => h.elim (fun h => hg34 h.2) id)), trivial⟩ rfl
    ·refine ent_guardXF rfl rfl rfl rfl (decide_eq_false hg29) ?_
     refine ent_guardXF rfl rfl rfl rfl (decide_eq_false hg29) ?_
     refine ent_o rfl (ok_pickF rfl (decide_eq_false hg29) rfl) ?_
     refine emm rfl ?_
     refine ent_guardXF rfl rfl rfl rfl rfl ?_
     refine ent_o rfl (ok_pickF rfl rfl rfl) ?_
     refine emm rfl ?_
     refine ent_nil ?_
     exact ent_rep ⟨slot_bool (dq_F rfl (fun h => h.elim (fun h => hg29 h.1) id)), trivial⟩ rfl
   refine ent_k K9 ?_
   refine ent_ret ?_
   exact retR1 (.inr rfl) Try.results4 (resr_tmp (res_cv rfl (cv_bool (by first | rfl | (rw [hno.1, hno.2]; simp; done) | (simp [hno.1, hno.2]; done)))))
  ·have hc0 := Classical.not_not.1 h25
   have hk := codE_zero.1 hc0
   have hn1 := hk.n1
   have hn64 := hk.n64
   have how := ow_wn hc0 d
   refine esp K7 ?_
   refine ent_seq fun _ K10 => ?_
   refine ent_draw 12 mixed (by kernel_rfl) (by kernel_rfl) (by kernel_rfl) ?_
   refine dw_o rfl (ok_loadBS (k := 0) ti27 rfl rfl rfl) ?_
   refine dw_o rfl (ok_fieldAddrEx Try.runUnderlying27 rfl Try.sizeOf3 (by decide) rfl) ?_
   refine dw_o rfl (ok_loadB (k := 0) Try.isAgg3 rfl rfl rfl) ?_
   refine dw_o rfl (ok_makeA aInt 0 vt22 rfl rfl (by omega) (by omega) (by omega) (fun _ _ => rfl) (AllV.mem ⟨rfl, trivial⟩)) ?_
   refine dw_o rfl (ok_move rfl) ?_
   refine dw_o rfl (ok_move rfl) ?_
   refine dw_o rfl (ok_callA (rWithin_ok c (List.replicate (c.N).toNat 0) d d) ⟨arg_a rfl (cv_id sub_refl), arg_a rfl (cv_fr sub_refl), arg_a rfl (cv_id sub_refl), arg_a rfl (cv_id sub_refl), trivial⟩) ?_
   refine dw_o rfl (ok_move rfl) ?_
   refine dw_o rfl (ok_extract rfl rfl) ?_
   refine dw_o rfl (ok_extract rfl rfl) ?_
   refine dw_o rfl (ok_assign rfl) ?_
   refine dw_o rfl (ok_assign rfl) ?_
   refine dw_nil ?_
   refine enk K10 ?_
   refine ent_seq fun _ K11 => ?_
   refine ent_seq fun _ K12 => ?_
   refine ent_cut (⟨[(1, aInt d), (2, aEx (.pointer (some ⟨b2_1, 0, none⟩))), (5, aSl 1 false aInts (owL c d)), (9, aInt (wnE c (List.replicate (c.N).toNat 0) d d)), (55, aBool (decide (((owE c d) ≠ (wnE c (List.replicate (c.N).toNat 0) d d)) ∨ (¬ ((owL c d) = (wnL c (List.replicate (c.N).toNat 0) d d))))))], [oBox b2_1 27 [aInt c.F.P, aInt c.F.M, aSl 1 false aInt c.F.mod, aInt c.N, aSl 1 false aInts c.Gen]]⟩) ?_ ?_
   ·refine ent_region ?_
    refine emm rfl ?_
    refine ent_o rfl (ok_neq rfl rfl) ?_
    refine emm rfl ?_
    refine ent_guardXDf rfl rfl rfl rfl (fun hg50 => ?_) (fun hg50 => ?_)
    ·refine emm rfl ?_
     refine ent_guardXT rfl rfl rfl rfl (decide_eq_false hg50) ?_
     refine emm rfl ?_
     refine ent_guardXT rfl rfl rfl rfl (decide_eq_false hg50) ?_
     refine ent_o rfl (ok_call (rSameLists_ok (owL c d) (wnL c (List.replicate (c.N).toNat 0) d d)) rfl) ?_
     refine ent_guardXT rfl rfl rfl rfl (decide_eq_false hg50) ?_
     refine ent_o rfl (ok_notD rfl) ?_
     refine ent_o rfl (ok_pickF rfl (decide_eq_false hg50) rfl) ?_
     refine ent_nil ?_
     exact ent_rep ⟨rfl, rfl, rfl, rfl, slot_bool (dq_Q ((or_iff_right hg50).trans Iff.rfl)), trivial⟩ rfl
    ·refine ent_guardXF rfl rfl rfl rfl (decide_eq_true hg50) ?_
     refine ent_guardXF rfl rfl rfl rfl (decide_eq_true hg50) ?_
     refine ent_guardXF rfl rfl rfl rfl (decide_eq_true hg50) ?_
     refine ent_o rfl (ok_pickT rfl (decide_eq_true hg50) rfl) ?_
     refine ent_nil ?_
     exact ent_rep ⟨rfl, rfl, rfl, rfl, slot_bool (dq_T rfl (Or.inl hg50)), trivial⟩ rfl
   refine ent_k K12 ?_
   refine ent_condD rfl (fun h55 => ?_) (fun h55 => ?_)
   ·refine absurd h55 ?_; rw [how.1, how.2]; simp
   ·refine esp K11 ?_
    refine ent_seq fun _ K13 => ?_
    refine esr rfl fun _ K14 => ?_
    refine ent_o rfl (ok_eql rfl rfl) ?_
    refine enk K14 ?_
    refine ent_condD rfl (fun h57 => ?_) (fun h57 => ?_)
    ·have hf := ow_facts (how.1.symm.trans h57)
     have hwf := wts_facts hf.1
     have hfl := hwf.1
     have hf1 := hf.2.1
     have hf2 := hf.2.2.1
     refine esr rfl fun _ K15 => ?_
     refine ent_o rfl (ok_loadBS (k := 0) ti27 rfl rfl rfl) ?_
     refine ent_o rfl (ok_call (eWeights_ok c) rfl) ?_
     refine emm rfl ?_
     refine ent_o rfl (ok_extract rfl rfl) ?_
     refine ent_o rfl (ok_extract rfl rfl) ?_
     refine emm rfl ?_
     refine enk K15 ?_
     refine ent_seq fun _ K16 => ?_
     refine ent_cut (⟨[(81, aBool (decide ((((sizE c) ≠ 0) ∨ ((↑(wtsL c).length : Int) ≠ (c.N + 1))) ∨ ((ix 0 (wtsL c) d) ≠ (↑(owL c d).length : Int)))))], [oBox b2_1 27 [aInt c.F.P, aInt c.F.M, aSl 1 false aInt c.F.mod, aInt c.N, aSl 1 false aInts c.Gen]]⟩) ?_ ?_
     ·refine ent_region ?_
      refine emm rfl ?_
      refine ent_o rfl (ok_neq rfl rfl) ?_
      refine emm rfl ?_
      refine ent_guardXDf rfl rfl rfl rfl (fun hg65 => ?_) (fun hg65 => ?_)
      ·refine emm rfl ?_
       refine ent_guardXT rfl rfl rfl rfl (decide_eq_false hg65) ?_
       refine ent_o rfl (ok_len rfl Try.runUnderlying22 rfl) ?_
       refine ent_guardXT rfl rfl rfl rfl (decide_eq_false hg65) ?_
       refine ent_o rfl (ok_fieldAddrEx Try.runUnderlying27 rfl Try.sizeOf3 (by decide) rfl) ?_
       refine ent_guardXT rfl rfl rfl rfl (decide_eq_false hg65) ?_
       refine ent_o rfl (ok_loadB (k := 0) Try.isAgg3 rfl rfl rfl) ?_
       refine ent_guardXT rfl rfl rfl rfl (decide_eq_false hg65) ?_
       refine ent_o rfl (ok_add rfl rfl (by omega) (by omega)) ?_
       refine ent_guardXT rfl rfl rfl rfl (decide_eq_false hg65) ?_
       refine ent_o rfl (ok_neq rfl rfl) ?_
       refine ent_o rfl (ok_pickF rfl (decide_eq_false hg65) rfl) ?_
       refine emm rfl ?_
       refine ent_guardXDf rfl rfl rfl rfl (fun hg73 => ?_) (fun hg73 => ?_)
       ·refine emm rfl ?_
        refine ent_guardXT rfl rfl rfl rfl (decide_eq_false hg73) ?_
        refine emm rfl ?_
        refine ent_guardXT rfl rfl rfl rfl (decide_eq_false hg73) ?_
        refine ent_o rfl (ok_index 0 sl22 rfl rfl (by omega) (by omega)) ?_
        refine ent_guardXT rfl rfl rfl rfl (decide_eq_false hg73) ?_
        refine ent_o rfl (ok_load ti3 rfl) ?_
        refine ent_guardXT rfl rfl rfl rfl (decide_eq_false hg73) ?_
        refine emm rfl ?_
        refine ent_guardXT rfl rfl rfl rfl (decide_eq_false hg73) ?_
        refine ent_o rfl (ok_len rfl Try.runUnderlying25 rfl) ?_
        refine ent_guardXT rfl rfl rfl rfl (decide_eq_false hg73) ?_
        refine ent_o rfl (ok_neq rfl rfl) ?_
        refine ent_o rfl (ok_pickF rfl (decide_eq_false hg73) rfl) ?_
        refine ent_nil ?_
        exact ent_rep ⟨slot_bool (dq_Q ((or_iff_right (fun h => h.elim hg65 hg73)).trans Iff.rfl)), trivial⟩ rfl
       ·refine ent_guardXF rfl rfl rfl rfl (decide_eq_true hg73) ?_
        refine ent_guardXF rfl rfl rfl rfl (decide_eq_true hg73) ?_
        refine ent_guardXF rfl rfl rfl rfl (decide_eq_true hg73) ?_
        refine ent_guardXF rfl rfl rfl rfl (decide_eq_true hg73) ?_
        refine ent_guardXF rfl rfl rfl rfl (decide_eq_true hg73) ?_
        refine ent_guardXF rfl rfl rfl rfl (decide_eq_true hg73) ?_
        refine ent_o rfl (ok_pickT rfl (decide_eq_true hg73) rfl) ?_
        refine ent_nil ?_
        exact ent_rep ⟨slot_bool (dq_T rfl (Or.inl (Or.inr hg73))), trivial⟩ rfl
      ·refine ent_guardXF rfl rfl rfl rfl (decide_eq_true hg65) ?_
       refine ent_guardXF rfl rfl rfl rfl (decide_eq_true hg65) ?_
       refine ent_guardXF rfl rfl rfl rfl (decide_eq_true hg65) ?_
       refine ent_guardXF rfl rfl rfl rfl (decide_eq_true hg65) ?_
       refine ent_guardXF rfl rfl rfl rfl (decide_eq_true hg65) ?_
       refine ent_o rfl (ok_pickT rfl (decide_eq_true hg65) rfl) ?_
       refine emm rfl ?_
       refine ent_guardXF rfl rfl rfl rfl rfl ?_
       refine ent_guardXF rfl rfl rfl rfl rfl ?_
       refine ent_guardXF rfl rfl rfl rfl rfl ?_
       refine ent_guardXF rfl rfl rfl rfl rfl ?_
       refine ent_guardXF rfl rfl rfl rfl rfl ?_
       refine ent_guardXF rfl rfl rfl rfl rfl ?_
       refine ent_guardXF rfl rfl rfl rfl rfl ?_
       refine ent_o rfl (ok_pickT rfl rfl rfl) ?_
       refine ent_nil ?_
       exact ent_rep ⟨slot_bool (dq_T rfl (Or.inl (Or.inl hg65))), trivial⟩ rfl
     refine ent_k K16 ?_
     refine ent_condD rfl (fun h81 => ?_) (fun h81 => ?_)
     ·refine absurd h81 ?_; rw [hf.1, hfl, hf.2.2.2]; simp
     ·refine esp K13 ?_
      refine esr rfl fun _ K17 => ?_
      refine ent_o rfl (ok_call alive_ok rfl) ?_
      refine emm rfl ?_
      refine enk K17 ?_
      refine ent_ret ?_
      exact retR1 (.inr rfl) Try.results4 (resr_tmp (res_cv rfl (cv_bool (by first | rfl | (rw [hno.1, hno.2]; simp; done) | (simp [hno.1, hno.2]; done)))))
    ·refine esp K13 ?_
     refine esr rfl fun _ K18 => ?_
     refine ent_o rfl (ok_call alive_ok rfl) ?_
     refine emm rfl ?_
     refine enk K18 ?_
     refine ent_ret ?_
     exact retR1 (.inr rfl) Try.results4 (resr_tmp (res_cv rfl (cv_bool (by first | rfl | (rw [hno.1, hno.2]; simp; done) | (simp [hno.1, hno.2]; done)))))

theorem EnumerateLightest_walk (c : Cod) (m : List Int)  : Ctr Try.prog 5 [aCod c, aSl 1 false aInt m] (aBool true) := by
 refine ctr_of Try.call5 Try.func5 rfl rfl ?_
 intro w O
 refine ent_lenC 0 2 rfl rfl (fun hlen0_2 => ?_)
 refine ent_lenC 0 4 rfl rfl (fun hlen0_4 => ?_)
 refine ent_len 1 rfl (fun hlen1 => ?_)
 refine esr rfl fun _ K1 => ?_
 refine ent_boxS rfl rfl (AllOne.mem ⟨(one_int _), (one_int _), one_sl, (one_int _), one_sl, trivial⟩) (fun b2_1 => ?_)
 refine emm rfl ?_
 refine enk K1 ?_
 refine ent_seq fun _ K2 => ?_
 refine esr rfl fun _ K3 => ?_
 refine ent_o rfl (ok_loadBS (k := 0) ti27 rfl rfl rfl) ?_
 refine ent_o rfl (ok_call (small_ok c) rfl) ?_
 refine ent_o rfl (ok_notD rfl) ?_
 refine enk K3 ?_
 refine ent_condD rfl (fun h17 => ?_) (fun h17 => ?_)
 ·refine esr rfl fun _ K4 => ?_
  refine ent_o rfl (ok_call alive_ok rfl) ?_
  refine emm rfl ?_
  refine enk K4 ?_
  refine ent_ret ?_
  exact retR1 (.inr rfl) Try.results5 (resr_tmp (res_cv rfl (cv_bool (by first | rfl | (simp [liV_no h43, liW_no h43]; done)))))
 ·refine esp K2 ?_
  refine esr rfl fun _ K5 => ?_
  refine ent_o rfl (ok_loadBS (k := 0) ti27 rfl rfl rfl) ?_
  refine ent_o rfl (ok_call (eLightest_ok c) rfl) ?_
  refine emm rfl ?_
  refine ent_o rfl (ok_extract rfl rfl) ?_
  refine ent_o rfl (ok_extract rfl rfl) ?_
  refine ent_o rfl (ok_extract rfl rfl) ?_
  refine emm rfl ?_
  refine enk K5 ?_
  refine esr rfl fun _ K6 => ?_
  refine ent_o rfl (ok_loadBS (k := 0) ti27 rfl rfl rfl) ?_
  refine ent_o rfl (ok_call (rcCheck_ok c) rfl) ?_
  refine emm rfl ?_
  refine enk K6 ?_
  refine ent_seq fun _ K7 => ?_
  refine ent_seq fun _ K8 => ?_
  refine ent_cut (⟨[(1, aSl 1 false aInt m), (2, aEx (.pointer (some ⟨b2_1, 0, none⟩))), (5, aInt (liV c)), (6, aSl 1 false aInt (liW c)), (7, aInt (liE c)), (8, aInt (codE c)), (34, aBool (decide (((codE c) = 0) ∧ ((↑c.Gen.length : Int) = 0))))], [oBox b2_1 27 [aInt c.F.P, aInt c.F.M, aSl 1 false aInt c.F.mod, aInt c.N, aSl 1 false aInts c.Gen]]⟩) ?_ ?_
  ·refine ent_region ?_
   refine emm rfl ?_
   refine ent_o rfl (ok_eql rfl rfl) ?_
   refine emm rfl ?_
   refine ent_guardXDt rfl rfl rfl rfl (fun hg29 => ?_) (fun hg29 => ?_)
   ·refine ent_o rfl (ok_fieldAddrEx Try.runUnderlying27 rfl Try.sizeOf25 (by decide) rfl) ?_
    refine ent_guardXT rfl rfl rfl rfl (decide_eq_true hg29) ?_
    refine ent_o rfl (ok_loadB (k := 0) Try.isAgg25 rfl rfl rfl) ?_
    refine ent_guardXT rfl rfl rfl rfl (decide_eq_true hg29) ?_
    refine ent_o rfl (ok_len rfl Try.runUnderlying25 rfl) ?_
    refine ent_guardXT rfl rfl rfl rfl (decide_eq_true hg29) ?_
    refine ent_o rfl (ok_eql rfl rfl) ?_
    refine ent_o rfl (ok_pickT rfl (decide_eq_true hg29) rfl) ?_
    refine ent_nil ?_
    exact ent_rep ⟨rfl, rfl, rfl, rfl, rfl, rfl, slot_bool (dq_Q ((and_iff_right hg29).trans Iff.rfl)), trivial⟩ rfl
   ·refine ent_guardXF rfl rfl rfl rfl (decide_eq_false hg29) ?_
    refine ent_guardXF rfl rfl rfl rfl (decide_eq_false hg29) ?_
    refine ent_guardXF rfl rfl rfl rfl (decide_eq_false hg29) ?_
    refine ent_o rfl (ok_pickF rfl (decide_eq_false hg29) rfl) ?_
    refine ent_nil ?_
    exact ent_rep ⟨rfl, rfl, rfl, rfl, rfl, rfl, slot_bool (dq_F rfl (fun h => hg29 h.1)), trivial⟩ rfl
  refine ent_k K8 ?_
  refine ent_cut (⟨[(1, aSl 1 false aInt m), (2, aEx (.pointer (some ⟨b2_1, 0, none⟩))), (5, aInt (liV c)), (6, aSl 1 false aInt (liW c)), (7, aInt (liE c)), (8, aInt (li0 c))], [oBox b2_1 27 [aInt c.F.P, aInt c.F.M, aSl 1 false aInt c.F.mod, aInt c.N, aSl 1 false aInts c.Gen]]⟩) ?_ ?_
  ·refine ent_condD rfl (fun h34 => ?_) (fun h34 => ?_)
   ·refine ent_region ?_
    refine emm rfl ?_
    refine ent_nil ?_
    exact ent_rep ⟨rfl, rfl, rfl, rfl, rfl, slot_av (av_int (show 11 = li0 c by first | exact li0_yes h34 | exact li0_no h34)), trivial⟩ rfl
   ·refine ent_skip ?_
    exact ent_rep ⟨rfl, rfl, rfl, rfl, rfl, slot_av (av_int (show codE c = li0 c by first | exact li0_yes h34 | exact li0_no h34)), trivial⟩ rfl
  refine ent_k K7 ?_
  refine esk rfl ?_
  refine ent_seq fun _ K10 => ?_
  refine ent_seq fun _ K11 => ?_
  refine ent_cv (A' := aSl 1 false aInts []) 9 rfl (cv_nil (fun _ => rfl) rfl) ?_
  refine ent_region ?_
  refine emm rfl ?_
  refine ent_o rfl (ok_eql rfl rfl) ?_
  refine enk K11 ?_
  refine ent_cut (⟨[(1, aSl 1 false aInt m), (2, aEx (.pointer (some ⟨b2_1, 0, none⟩))), (5, aInt (liV c)), (6, aSl 1 false aInt (liW c)), (7, aInt (liE c)), (8, aInt (liE c)), (9, aSl 1 false aInts (lwL c))], [oBox b2_1 27 [aInt c.F.P, aInt c.F.M, aSl 1 false aInt c.F.mod, aInt c.N, aSl 1 false aInts c.Gen]]⟩) ?_ ?_
  ·refine ent_condD rfl (fun h36 => ?_) (fun h36 => ?_)
   ·refine ent_region ?_
    refine ent_o rfl (ok_loadBS (k := 0) ti27 rfl rfl rfl) ?_
    refine ent_o rfl (ok_call (rWords_ok c) rfl) ?_
    refine emm rfl ?_
    refine ent_o rfl (ok_extract rfl rfl) ?_
    refine ent_o rfl (ok_extract rfl rfl) ?_
    refine emm rfl ?_
    refine ent_nil ?_
    exact ent_rep ⟨rfl, rfl, rfl, rfl, rfl, slot_av (av_int (show sizE c = liE c by first | exact li_yes h36 | exact li_no h36)), slot_av (av_sl (show wdsL c = lwL c by first | exact lw_yes h36 | exact lw_no h36)), trivial⟩ rfl
   ·refine ent_skip ?_
    exact ent_rep ⟨rfl, rfl, rfl, rfl, rfl, slot_av (av_int (show li0 c = liE c by first | exact li_yes h36 | exact li_no h36)), slot_av (av_sl (show [] = lwL c by first | exact lw_yes h36 | exact lw_no h36)), trivial⟩ rfl
  refine ent_k K10 ?_
  refine ent_seq fun _ K12 => ?_
  refine esr rfl fun _ K13 => ?_
  refine ent_o rfl (ok_neq rfl rfl) ?_
  refine enk K13 ?_
  refine ent_condD rfl (fun h43 => ?_) (fun h43 => ?_)
  ·refine ent_seq fun _ K14 => ?_
   refine ent_cut (⟨[(4, aBool (decide ((((liV c) = 0) ∧ ((↑(liW c).length : Int) = 0)) ∨ False)))], [oBox b2_1 27 [aInt c.F.P, aInt c.F.M, aSl 1 false aInt c.F.mod, aInt c.N, aSl 1 false aInts c.Gen]]⟩) ?_ ?_
   ·refine ent_region ?_
    refine emm rfl ?_
    refine ent_o rfl (ok_eql rfl rfl) ?_
    refine emm rfl ?_
    refine ent_guardXT rfl rfl rfl rfl (decide_eq_true rfl) ?_
    refine emm rfl ?_
    refine ent_guardXT rfl rfl rfl rfl (decide_eq_true rfl) ?_
    refine ent_o rfl (ok_eql rfl rfl) ?_
    refine ent_o rfl (ok_pickT rfl (decide_eq_true rfl) rfl) ?_
    refine emm rfl ?_
    refine ent_guardXDt rfl rfl rfl rfl (fun hg51 => ?_) (fun hg51 => ?_)
    ·refine emm rfl ?_
     refine ent_guardXT rfl rfl rfl rfl (decide_eq_true hg51) ?_
     refine ent_o rfl (ok_len rfl Try.runUnderlying22 rfl) ?_
     refine ent_guardXT rfl rfl rfl rfl (decide_eq_true hg51) ?_
     refine ent_o rfl (ok_eql rfl rfl) ?_
     refine ent_o rfl (ok_pickT rfl (decide_eq_true hg51) rfl) ?_
     refine emm rfl ?_
     refine ent_guardXDt rfl rfl rfl rfl (fun hg56 => ?_) (fun hg56 => ?_)
     ·refine ent_o rfl (ok_call alive_ok rfl) ?_
      refine ent_o rfl (ok_pickT rfl (decide_eq_true hg56) rfl) ?_
      refine emm rfl ?_
      refine ent_nil ?_
      exact ent_rep ⟨slot_bool (dq_T rfl (Or.inl ⟨hg51, hg56⟩)), trivial⟩ rfl
     ·refine ent_o rfl (ok_pickF rfl (decide_eq_false hg56) rfl) ?_
      refine emm rfl ?_
      refine ent_nil ?_
      exact ent_rep ⟨slot_bool (dq_F rfl (fun h => h.elim (fun h => hg56 h.2) id)), trivial⟩ rfl
    ·refine ent_guardXF rfl rfl rfl rfl (decide_eq_false hg51) ?_
     refine ent_guardXF rfl rfl rfl rfl (decide_eq_false hg51) ?_
     refine ent_o rfl (ok_pickF rfl (decide_eq_false hg51) rfl) ?_
     refine emm rfl ?_
     refine ent_guardXF rfl rfl rfl rfl rfl ?_
     refine ent_o rfl (ok_pickF rfl rfl rfl) ?_
     refine emm rfl ?_
     refine ent_nil ?_
     exact ent_rep ⟨slot_bool (dq_F rfl (fun h => h.elim (fun h => hg51 h.1) id)), trivial⟩ rfl
   refine ent_k K14 ?_
   refine ent_ret ?_
   exact retR1 (.inr rfl) Try.results5 (resr_tmp (res_cv rfl (cv_bool (by first | rfl | (simp [liV_no h43, liW_no h43]; done)))))
  ·have hl0 := Classical.not_not.1 h43
   have hf := li_facts hl0
   have hk := (sizE_zero.1 (li_zero hl0).1).1
   have hn1 := hk.n1
   have hn64 := hk.n64
   have hlw := lw_ok hl0
   refine esp K12 ?_
   refine esr rfl fun _ K15 => ?_
   refine ent_o rfl (ok_fieldAddrEx Try.runUnderlying27 rfl Try.sizeOf3 (by decide) rfl) ?_
   refine ent_o rfl (ok_loadB (k := 0) Try.isAgg3 rfl rfl rfl) ?_
   refine ent_make aInt 0 rfl vt22 rfl rfl (by omega) (by omega) (by omega) (fun _ _ => rfl) (AllV.mem ⟨rfl, trivial⟩) (fun b63_2 => ?_)
   refine ent_give 0 63 rfl (cv_vec (k := 0) (off_erase rfl) (by first | rfl | assumption | (simp; done) | (simp_all; done) | omega) rfl) ?_
   refine ent_o rfl (ok_call (rNearest_ok (lwL c) (List.replicate ((c.N).toNat) 0) true) rfl) ?_
   refine emm rfl ?_
   refine ent_o rfl (ok_extract rfl rfl) ?_
   refine ent_o rfl (ok_extract rfl rfl) ?_
   refine emm rfl ?_
   refine enk K15 ?_
   refine ent_seq fun _ K16 => ?_
   refine ent_seq fun _ K17 => ?_
   refine ent_cut (⟨[(1, aSl 1 false aInt m), (2, aEx (.pointer (some ⟨b2_1, 0, none⟩))), (5, aInt (liV c)), (79, aBool (decide ((((liE c) ≠ 0) ∨ ((liV c) ≠ (bstV (fun z => dst (ix [] (lwL c) z) (List.replicate ((c.N).toNat) 0)) (fun z => !true || decide (¬ dst (ix [] (lwL c) z) (List.replicate ((c.N).toNat) 0) = 0)) (-1) (lwL c).length))) ∨ (¬ ((liW c) = (bstW (ix [] (lwL c)) (fun z => dst (ix [] (lwL c) z) (List.replicate ((c.N).toNat) 0)) (fun z => !true || decide (¬ dst (ix [] (lwL c) z) (List.replicate ((c.N).toNat) 0) = 0)) (lwL c).length))))))], [oBox b2_1 27 [aInt c.F.P, aInt c.F.M, aSl 1 false aInt c.F.mod, aInt c.N, aSl 1 false aInts c.Gen]]⟩) ?_ ?_
   ·refine ent_region ?_
    refine emm rfl ?_
    refine ent_o rfl (ok_neq rfl rfl) ?_
    refine emm rfl ?_
    refine ent_guardXDf rfl rfl rfl rfl (fun hg69 => ?_) (fun hg69 => ?_)
    ·refine emm rfl ?_
     refine ent_guardXT rfl rfl rfl rfl (decide_eq_false hg69) ?_
     refine emm rfl ?_
     refine ent_guardXT rfl rfl rfl rfl (decide_eq_false hg69) ?_
     refine ent_o rfl (ok_neq rfl rfl) ?_
     refine ent_o rfl (ok_pickF rfl (decide_eq_false hg69) rfl) ?_
     refine emm rfl ?_
     refine ent_guardXDf rfl rfl rfl rfl (fun hg74 => ?_) (fun hg74 => ?_)
     ·refine emm rfl ?_
      refine ent_guardXT rfl rfl rfl rfl (decide_eq_false hg74) ?_
      refine emm rfl ?_
      refine ent_guardXT rfl rfl rfl rfl (decide_eq_false hg74) ?_
      refine ent_o rfl (ok_call (rSame_ok (liW c) (bstW (ix [] (lwL c)) (fun z => dst (ix [] (lwL c) z) (List.replicate ((c.N).toNat) 0)) (fun z => !true || decide (¬ dst (ix [] (lwL c) z) (List.replicate ((c.N).toNat) 0) = 0)) (lwL c).length)) rfl) ?_
      refine ent_guardXT rfl rfl rfl rfl (decide_eq_false hg74) ?_
      refine ent_o rfl (ok_notD rfl) ?_
      refine ent_o rfl (ok_pickF rfl (decide_eq_false hg74) rfl) ?_
      refine ent_nil ?_
      exact ent_rep ⟨rfl, rfl, rfl, slot_bool (dq_Q ((or_iff_right (fun h => h.elim hg69 hg74)).trans Iff.rfl)), trivial⟩ rfl
     ·refine ent_guardXF rfl rfl rfl rfl (decide_eq_true hg74) ?_
      refine ent_guardXF rfl rfl rfl rfl (decide_eq_true hg74) ?_
      refine ent_guardXF rfl rfl rfl rfl (decide_eq_true hg74) ?_
      refine ent_o rfl (ok_pickT rfl (decide_eq_true hg74) rfl) ?_
      refine ent_nil ?_
      exact ent_rep ⟨rfl, rfl, rfl, slot_bool (dq_T rfl (Or.inl (Or.inr hg74))), trivial⟩ rfl
    ·refine ent_guardXF rfl rfl rfl rfl (decide_eq_true hg69) ?_
     refine ent_guardXF rfl rfl rfl rfl (decide_eq_true hg69) ?_
     refine ent_o rfl (ok_pickT rfl (decide_eq_true hg69) rfl) ?_
     refine emm rfl ?_
     refine ent_guardXF rfl rfl rfl rfl rfl ?_
     refine ent_guardXF rfl rfl rfl rfl rfl ?_
     refine ent_guardXF rfl rfl rfl rfl rfl ?_
     refine ent_guardXF rfl rfl rfl rfl rfl ?_
     refine ent_o rfl (ok_pickT rfl rfl rfl) ?_
     refine ent_nil ?_
     exact ent_rep ⟨rfl, rfl, rfl, slot_bool (dq_T rfl (Or.inl (Or.inl hg69))), trivial⟩ rfl
   refine ent_k K17 ?_
   refine ent_condD rfl (fun h79 => ?_) (fun h79 => ?_)
   ·refine absurd h79 ?_; rw [hl0, hlw]; rintro ((h | h) | h); exact h rfl; exact h hf.1; exact (Bool.eq_false_iff.1 (by simpa using h)) (decide_eq_true hf.2.1)
   ·refine esp K16 ?_
    refine esr rfl fun _ K18 => ?_
    refine ent_o rfl (ok_loadBS (k := 0) ti27 rfl rfl rfl) ?_
    refine emm rfl ?_
    refine ent_o rfl (ok_call (rEncode_ok c m) rfl) ?_
    refine emm rfl ?_
    refine ent_o rfl (ok_extract rfl rfl) ?_
    refine ent_o rfl (ok_extract rfl rfl) ?_
    refine emm rfl ?_
    refine enk K18 ?_
    refine ent_seq fun _ K19 => ?_
    refine esr rfl fun _ K20 => ?_
    refine ent_o rfl (ok_eql rfl rfl) ?_
    refine enk K20 ?_
    refine ent_condD rfl (fun h87 => ?_) (fun h87 => ?_)
    ·refine esr rfl fun _ K21 => ?_
     refine ent_o rfl (ok_fieldAddrEx Try.runUnderlying27 rfl Try.sizeOf24 (by decide) rfl) ?_
     refine ent_o rfl (ok_loadBS (k := 0) ti24 rfl rfl rfl) ?_
     refine emm rfl ?_
     refine ent_o rfl (ok_call (rWeight_ok c.F (encC c m) (by have := (enc_ok h87).1; omega) (enc_ok h87).2) rfl) ?_
     refine emm rfl ?_
     refine enk K21 ?_
     refine ent_seq fun _ K22 => ?_
     refine ent_cut (⟨[(98, aBool (decide ((0 < (wt (encC c m))) ∧ ((wt (encC c m)) < (liV c)))))], [oBox b2_1 27 [aInt c.F.P, aInt c.F.M, aSl 1 false aInt c.F.mod, aInt c.N, aSl 1 false aInts c.Gen]]⟩) ?_ ?_
     ·refine ent_region ?_
      refine emm rfl ?_
      refine ent_o rfl (ok_gtr rfl rfl) ?_
      refine emm rfl ?_
      refine ent_guardXDt rfl rfl rfl rfl (fun hg94 => ?_) (fun hg94 => ?_)
      ·refine emm rfl ?_
       refine ent_guardXT rfl rfl rfl rfl (decide_eq_true hg94) ?_
       refine emm rfl ?_
       refine ent_guardXT rfl rfl rfl rfl (decide_eq_true hg94) ?_
       refine ent_o rfl (ok_lss rfl rfl) ?_
       refine ent_o rfl (ok_pickT rfl (decide_eq_true hg94) rfl) ?_
       refine ent_nil ?_
       exact ent_rep ⟨slot_bool (dq_Q ((and_iff_right hg94).trans Iff.rfl)), trivial⟩ rfl
      ·refine ent_guardXF rfl rfl rfl rfl (decide_eq_false hg94) ?_
       refine ent_guardXF rfl rfl rfl rfl (decide_eq_false hg94) ?_
       refine ent_o rfl (ok_pickF rfl (decide_eq_false hg94) rfl) ?_
       refine ent_nil ?_
       exact ent_rep ⟨slot_bool (dq_F rfl (fun h => hg94 h.1)), trivial⟩ rfl
     refine ent_k K22 ?_
     refine ent_condD rfl (fun h98 => ?_) (fun h98 => ?_)
     ·obtain ⟨v, v0, v1, ev⟩ := enc_wt (li_zero hl0).1 h87; rw [ev] at h98; have := hf.2.2 v v0 v1 h98.1; omega
     ·refine esp K19 ?_
      refine esr rfl fun _ K23 => ?_
      refine ent_o rfl (ok_call alive_ok rfl) ?_
      refine emm rfl ?_
      refine enk K23 ?_
      refine ent_ret ?_
      exact retR1 (.inr rfl) Try.results5 (resr_tmp (res_cv rfl (cv_bool (by first | rfl | (simp [liV_no h43, liW_no h43]; done)))))
    ·refine esp K19 ?_
     refine esr rfl fun _ K24 => ?_
     refine ent_o rfl (ok_call alive_ok rfl) ?_
     refine emm rfl ?_
     refine enk K24 ?_
     refine ent_ret ?_
     exact retR1 (.inr rfl) Try.results5 (resr_tmp (res_cv rfl (cv_bool (by first | rfl | (simp [liV_no h43, liW_no h43]; done)))))

theorem EnumerateNearest_walk (c : Cod) (y m : List Int)  : Ctr Try.prog 6 [aCod c, aSl 1 false aInt y, aSl 1 false aInt m] (aBool true) := by
 refine ctr_of Try.call6 Try.func6 rfl rfl ?_
 intro w O
 refine ent_lenC 0 2 rfl rfl (fun hlen0_2 => ?_)
 refine ent_lenC 0 4 rfl rfl (fun hlen0_4 => ?_)
 refine ent_len 1 rfl (fun hlen1 => ?_)
 refine ent_len 2 rfl (fun hlen2 => ?_)
 refine esr rfl fun _ K1 => ?_
 refine ent_boxS rfl rfl (AllOne.mem ⟨(one_int _), (one_int _), one_sl, (one_int _), one_sl, trivial⟩) (fun b3_1 => ?_)
 refine emm rfl ?_
 refine enk K1 ?_
 refine ent_seq fun _ K2 => ?_
 refine esr rfl fun _ K3 => ?_
 refine ent_o rfl (ok_loadBS (k := 0) ti27 rfl rfl rfl) ?_
 refine ent_o rfl (ok_call (small_ok c) rfl) ?_
 refine ent_o rfl (ok_notD rfl) ?_
 refine enk K3 ?_
 refine ent_condD rfl (fun h18 => ?_) (fun h18 => ?_)
 ·refine esr rfl fun _ K4 => ?_
  refine ent_o rfl (ok_call alive_ok rfl) ?_
  refine emm rfl ?_
  refine enk K4 ?_
  refine ent_ret ?_
  exact retR1 (.inr rfl) Try.results6 (resr_tmp (res_cv rfl (cv_bool (by first | rfl | (simp [neV_no h34, neW_no h34]; done)))))
 ·refine esp K2 ?_
  refine esr rfl fun _ K5 => ?_
  refine ent_o rfl (ok_loadBS (k := 0) ti27 rfl rfl rfl) ?_
  refine emm rfl ?_
  refine ent_o rfl (ok_call (eNearest_ok c y) rfl) ?_
  refine emm rfl ?_
  refine ent_o rfl (ok_extract rfl rfl) ?_
  refine ent_o rfl (ok_extract rfl rfl) ?_
  refine ent_o rfl (ok_extract rfl rfl) ?_
  refine emm rfl ?_
  refine enk K5 ?_
  refine esr rfl fun _ K6 => ?_
  refine ent_o rfl (ok_loadBS (k := 0) ti27 rfl rfl rfl) ?_
  refine emm rfl ?_
  refine ent_o rfl (ok_call (rNear_ok c y) rfl) ?_
  refine emm rfl ?_
  refine ent_o rfl (ok_extract rfl rfl) ?_
  refine ent_o rfl (ok_extract rfl rfl) ?_
  refine emm rfl ?_
  refine enk K6 ?_
  refine ent_seq fun _ K7 => ?_
  refine esr rfl fun _ K8 => ?_
  refine ent_o rfl (ok_neq rfl rfl) ?_
  refine enk K8 ?_
  refine ent_condD rfl (fun h34 => ?_) (fun h34 => ?_)
  ·refine ent_seq fun _ K9 => ?_
   refine ent_cut (⟨[(6, aBool (decide ((((neV c y) = 0) ∧ ((↑(neW c y).length : Int) = 0)) ∨ False)))], [oBox b3_1 27 [aInt c.F.P, aInt c.F.M, aSl 1 false aInt c.F.mod, aInt c.N, aSl 1 false aInts c.Gen]]⟩) ?_ ?_
   ·refine ent_region ?_
    refine emm rfl ?_
    refine ent_o rfl (ok_eql rfl rfl) ?_
    refine emm rfl ?_
    refine ent_guardXT rfl rfl rfl rfl (decide_eq_true rfl) ?_
    refine emm rfl ?_
    refine ent_guardXT rfl rfl rfl rfl (decide_eq_true rfl) ?_
    refine ent_o rfl (ok_eql rfl rfl) ?_
    refine ent_o rfl (ok_pickT rfl (decide_eq_true rfl) rfl) ?_
    refine emm rfl ?_
    refine ent_guardXDt rfl rfl rfl rfl (fun hg42 => ?_) (fun hg42 => ?_)
    ·refine emm rfl ?_
     refine ent_guardXT rfl rfl rfl rfl (decide_eq_true hg42) ?_
     refine ent_o rfl (ok_len rfl Try.runUnderlying22 rfl) ?_
     refine ent_guardXT rfl rfl rfl rfl (decide_eq_true hg42) ?_
     refine ent_o rfl (ok_eql rfl rfl) ?_
     refine ent_o rfl (ok_pickT rfl (decide_eq_true hg42) rfl) ?_
     refine emm rfl ?_
     refine ent_guardXDt rfl rfl rfl rfl (fun hg47 => ?_) (fun hg47 => ?_)
     ·refine ent_o rfl (ok_call alive_ok rfl) ?_
      refine ent_o rfl (ok_pickT rfl (decide_eq_true hg47) rfl) ?_
      refine emm rfl ?_
      refine ent_nil ?_
      exact ent_rep ⟨slot_bool (dq_T rfl (Or.inl ⟨hg42, hg47⟩)), trivial⟩ rfl
     ·refine ent_o rfl (ok_pickF rfl (decide_eq_false hg47) rfl) ?_
      refine emm rfl ?_
      refine ent_nil ?_
      exact ent_rep ⟨slot_bool (dq_F rfl (fun h => h.elim (fun h => hg47 h.2) id)), trivial⟩ rfl
    ·refine ent_guardXF rfl rfl rfl rfl (decide_eq_false hg42) ?_
     refine ent_guardXF rfl rfl rfl rfl (decide_eq_false hg42) ?_
     refine ent_o rfl (ok_pickF rfl (decide_eq_false hg42) rfl) ?_
     refine emm rfl ?_
     refine ent_guardXF rfl rfl rfl rfl rfl ?_
     refine ent_o rfl (ok_pickF rfl rfl rfl) ?_
     refine emm rfl ?_
     refine ent_nil ?_
     exact ent_rep ⟨slot_bool (dq_F rfl (fun h => h.elim (fun h => hg42 h.1) id)), trivial⟩ rfl
   refine ent_k K9 ?_
   refine ent_ret ?_
   exact retR1 (.inr rfl) Try.results6 (resr_tmp (res_cv rfl (cv_bool (by first | rfl | (simp [neV_no h34, neW_no h34]; done)))))
  ·have hl0 := Classical.not_not.1 h34
   have hf := ne_facts hl0
   refine esp K7 ?_
   refine esr rfl fun _ K10 => ?_
   refine ent_o rfl (ok_call (rNearest_ok (if neE c y = 0 then (wds c.F c.N c.Gen) else []) y false) rfl) ?_
   refine emm rfl ?_
   refine ent_o rfl (ok_extract rfl rfl) ?_
   refine ent_o rfl (ok_extract rfl rfl) ?_
   refine emm rfl ?_
   refine enk K10 ?_
   refine ent_seq fun _ K11 => ?_
   refine ent_seq fun _ K12 => ?_
   refine ent_cut (⟨[(1, aSl 1 false aInt y), (2, aSl 1 false aInt m), (3, aEx (.pointer (some ⟨b3_1, 0, none⟩))), (8, aInt (neV c y)), (68, aBool (decide ((((neE c y) ≠ 0) ∨ ((neV c y) ≠ (bstV (fun z => dst (ix [] (if neE c y = 0 then (wds c.F c.N c.Gen) else []) z) y) (fun z => !false || decide (¬ dst (ix [] (if neE c y = 0 then (wds c.F c.N c.Gen) else []) z) y = 0)) (-1) (if neE c y = 0 then (wds c.F c.N c.Gen) else []).length))) ∨ (¬ ((neW c y) = (bstW (ix [] (if neE c y = 0 then (wds c.F c.N c.Gen) else [])) (fun z => dst (ix [] (if neE c y = 0 then (wds c.F c.N c.Gen) else []) z) y) (fun z => !false || decide (¬ dst (ix [] (if neE c y = 0 then (wds c.F c.N c.Gen) else []) z) y = 0)) (if neE c y = 0 then (wds c.F c.N c.Gen) else []).length))))))], [oBox b3_1 27 [aInt c.F.P, aInt c.F.M, aSl 1 false aInt c.F.mod, aInt c.N, aSl 1 false aInts c.Gen]]⟩) ?_ ?_
   ·refine ent_region ?_
    refine emm rfl ?_
    refine ent_o rfl (ok_neq rfl rfl) ?_
    refine emm rfl ?_
    refine ent_guardXDf rfl rfl rfl rfl (fun hg58 => ?_) (fun hg58 => ?_)
    ·refine emm rfl ?_
     refine ent_guardXT rfl rfl rfl rfl (decide_eq_false hg58) ?_
     refine emm rfl ?_
     refine ent_guardXT rfl rfl rfl rfl (decide_eq_false hg58) ?_
     refine ent_o rfl (ok_neq rfl rfl) ?_
     refine ent_o rfl (ok_pickF rfl (decide_eq_false hg58) rfl) ?_
     refine emm rfl ?_
     refine ent_guardXDf rfl rfl rfl rfl (fun hg63 => ?_) (fun hg63 => ?_)
     ·refine emm rfl ?_
      refine ent_guardXT rfl rfl rfl rfl (decide_eq_false hg63) ?_
      refine emm rfl ?_
      refine ent_guardXT rfl rfl rfl rfl (decide_eq_false hg63) ?_
      refine ent_o rfl (ok_call (rSame_ok (neW c y) (bstW (ix [] (if neE c y = 0 then (wds c.F c.N c.Gen) else [])) (fun z => dst (ix [] (if neE c y = 0 then (wds c.F c.N c.Gen) else []) z) y) (fun z => !false || decide (¬ dst (ix [] (if neE c y = 0 then (wds c.F c.N c.Gen) else []) z) y = 0)) (if neE c y = 0 then (wds c.F c.N c.Gen) else []).length)) rfl) ?_
      refine ent_guardXT rfl rfl rfl rfl (decide_eq_false hg63) ?_
      refine ent_o rfl (ok_notD rfl) ?_
      refine ent_o rfl (ok_pickF rfl (decide_eq_false hg63) rfl) ?_
      refine ent_nil ?_
      exact ent_rep ⟨rfl, rfl, rfl, rfl, slot_bool (dq_Q ((or_iff_right (fun h => h.elim hg58 hg63)).trans Iff.rfl)), trivial⟩ rfl
     ·refine ent_guardXF rfl rfl rfl rfl (decide_eq_true hg63) ?_
      refine ent_guardXF rfl rfl rfl rfl (decide_eq_true hg63) ?_
      refine ent_guardXF rfl rfl rfl rfl (decide_eq_true hg63) ?_
      refine ent_o rfl (ok_pickT rfl (decide_eq_true hg63) rfl) ?_
      refine ent_nil ?_
      exact ent_rep ⟨rfl, rfl, rfl, rfl, slot_bool (dq_T rfl (Or.inl (Or.inr hg63))), trivial⟩ rfl
    ·refine ent_guardXF rfl rfl rfl rfl (decide_eq_true hg58) ?_
     refine ent_guardXF rfl rfl rfl rfl (decide_eq_true hg58) ?_
     refine ent_o rfl (ok_pickT rfl (decide_eq_true hg58) rfl) ?_
     refine emm rfl ?_
     refine ent_guardXF rfl rfl rfl rfl rfl ?_
     refine ent_guardXF rfl rfl rfl rfl rfl ?_
     refine ent_guardXF rfl rfl rfl rfl rfl ?_
     refine ent_guardXF rfl rfl rfl rfl rfl ?_
     refine ent_o rfl (ok_pickT rfl rfl rfl) ?_
     refine ent_nil ?_
     exact ent_rep ⟨rfl, rfl, rfl, rfl, slot_bool (dq_T rfl (Or.inl (Or.inl hg58))), trivial⟩ rfl
   refine ent_k K12 ?_
   refine ent_condD rfl (fun h68 => ?_) (fun h68 => ?_)
   ·refine absurd h68 ?_; rw [hl0, if_pos rfl]; rintro ((h | h) | h); exact h rfl; exact h hf.1; exact (Bool.eq_false_iff.1 (by simpa using h)) (decide_eq_true hf.2.1)
   ·refine esp K11 ?_
    refine esr rfl fun _ K13 => ?_
    refine ent_o rfl (ok_loadBS (k := 0) ti27 rfl rfl rfl) ?_
    refine emm rfl ?_
    refine ent_o rfl (ok_call (rEncode_ok c m) rfl) ?_
    refine emm rfl ?_
    refine ent_o rfl (ok_extract rfl rfl) ?_
    refine ent_o rfl (ok_extract rfl rfl) ?_
    refine emm rfl ?_
    refine enk K13 ?_
    refine ent_seq fun _ K14 => ?_
    refine ent_seq fun _ K15 => ?_
    refine ent_cut (⟨[(83, aBool (decide (((encE c m) = 0) ∧ ((dst (encC c m) y) < (neV c y)))))], [oBox b3_1 27 [aInt c.F.P, aInt c.F.M, aSl 1 false aInt c.F.mod, aInt c.N, aSl 1 false aInts c.Gen]]⟩) ?_ ?_
    ·refine ent_region ?_
     refine emm rfl ?_
     refine ent_o rfl (ok_eql rfl rfl) ?_
     refine emm rfl ?_
     refine ent_guardXDt rfl rfl rfl rfl (fun hg77 => ?_) (fun hg77 => ?_)
     ·refine emm rfl ?_
      refine ent_guardXT rfl rfl rfl rfl (decide_eq_true hg77) ?_
      refine emm rfl ?_
      refine ent_guardXT rfl rfl rfl rfl (decide_eq_true hg77) ?_
      refine ent_o rfl (ok_call (rDistance_ok (encC c m) y) rfl) ?_
      refine ent_guardXT rfl rfl rfl rfl (decide_eq_true hg77) ?_
      refine emm rfl ?_
      refine ent_guardXT rfl rfl rfl rfl (decide_eq_true hg77) ?_
      refine ent_o rfl (ok_lss rfl rfl) ?_
      refine ent_o rfl (ok_pickT rfl (decide_eq_true hg77) rfl) ?_
      refine ent_nil ?_
      exact ent_rep ⟨slot_bool (dq_Q ((and_iff_right hg77).trans Iff.rfl)), trivial⟩ rfl
     ·refine ent_guardXF rfl rfl rfl rfl (decide_eq_false hg77) ?_
      refine ent_guardXF rfl rfl rfl rfl (decide_eq_false hg77) ?_
      refine ent_guardXF rfl rfl rfl rfl (decide_eq_false hg77) ?_
      refine ent_guardXF rfl rfl rfl rfl (decide_eq_false hg77) ?_
      refine ent_o rfl (ok_pickF rfl (decide_eq_false hg77) rfl) ?_
      refine ent_nil ?_
      exact ent_rep ⟨slot_bool (dq_F rfl (fun h => hg77 h.1)), trivial⟩ rfl
    refine ent_k K15 ?_
    refine ent_condD rfl (fun h83 => ?_) (fun h83 => ?_)
    ·obtain ⟨v, v0, v1, ev⟩ := enc_wt hf.2.2.1 h83.1; have h2 := h83.2; rw [ev] at h2; have := hf.2.2.2 v v0 v1; omega
    ·refine esp K14 ?_
     refine esr rfl fun _ K16 => ?_
     refine ent_o rfl (ok_call alive_ok rfl) ?_
     refine emm rfl ?_
     refine enk K16 ?_
     refine ent_ret ?_
     exact retR1 (.inr rfl) Try.results6 (resr_tmp (res_cv rfl (cv_bool (by first | rfl | (simp [neV_no h34, neW_no h34]; done)))))

theorem EnumerateWithin_walk (c : Cod) (y : List Int) (t : Int)  : Ctr Try.prog 10 [aCod c, aSl 1 false aInt y, aInt t] (aBool true) := by
 refine ctr_of Try.call10 Try.func10 rfl rfl ?_
 intro w O
 refine ent_lenC 0 2 rfl rfl (fun hlen0_2 => ?_)
 refine ent_lenC 0 4 rfl rfl (fun hlen0_4 => ?_)
 refine ent_len 1 rfl (fun hlen1 => ?_)
 refine esr rfl fun _ K1 => ?_
 refine ent_boxS rfl rfl (AllOne.mem ⟨(one_int _), (one_int _), one_sl, (one_int _), one_sl, trivial⟩) (fun b3_1 => ?_)
 refine emm rfl ?_
 refine enk K1 ?_
 refine ent_seq fun _ K2 => ?_
 refine esr rfl fun _ K3 => ?_
 refine ent_o rfl (ok_loadBS (k := 0) ti27 rfl rfl rfl) ?_
 refine ent_o rfl (ok_call (small_ok c) rfl) ?_
 refine ent_o rfl (ok_notD rfl) ?_
 refine enk K3 ?_
 refine ent_condD rfl (fun h13 => ?_) (fun h13 => ?_)
 ·refine esr rfl fun _ K4 => ?_
  refine ent_o rfl (ok_call alive_ok rfl) ?_
  refine emm rfl ?_
  refine enk K4 ?_
  refine ent_ret ?_
  exact retR1 (.inr rfl) Try.results10 (resr_tmp (res_cv rfl (cv_bool (by first | rfl | simp))))
 ·refine esp K2 ?_
  refine esr rfl fun _ K5 => ?_
  refine ent_o rfl (ok_loadBS (k := 0) ti27 rfl rfl rfl) ?_
  refine emm rfl ?_
  refine ent_o rfl (ok_call (eWithin_ok c y t) rfl) ?_
  refine emm rfl ?_
  refine ent_o rfl (ok_extract rfl rfl) ?_
  refine ent_o rfl (ok_extract rfl rfl) ?_
  refine emm rfl ?_
  refine enk K5 ?_
  refine esr rfl fun _ K6 => ?_
  refine ent_o rfl (ok_loadBS (k := 0) ti27 rfl rfl rfl) ?_
  refine emm rfl ?_
  refine ent_o rfl (ok_call (rWithin_ok c y 0 t) rfl) ?_
  refine emm rfl ?_
  refine ent_o rfl (ok_extract rfl rfl) ?_
  refine ent_o rfl (ok_extract rfl rfl) ?_
  refine emm rfl ?_
  refine enk K6 ?_
  refine esr rfl fun _ K7 => ?_
  refine ent_o rfl (ok_eql rfl rfl) ?_
  refine emm rfl ?_
  refine ent_guardXT rfl rfl rfl rfl (decide_eq_true rfl) ?_
  refine emm rfl ?_
  refine ent_guardXT rfl rfl rfl rfl (decide_eq_true rfl) ?_
  refine emm rfl ?_
  refine ent_guardXT rfl rfl rfl rfl (decide_eq_true rfl) ?_
  refine ent_o rfl (ok_call (rSameLists_ok (wnL c y 0 t) (wnL c y 0 t)) rfl) ?_
  refine ent_o rfl (ok_pickT rfl (decide_eq_true rfl) rfl) ?_
  refine emm rfl ?_
  refine ent_guardXT rfl rfl rfl rfl (decide_eq_true rfl) ?_
  refine ent_o rfl (ok_call alive_ok rfl) ?_
  refine ent_o rfl (ok_pickT rfl (decide_eq_true rfl) rfl) ?_
  refine emm rfl ?_
  refine enk K7 ?_
  refine ent_ret ?_
  exact retR1 (.inr rfl) Try.results10 (resr_tmp (res_cv rfl (cv_bool (by first | rfl | simp))))
end Go.Proofs.Ytbofipdmoocflaa
