/-
  Facts for the law EnumerateLinear.
-/
import Derived.Test.YtbofipdmoocflaaProg
import Derived.Test.YtbofipdmoocflaaXTab
import Derived.Test.YtbofipdmoocflaaPlainDs
import Derived.Test.YtbofipdmoocflaaCiLib
import Derived.Test.YtbofipdmoocflaaX4
import Derived.Test.YtbofipdmoocflaaX5
import Derived.Test.YtbofipdmoocflaaX6
import Derived.Test.YtbofipdmoocflaaX9
import Derived.Test.YtbofipdmoocflaaX1
import Derived.Test.YtbofipdmoocflaaX10
import Derived.Test.YtbofipdmoocflaaX11
import Derived.Test.YtbofipdmoocflaaX12
import Derived.Test.YtbofipdmoocflaaX13
import Derived.Test.YtbofipdmoocflaaX14
import Derived.Test.YtbofipdmoocflaaX15
import Derived.Test.YtbofipdmoocflaaX18
import Derived.Test.YtbofipdmoocflaaX19
import Derived.Test.YtbofipdmoocflaaX20
import Derived.Test.YtbofipdmoocflaaX30
import Derived.Test.YtbofipdmoocflaaX31
import Derived.Test.YtbofipdmoocflaaX32
import Derived.Test.YtbofipdmoocflaaX33
import Derived.Test.YtbofipdmoocflaaX34
import Derived.Test.YtbofipdmoocflaaX35
import Derived.Test.YtbofipdmoocflaaX36
import Derived.Test.YtbofipdmoocflaaX39
open Go Go.Cw
namespace Go.Proofs.Ytbofipdmoocflaa
set_option maxRecDepth 100000
set_option linter.unusedVariables false
set_option linter.unusedSimpArgs false
theorem rCount_ok (c : Cod) (m : Int)  : Ctr Try.prog 34 [aCod c, aInt m] (aInt (if sizE c ≠ 0 ∨ m < sizV c then 0 else sizV c)) := by
 refine ctr_of Try.call34 Try.func34 rfl rfl ?_
 intro w O
 refine ent_lenC 0 2 rfl rfl (fun hlen0_2 => ?_)
 refine ent_lenC 0 4 rfl rfl (fun hlen0_4 => ?_)
 refine esr rfl fun _ K1 => ?_
 refine ent_boxS rfl rfl (AllOne.mem ⟨(one_int _), (one_int _), one_sl, (one_int _), one_sl, trivial⟩) (fun b2_1 => ?_)
 refine emm rfl ?_
 refine enk K1 ?_
 refine esr rfl fun _ K2 => ?_
 refine ent_o rfl (ok_loadBS (k := 0) ti27 rfl rfl rfl) ?_
 refine ent_o rfl (ok_call (rSize_ok c) rfl) ?_
 refine emm rfl ?_
 refine ent_o rfl (ok_extract rfl rfl) ?_
 refine ent_o rfl (ok_extract rfl rfl) ?_
 refine emm rfl ?_
 refine enk K2 ?_
 refine ent_seq fun _ K3 => ?_
 refine ent_seq fun _ K4 => ?_
 refine ent_cut (⟨[(5, aInt (sizV c)), (18, aBool (decide (((sizE c) ≠ 0) ∨ (m < (sizV c)))))], [oBox b2_1 27 [aInt c.F.P, aInt c.F.M, aSl 1 false aInt c.F.mod, aInt c.N, aSl 1 false aInts c.Gen]]⟩) ?_ ?_
 ·refine ent_region ?_
  refine emm rfl ?_
  refine ent_o rfl (ok_neq rfl rfl) ?_
  refine emm rfl ?_
  refine ent_guardXDf rfl rfl rfl rfl (fun hg14 => ?_) (fun hg14 => ?_)
  ·refine emm rfl ?_
   refine ent_guardXT rfl rfl rfl rfl (decide_eq_false hg14) ?_
   refine emm rfl ?_
   refine ent_guardXT rfl rfl rfl rfl (decide_eq_false hg14) ?_
   refine ent_o rfl (ok_gtr rfl rfl) ?_
   refine ent_o rfl (ok_pickF rfl (decide_eq_false hg14) rfl) ?_
   refine ent_nil ?_
   exact ent_rep ⟨rfl, slot_bool (dq_Q ((or_iff_right hg14).trans Iff.rfl)), trivial⟩ rfl
  ·refine ent_guardXF rfl rfl rfl rfl (decide_eq_true hg14) ?_
   refine ent_guardXF rfl rfl rfl rfl (decide_eq_true hg14) ?_
   refine ent_o rfl (ok_pickT rfl (decide_eq_true hg14) rfl) ?_
   refine ent_nil ?_
   exact ent_rep ⟨rfl, slot_bool (dq_T rfl (Or.inl hg14)), trivial⟩ rfl
 refine ent_k K4 ?_
 refine ent_condD rfl (fun h18 => ?_) (fun h18 => ?_)
 ·refine esk rfl ?_
  refine ent_ret ?_
  exact retR1 (.inr rfl) Try.results34 (resr_tmp (res_cv rfl (cv_int (by exact (if_pos (by assumption)).symm))))
 ·refine esp K3 ?_
  refine esk rfl ?_
  refine ent_ret ?_
  exact retR1 (.inr rfl) Try.results34 (resr_tmp (res_cv rfl (cv_int (by exact (if_neg (by assumption)).symm))))

theorem EnumerateLinear_walk (c : Cod)  : Ctr Try.prog 8 [aCod c] (aBool true) := by
 refine ctr_of Try.call8 Try.func8 rfl rfl ?_
 intro w O
 refine ent_lenC 0 2 rfl rfl (fun hlen0_2 => ?_)
 refine ent_lenC 0 4 rfl rfl (fun hlen0_4 => ?_)
 refine esr rfl fun _ K1 => ?_
 refine ent_boxS rfl rfl (AllOne.mem ⟨(one_int _), (one_int _), one_sl, (one_int _), one_sl, trivial⟩) (fun b1_1 => ?_)
 refine emm rfl ?_
 refine enk K1 ?_
 refine ent_seq fun _ K2 => ?_
 refine esr rfl fun _ K3 => ?_
 refine ent_o rfl (ok_call alive_ok rfl) ?_
 refine ent_o rfl (ok_not rfl) ?_
 refine enk K3 ?_
 refine ent_condF rfl ?_
 refine esp K2 ?_
 refine ent_seq fun _ K4 => ?_
 refine esr rfl fun _ K5 => ?_
 refine ent_o rfl (ok_loadBS (k := 0) ti27 rfl rfl rfl) ?_
 refine ent_o rfl (ok_call (rCount_ok c 256) rfl) ?_
 refine ent_o rfl (ok_eql rfl rfl) ?_
 refine enk K5 ?_
 refine ent_condD rfl (fun h14 => ?_) (fun h14 => ?_)
 ·refine esk rfl ?_
  refine ent_ret ?_
  exact retR1 (.inr rfl) Try.results8 (resr_tmp (res_cv rfl (cv_bool (by rfl))))
 ·have hcc : ¬ (sizE c ≠ 0 ∨ 256 < sizV c) := fun h => h14 (if_pos h)
  have hs : sizE c = 0 := Classical.not_not.1 fun h => hcc (.inl h)
  have hv : sizV c ≤ 256 := by have h2 : ¬ 256 < sizV c := fun h => hcc (.inr h); omega
  have hwz := wdsL_ok hs
  have hf := linear_facts hs hv
  rw [← hwz] at hf
  have hwf := wts_facts hs
  have hwl := hwf.1
  have hk := (sizE_zero.1 hs).1
  have hn1 := hk.n1
  have hn64 := hk.n64
  have hcn := hk.cn
  have hsv := sizV_ok hs
  have lwn : (wdsL c).length = c.n := by rw [hwz]; exact wds_len c
  have ldi : ((diL c.F c.N (wdsL c)).length : Int) = c.N + 1 := by rw [diL_ok hf.1, length_disR]; omega
  refine esp K4 ?_
  refine esr rfl fun _ K7 => ?_
  refine ent_o rfl (ok_loadBS (k := 0) ti27 rfl rfl rfl) ?_
  refine ent_o rfl (ok_call (rWords_ok c) rfl) ?_
  refine emm rfl ?_
  refine ent_o rfl (ok_extract rfl rfl) ?_
  refine ent_o rfl (ok_extract rfl rfl) ?_
  refine emm rfl ?_
  refine enk K7 ?_
  refine esr rfl fun _ K8 => ?_
  refine ent_o rfl (ok_fieldAddrEx Try.runUnderlying27 rfl Try.sizeOf24 (by decide) rfl) ?_
  refine ent_o rfl (ok_loadBS (k := 0) ti24 rfl rfl rfl) ?_
  refine ent_o rfl (ok_fieldAddrEx Try.runUnderlying27 rfl Try.sizeOf3 (by decide) rfl) ?_
  refine ent_o rfl (ok_loadB (k := 0) Try.isAgg3 rfl rfl rfl) ?_
  refine emm rfl ?_
  refine ent_o rfl (ok_call (eDistances_ok c.F c.N (wdsL c)) rfl) ?_
  refine emm rfl ?_
  refine ent_o rfl (ok_extract rfl rfl) ?_
  refine ent_o rfl (ok_extract rfl rfl) ?_
  refine emm rfl ?_
  refine enk K8 ?_
  refine esr rfl fun _ K9 => ?_
  refine ent_o rfl (ok_loadBS (k := 0) ti27 rfl rfl rfl) ?_
  refine ent_o rfl (ok_call (eWeights_ok c) rfl) ?_
  refine emm rfl ?_
  refine ent_o rfl (ok_extract rfl rfl) ?_
  refine ent_o rfl (ok_extract rfl rfl) ?_
  refine emm rfl ?_
  refine enk K9 ?_
  refine ent_seq fun _ K10 => ?_
  refine ent_seq fun _ K11 => ?_
  refine ent_cut (⟨[(1, aEx (.pointer (some ⟨b1_1, 0, none⟩))), (3, aSl 1 false aInts (wdsL c)), (5, aSl 1 false aInt (diL c.F c.N (wdsL c))), (7, aSl 1 false aInt (wtsL c)), (55, aBool (decide (((((diE c.F c.N (wdsL c)) ≠ 0) ∨ ((sizE c) ≠ 0)) ∨ ((↑(diL c.F c.N (wdsL c)).length : Int) ≠ (c.N + 1))) ∨ ((↑(wtsL c).length : Int) ≠ (c.N + 1)))))], [oBox b1_1 27 [aInt c.F.P, aInt c.F.M, aSl 1 false aInt c.F.mod, aInt c.N, aSl 1 false aInts c.Gen]]⟩) ?_ ?_
  ·refine ent_region ?_
   refine emm rfl ?_
   refine ent_o rfl (ok_neq rfl rfl) ?_
   refine emm rfl ?_
   refine ent_guardXDf rfl rfl rfl rfl (fun hg36 => ?_) (fun hg36 => ?_)
   ·refine emm rfl ?_
    refine ent_guardXT rfl rfl rfl rfl (decide_eq_false hg36) ?_
    refine ent_o rfl (ok_neq rfl rfl) ?_
    refine ent_o rfl (ok_pickF rfl (decide_eq_false hg36) rfl) ?_
    refine emm rfl ?_
    refine ent_guardXDf rfl rfl rfl rfl (fun hg40 => ?_) (fun hg40 => ?_)
    ·refine emm rfl ?_
     refine ent_guardXT rfl rfl rfl rfl (decide_eq_false hg40) ?_
     refine ent_o rfl (ok_len rfl Try.runUnderlying22 rfl) ?_
     refine ent_guardXT rfl rfl rfl rfl (decide_eq_false hg40) ?_
     refine ent_o rfl (ok_fieldAddrEx Try.runUnderlying27 rfl Try.sizeOf3 (by decide) rfl) ?_
     refine ent_guardXT rfl rfl rfl rfl (decide_eq_false hg40) ?_
     refine ent_o rfl (ok_loadB (k := 0) Try.isAgg3 rfl rfl rfl) ?_
     refine ent_guardXT rfl rfl rfl rfl (decide_eq_false hg40) ?_
     refine ent_o rfl (ok_add rfl rfl (by omega) (by omega)) ?_
     refine ent_guardXT rfl rfl rfl rfl (decide_eq_false hg40) ?_
     refine ent_o rfl (ok_neq rfl rfl) ?_
     refine ent_o rfl (ok_pickF rfl (decide_eq_false hg40) rfl) ?_
     refine emm rfl ?_
     refine ent_guardXDf rfl rfl rfl rfl (fun hg48 => ?_) (fun hg48 => ?_)
     ·refine emm rfl ?_
      refine ent_guardXT rfl rfl rfl rfl (decide_eq_false hg48) ?_
      refine ent_o rfl (ok_len rfl Try.runUnderlying22 rfl) ?_
      refine ent_guardXT rfl rfl rfl rfl (decide_eq_false hg48) ?_
      refine ent_o rfl (ok_fieldAddrEx Try.runUnderlying27 rfl Try.sizeOf3 (by decide) rfl) ?_
      refine ent_guardXT rfl rfl rfl rfl (decide_eq_false hg48) ?_
      refine ent_o rfl (ok_loadB (k := 0) Try.isAgg3 rfl rfl rfl) ?_
      refine ent_guardXT rfl rfl rfl rfl (decide_eq_false hg48) ?_
      refine ent_o rfl (ok_add rfl rfl (by omega) (by omega)) ?_
      refine ent_guardXT rfl rfl rfl rfl (decide_eq_false hg48) ?_
      refine ent_o rfl (ok_neq rfl rfl) ?_
      refine ent_o rfl (ok_pickF rfl (decide_eq_false hg48) rfl) ?_
      refine ent_nil ?_
      exact ent_rep ⟨rfl, rfl, rfl, rfl, slot_bool (dq_Q ((or_iff_right (fun h => h.elim (fun h => h.elim hg36 hg40) hg48)).trans Iff.rfl)), trivial⟩ rfl
     ·refine ent_guardXF rfl rfl rfl rfl (decide_eq_true hg48) ?_
      refine ent_guardXF rfl rfl rfl rfl (decide_eq_true hg48) ?_
      refine ent_guardXF rfl rfl rfl rfl (decide_eq_true hg48) ?_
      refine ent_guardXF rfl rfl rfl rfl (decide_eq_true hg48) ?_
      refine ent_guardXF rfl rfl rfl rfl (decide_eq_true hg48) ?_
      refine ent_o rfl (ok_pickT rfl (decide_eq_true hg48) rfl) ?_
      refine ent_nil ?_
      exact ent_rep ⟨rfl, rfl, rfl, rfl, slot_bool (dq_T rfl (Or.inl (Or.inr hg48))), trivial⟩ rfl
    ·refine ent_guardXF rfl rfl rfl rfl (decide_eq_true hg40) ?_
     refine ent_guardXF rfl rfl rfl rfl (decide_eq_true hg40) ?_
     refine ent_guardXF rfl rfl rfl rfl (decide_eq_true hg40) ?_
     refine ent_guardXF rfl rfl rfl rfl (decide_eq_true hg40) ?_
     refine ent_guardXF rfl rfl rfl rfl (decide_eq_true hg40) ?_
     refine ent_o rfl (ok_pickT rfl (decide_eq_true hg40) rfl) ?_
     refine emm rfl ?_
     refine ent_guardXF rfl rfl rfl rfl rfl ?_
     refine ent_guardXF rfl rfl rfl rfl rfl ?_
     refine ent_guardXF rfl rfl rfl rfl rfl ?_
     refine ent_guardXF rfl rfl rfl rfl rfl ?_
     refine ent_guardXF rfl rfl rfl rfl rfl ?_
     refine ent_guardXF rfl rfl rfl rfl rfl ?_
     refine ent_o rfl (ok_pickT rfl rfl rfl) ?_
     refine ent_nil ?_
     exact ent_rep ⟨rfl, rfl, rfl, rfl, slot_bool (dq_T rfl (Or.inl (Or.inl (Or.inr hg40)))), trivial⟩ rfl
   ·refine ent_guardXF rfl rfl rfl rfl (decide_eq_true hg36) ?_
    refine ent_o rfl (ok_pickT rfl (decide_eq_true hg36) rfl) ?_
    refine emm rfl ?_
    refine ent_guardXF rfl rfl rfl rfl rfl ?_
    refine ent_guardXF rfl rfl rfl rfl rfl ?_
    refine ent_guardXF rfl rfl rfl rfl rfl ?_
    refine ent_guardXF rfl rfl rfl rfl rfl ?_
    refine ent_guardXF rfl rfl rfl rfl rfl ?_
    refine ent_guardXF rfl rfl rfl rfl rfl ?_
    refine ent_o rfl (ok_pickT rfl rfl rfl) ?_
    refine emm rfl ?_
    refine ent_guardXF rfl rfl rfl rfl rfl ?_
    refine ent_guardXF rfl rfl rfl rfl rfl ?_
    refine ent_guardXF rfl rfl rfl rfl rfl ?_
    refine ent_guardXF rfl rfl rfl rfl rfl ?_
    refine ent_guardXF rfl rfl rfl rfl rfl ?_
    refine ent_guardXF rfl rfl rfl rfl rfl ?_
    refine ent_o rfl (ok_pickT rfl rfl rfl) ?_
    refine ent_nil ?_
    exact ent_rep ⟨rfl, rfl, rfl, rfl, slot_bool (dq_T rfl (Or.inl (Or.inl (Or.inl hg36)))), trivial⟩ rfl
  refine ent_k K11 ?_
  refine ent_condD rfl (fun h55 => ?_) (fun h55 => ?_)
  ·refine absurd h55 ?_; rw [hf.1, hs, ldi, hwl]; simp
  ·refine esp K10 ?_
   refine ent_seq fun _ K12 => ?_
   refine esk rfl ?_
   refine ent_block ?_
   refine ent_loop (fun (i : Int) => (⟨[(1, aEx (.pointer (some ⟨b1_1, 0, none⟩))), (3, aSl 1 false aInts (wdsL c)), (5, aSl 1 false aInt (diL c.F c.N (wdsL c))), (7, aSl 1 false aInt (wtsL c)), (9, aInt i)], [oBox b1_1 27 [aInt c.F.P, aInt c.F.M, aSl 1 false aInt c.F.mod, aInt c.N, aSl 1 false aInts c.Gen]]⟩ : St)) (fun (i : Int) => (0 ≤ i) ∧ (i ≤ c.N + 1)) (fun (i : Int) => (c.N + 1 - i).toNat) 0 ⟨(by first | rfl | assumption | omega | (simp_all; done) | grind), (by omega)⟩ (ent_rep ⟨rfl, rfl, rfl, rfl, slot_av (av_int (show 0 = (0 : Int) by first | rfl | assumption | omega | (simp_all; done) | grind)), trivial⟩ rfl) ?_
   rintro i ⟨h0, h1⟩
   show Ent _ ⟨_, [_]⟩ _
   refine ent_seq fun _ K14 => ?_
   refine esr rfl fun _ K15 => ?_
   refine ent_o rfl (ok_fieldAddrEx Try.runUnderlying27 rfl Try.sizeOf3 (by decide) rfl) ?_
   refine ent_o rfl (ok_loadB (k := 0) Try.isAgg3 rfl rfl rfl) ?_
   refine ent_o rfl (ok_leq rfl rfl) ?_
   refine enk K15 ?_
   refine ent_condD rfl (fun h59 => ?_) (fun h59 => ?_)
   ·have hfi := hf.2 i h0 (by omega)
    have hbi := hwf.2.2.2 i h0 (by omega)
    have hmb : 0 ≤ ((wdsL c).length : Int) * ix 0 (wtsL c) i ∧ ((wdsL c).length : Int) * ix 0 (wtsL c) i ≤ 256 * 65536 := ⟨Int.mul_nonneg (by omega) hbi.1, Int.mul_le_mul (by omega) hbi.2 hbi.1 (by decide)⟩
    refine esp K14 ?_
    refine ent_seq fun _ K16 => ?_
    refine ent_block ?_
    refine ent_seq fun _ K17 => ?_
    refine ent_draw 12 mixed (by kernel_rfl) (by kernel_rfl) (by kernel_rfl) ?_
    refine dw_o rfl (ok_move rfl) ?_
    refine dw_o rfl (ok_move rfl) ?_
    refine dw_o rfl (ok_index 0 sl22 rfl rfl (by omega) (by omega)) ?_
    refine dw_o rfl (ok_load ti3 rfl) ?_
    refine dw_o rfl (ok_move rfl) ?_
    refine dw_o rfl (ok_len rfl Try.runUnderlying25 rfl) ?_
    refine dw_o rfl (ok_move rfl) ?_
    refine dw_o rfl (ok_move rfl) ?_
    refine dw_o rfl (ok_index 0 sl22 rfl rfl (by omega) (by omega)) ?_
    refine dw_o rfl (ok_load ti3 rfl) ?_
    refine dw_o rfl (ok_mul rfl rfl (by omega) (by omega)) ?_
    refine dw_o rfl (ok_neq rfl rfl) ?_
    refine dw_nil ?_
    refine enk K17 ?_
    refine ent_condD rfl (fun h73 => ?_) (fun h73 => ?_)
    ·exact absurd hfi h73
    ·refine esp K16 ?_
     refine ent_region ?_
     refine emm rfl ?_
     refine ent_o rfl (ok_add rfl rfl (by omega) (by omega)) ?_
     refine emm rfl ?_
     refine ent_nil ?_
     refine ent_again (s := (i)) (i + 1) ⟨(by first | rfl | assumption | omega | (simp_all; done) | grind), (by first | rfl | assumption | omega | (simp_all; done) | grind)⟩ (by first | omega | (dsimp only; omega)) (ent_rep ⟨rfl, rfl, rfl, rfl, rfl, trivial⟩ rfl)
   ·refine ent_exit ?_
    refine ent_k K12 ?_
    refine esk rfl ?_
    refine ent_ret ?_
    exact retR1 (.inr rfl) Try.results8 (resr_tmp (res_cv rfl (cv_bool (by rfl))))
end Go.Proofs.Ytbofipdmoocflaa
