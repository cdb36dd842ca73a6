/-
  Walks of functions of the program and the reference.
-/
import Derived.Test.YtbofipdmoocflaaProg
import Derived.Test.YtbofipdmoocflaaXTab
import Derived.Test.YtbofipdmoocflaaPlainJ1
import Derived.Test.YtbofipdmoocflaaCiLib
import Derived.Test.YtbofipdmoocflaaX4
import Derived.Test.YtbofipdmoocflaaX5
import Derived.Test.YtbofipdmoocflaaX6
import Derived.Test.YtbofipdmoocflaaX9
import Derived.Test.YtbofipdmoocflaaX1
import Derived.Test.YtbofipdmoocflaaX10
import Derived.Test.YtbofipdmoocflaaX11
import Derived.Test.YtbofipdmoocflaaX12
import Derived.Test.YtbofipdmoocflaaX13
import Derived.Test.YtbofipdmoocflaaX14
import Derived.Test.YtbofipdmoocflaaX15
import Derived.Test.YtbofipdmoocflaaX18
import Derived.Test.YtbofipdmoocflaaX19
import Derived.Test.YtbofipdmoocflaaX20
import Derived.Test.YtbofipdmoocflaaX30
import Derived.Test.YtbofipdmoocflaaX31
import Derived.Test.YtbofipdmoocflaaX32
import Derived.Test.YtbofipdmoocflaaX33
open Go Go.Cw
namespace Go.Proofs.Ytbofipdmoocflaa
set_option maxRecDepth 100000
set_option linter.unusedVariables false
set_option linter.unusedSimpArgs false
theorem awW : Ctr Try.prog 16 [aCod awC] (aTup [aSl 1 false aInt ([1, 1] : List Int), aInt 0]) := by
 have h := eWeights_ok awC
 rw [aw_cw, aw_cs] at h
 exact h
theorem alive_ok   : Ctr Try.prog 15 [] (aBool true) := by
 refine ctr_of Try.call15 Try.func15 rfl rfl ?_
 intro w O
 refine esk rfl ?_
 refine esr rfl fun _ K2 => ?_
 refine ent_o rfl (ok_build st24 (As := [aInt 0, aInt 0, aEx (.slice none 0 0)]) z24 (⟨0, 1, rfl, .inl ⟨rfl, _, rfl, (one_int _), rfl, ⟨1, 1, rfl, .inl ⟨rfl, _, rfl, (one_int _), rfl, rfl⟩⟩⟩⟩)) ?_
 refine ent_buildN aInt [1] rfl vt22 (by decide) (⟨0, 1, rfl, .inl ⟨rfl, _, rfl, (one_int _), rfl, rfl⟩⟩) rfl (fun b5_1 => ?_)
 refine ent_give 0 5 rfl (cv_vec (k := 0) (off_erase rfl) (by first | rfl | assumption | (simp; done) | (simp_all; done) | omega) rfl) ?_
 refine ent_buildN aInts [[1]] rfl vt25 (by decide) (⟨0, 1, rfl, .inl ⟨rfl, _, rfl, one_sl, rfl, rfl⟩⟩) rfl (fun b6_2 => ?_)
 refine ent_give 0 6 rfl (cv_vec (k := 0) (off_erase rfl) (by first | rfl | assumption | (simp; done) | (simp_all; done) | omega) rfl) ?_
 refine ent_o rfl (ok_build st27 (As := [aInt 0, aInt 0, aEx (.slice none 0 0), aInt 0, aEx (.slice none 0 0)]) z27 (⟨0, 3, rfl, .inr ⟨_, rfl, rfl, rfl, ⟨3, 1, rfl, .inl ⟨rfl, _, rfl, (one_int _), rfl, ⟨4, 1, rfl, .inl ⟨rfl, _, rfl, one_sl, rfl, rfl⟩⟩⟩⟩⟩⟩)) ?_
 refine ent_o rfl (ok_callA awW ⟨arg_a rfl (cv_agg ⟨cv_int (by first | rfl | assumption | omega | (simp_all; done) | grind), cv_int (by first | rfl | assumption | omega | (simp_all; done) | grind), cv_nil (fun _ => rfl) (by first | rfl | assumption | omega | (simp_all; done) | grind), cv_int (by first | rfl | assumption | omega | (simp_all; done) | grind), cv_sl sub_refl (by first | rfl | assumption | omega | (simp_all; done) | grind), trivial⟩), trivial⟩) ?_
 refine emm rfl ?_
 refine ent_o rfl (ok_extract rfl rfl) ?_
 refine ent_o rfl (ok_extract rfl rfl) ?_
 refine emm rfl ?_
 refine enk K2 ?_
 refine ent_seq fun _ K3 => ?_
 refine ent_cut (⟨[(0, aBool (decide ((((↑([1, 1] : List Int).length : Int) = 2) ∧ ((ix 0 ([1, 1] : List Int) 0) = 1)) ∧ ((ix 0 ([1, 1] : List Int) 1) = 1))))], []⟩) ?_ ?_
 ·refine ent_region ?_
  refine emm rfl ?_
  refine ent_o rfl (ok_eql rfl rfl) ?_
  refine emm rfl ?_
  refine ent_guardXT rfl rfl rfl rfl (by decide) ?_
  refine emm rfl ?_
  refine ent_guardXT rfl rfl rfl rfl (by decide) ?_
  refine ent_o rfl (ok_len rfl Try.runUnderlying22 rfl) ?_
  refine ent_guardXT rfl rfl rfl rfl (by decide) ?_
  refine ent_o rfl (ok_eql rfl rfl) ?_
  refine ent_o rfl (ok_pickT rfl (by decide) rfl) ?_
  refine emm rfl ?_
  refine ent_guardXDt rfl rfl rfl rfl (fun hg18 => ?_) (fun hg18 => ?_)
  ·refine emm rfl ?_
   refine ent_guardXT rfl rfl rfl rfl (decide_eq_true hg18) ?_
   refine ent_o rfl (ok_index 0 sl22 rfl rfl (by omega) (by omega)) ?_
   refine ent_guardXT rfl rfl rfl rfl (decide_eq_true hg18) ?_
   refine ent_o rfl (ok_load ti3 rfl) ?_
   refine ent_guardXT rfl rfl rfl rfl (decide_eq_true hg18) ?_
   refine ent_o rfl (ok_eql rfl rfl) ?_
   refine ent_o rfl (ok_pickT rfl (decide_eq_true hg18) rfl) ?_
   refine emm rfl ?_
   refine ent_guardXDt rfl rfl rfl rfl (fun hg24 => ?_) (fun hg24 => ?_)
   ·refine emm rfl ?_
    refine ent_guardXT rfl rfl rfl rfl (decide_eq_true hg24) ?_
    refine ent_o rfl (ok_index 0 sl22 rfl rfl (by omega) (by omega)) ?_
    refine ent_guardXT rfl rfl rfl rfl (decide_eq_true hg24) ?_
    refine ent_o rfl (ok_load ti3 rfl) ?_
    refine ent_guardXT rfl rfl rfl rfl (decide_eq_true hg24) ?_
    refine ent_o rfl (ok_eql rfl rfl) ?_
    refine ent_o rfl (ok_pickT rfl (decide_eq_true hg24) rfl) ?_
    refine emm rfl ?_
    refine ent_nil ?_
    exact ent_rep ⟨slot_bool (dq_Q ((and_iff_right ⟨hg18, hg24⟩).trans Iff.rfl)), trivial⟩ rfl
   ·refine ent_guardXF rfl rfl rfl rfl (decide_eq_false hg24) ?_
    refine ent_guardXF rfl rfl rfl rfl (decide_eq_false hg24) ?_
    refine ent_guardXF rfl rfl rfl rfl (decide_eq_false hg24) ?_
    refine ent_o rfl (ok_pickF rfl (decide_eq_false hg24) rfl) ?_
    refine emm rfl ?_
    refine ent_nil ?_
    exact ent_rep ⟨slot_bool (dq_F rfl (fun h => (fun h => hg24 h.2) h.1)), trivial⟩ rfl
  ·refine ent_guardXF rfl rfl rfl rfl (decide_eq_false hg18) ?_
   refine ent_guardXF rfl rfl rfl rfl (decide_eq_false hg18) ?_
   refine ent_guardXF rfl rfl rfl rfl (decide_eq_false hg18) ?_
   refine ent_o rfl (ok_pickF rfl (decide_eq_false hg18) rfl) ?_
   refine emm rfl ?_
   refine ent_guardXF rfl rfl rfl rfl rfl ?_
   refine ent_guardXF rfl rfl rfl rfl rfl ?_
   refine ent_guardXF rfl rfl rfl rfl rfl ?_
   refine ent_guardXF rfl rfl rfl rfl rfl ?_
   refine ent_o rfl (ok_pickF rfl rfl rfl) ?_
   refine emm rfl ?_
   refine ent_nil ?_
   exact ent_rep ⟨slot_bool (dq_F rfl (fun h => (fun h => hg18 h.1) h.1)), trivial⟩ rfl
 refine ent_k K3 ?_
 refine ent_ret ?_
 exact retR1 (.inr rfl) Try.results15 (resr_tmp (res_cv rfl (cv_bool (by rfl))))

theorem small_ok (c : Cod)  : Ctr Try.prog 14 [aCod c] (aBool (decide (sizE c ≠ 0 ∨ sizV c ≤ 4096))) := by
 refine ctr_of Try.call14 Try.func14 rfl rfl ?_
 intro w O
 refine ent_lenC 0 2 rfl rfl (fun hlen0_2 => ?_)
 refine ent_lenC 0 4 rfl rfl (fun hlen0_4 => ?_)
 refine esr rfl fun _ K1 => ?_
 refine ent_boxS rfl rfl (AllOne.mem ⟨(one_int _), (one_int _), one_sl, (one_int _), one_sl, trivial⟩) (fun b1_1 => ?_)
 refine emm rfl ?_
 refine enk K1 ?_
 refine esr rfl fun _ K2 => ?_
 refine ent_o rfl (ok_loadBS (k := 0) ti27 rfl rfl rfl) ?_
 refine ent_o rfl (ok_call (rSize_ok c) rfl) ?_
 refine emm rfl ?_
 refine ent_o rfl (ok_extract rfl rfl) ?_
 refine ent_o rfl (ok_extract rfl rfl) ?_
 refine emm rfl ?_
 refine enk K2 ?_
 refine ent_seq fun _ K3 => ?_
 refine ent_cut (⟨[(2, aBool (decide (((sizE c) ≠ 0) ∨ ((sizV c) ≤ 4096))))], [oBox b1_1 27 [aInt c.F.P, aInt c.F.M, aSl 1 false aInt c.F.mod, aInt c.N, aSl 1 false aInts c.Gen]]⟩) ?_ ?_
 ·refine ent_region ?_
  refine emm rfl ?_
  refine ent_o rfl (ok_neq rfl rfl) ?_
  refine emm rfl ?_
  refine ent_guardXDf rfl rfl rfl rfl (fun hg12 => ?_) (fun hg12 => ?_)
  ·refine emm rfl ?_
   refine ent_guardXT rfl rfl rfl rfl (decide_eq_false hg12) ?_
   refine ent_o rfl (ok_leq rfl rfl) ?_
   refine ent_o rfl (ok_pickF rfl (decide_eq_false hg12) rfl) ?_
   refine emm rfl ?_
   refine ent_nil ?_
   exact ent_rep ⟨slot_bool (dq_Q ((or_iff_right hg12).trans Iff.rfl)), trivial⟩ rfl
  ·refine ent_guardXF rfl rfl rfl rfl (decide_eq_true hg12) ?_
   refine ent_o rfl (ok_pickT rfl (decide_eq_true hg12) rfl) ?_
   refine emm rfl ?_
   refine ent_nil ?_
   exact ent_rep ⟨slot_bool (dq_T rfl (Or.inl hg12)), trivial⟩ rfl
 refine ent_k K3 ?_
 refine ent_ret ?_
 exact retR1 (.inr rfl) Try.results14 (resr_tmp (res_cv rfl (cv_bool (by rfl))))

end Go.Proofs.Ytbofipdmoocflaa

