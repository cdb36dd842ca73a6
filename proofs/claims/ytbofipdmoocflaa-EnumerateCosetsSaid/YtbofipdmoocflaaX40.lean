/-
  Facts for the law EnumerateCosets.
-/
import Derived.Test.YtbofipdmoocflaaProg
import Derived.Test.YtbofipdmoocflaaXTab
import Derived.Test.YtbofipdmoocflaaPlainJ2
import Derived.Test.YtbofipdmoocflaaCiLib
import Derived.Test.YtbofipdmoocflaaX4
import Derived.Test.YtbofipdmoocflaaX5
import Derived.Test.YtbofipdmoocflaaX6
import Derived.Test.YtbofipdmoocflaaX9
import Derived.Test.YtbofipdmoocflaaX1
import Derived.Test.YtbofipdmoocflaaX10
import Derived.Test.YtbofipdmoocflaaX11
import Derived.Test.YtbofipdmoocflaaX12
import Derived.Test.YtbofipdmoocflaaX13
import Derived.Test.YtbofipdmoocflaaX14
import Derived.Test.YtbofipdmoocflaaX15
import Derived.Test.YtbofipdmoocflaaX18
import Derived.Test.YtbofipdmoocflaaX19
import Derived.Test.YtbofipdmoocflaaX20
import Derived.Test.YtbofipdmoocflaaX30
import Derived.Test.YtbofipdmoocflaaX31
import Derived.Test.YtbofipdmoocflaaX32
import Derived.Test.YtbofipdmoocflaaX33
import Derived.Test.YtbofipdmoocflaaX34
import Derived.Test.YtbofipdmoocflaaX35
import Derived.Test.YtbofipdmoocflaaX36
import Derived.Test.YtbofipdmoocflaaX38
open Go Go.Cw
namespace Go.Proofs.Ytbofipdmoocflaa
set_option maxRecDepth 100000
set_option linter.unusedVariables false
set_option linter.unusedSimpArgs false
theorem EnumerateCosets_walk (c : Cod) (y m : List Int)  : Ctr Try.prog 9 [aCod c, aSl 1 false aInt y, aSl 1 false aInt m] (aBool true) := by
 refine ctr_of Try.call9 Try.func9 rfl rfl ?_
 intro w O
 refine ent_lenC 0 2 rfl rfl (fun hlen0_2 => ?_)
 refine ent_lenC 0 4 rfl rfl (fun hlen0_4 => ?_)
 refine ent_len 1 rfl (fun hlen1 => ?_)
 refine ent_len 2 rfl (fun hlen2 => ?_)
 refine esr rfl fun _ K1 => ?_
 refine ent_boxS rfl rfl (AllOne.mem ⟨(one_int _), (one_int _), one_sl, (one_int _), one_sl, trivial⟩) (fun b3_1 => ?_)
 refine emm rfl ?_
 refine enk K1 ?_
 refine ent_seq fun _ K2 => ?_
 refine esr rfl fun _ K3 => ?_
 refine ent_o rfl (ok_loadBS (k := 0) ti27 rfl rfl rfl) ?_
 refine ent_o rfl (ok_call (small_ok c) rfl) ?_
 refine ent_o rfl (ok_notD rfl) ?_
 refine enk K3 ?_
 refine ent_condD rfl (fun h19 => ?_) (fun h19 => ?_)
 ·refine esr rfl fun _ K4 => ?_
  refine ent_o rfl (ok_call alive_ok rfl) ?_
  refine emm rfl ?_
  refine enk K4 ?_
  refine ent_ret ?_
  exact retR1 (.inr rfl) Try.results9 (resr_tmp (res_cv rfl (cv_bool (by rfl))))
 ·refine esp K2 ?_
  refine esr rfl fun _ K5 => ?_
  refine ent_o rfl (ok_loadBS (k := 0) ti27 rfl rfl rfl) ?_
  refine emm rfl ?_
  refine ent_o rfl (ok_call (eCoset_ok c y) rfl) ?_
  refine emm rfl ?_
  refine ent_o rfl (ok_extract rfl rfl) ?_
  refine ent_o rfl (ok_extract rfl rfl) ?_
  refine emm rfl ?_
  refine enk K5 ?_
  refine esr rfl fun _ K6 => ?_
  refine ent_o rfl (ok_loadBS (k := 0) ti27 rfl rfl rfl) ?_
  refine emm rfl ?_
  refine ent_o rfl (ok_call (rCoset_ok c y) rfl) ?_
  refine emm rfl ?_
  refine ent_o rfl (ok_extract rfl rfl) ?_
  refine ent_o rfl (ok_extract rfl rfl) ?_
  refine emm rfl ?_
  refine enk K6 ?_
  refine ent_seq fun _ K7 => ?_
  refine esr rfl fun _ K8 => ?_
  refine ent_o rfl (ok_neq rfl rfl) ?_
  refine emm rfl ?_
  refine ent_guardXT rfl rfl rfl rfl (decide_eq_false (fun hq => hq rfl)) ?_
  refine emm rfl ?_
  refine ent_guardXT rfl rfl rfl rfl (decide_eq_false (fun hq => hq rfl)) ?_
  refine emm rfl ?_
  refine ent_guardXT rfl rfl rfl rfl (decide_eq_false (fun hq => hq rfl)) ?_
  refine ent_o rfl (ok_call (rSame_ok (coL c y) (coL c y)) rfl) ?_
  refine ent_guardXT rfl rfl rfl rfl (decide_eq_false (fun hq => hq rfl)) ?_
  refine ent_o rfl (ok_not rfl) ?_
  refine ent_o rfl (ok_pickF rfl (decide_eq_false (fun hq => hq rfl)) rfl) ?_
  refine enk K8 ?_
  refine ent_condFP rfl (by rw [show (decide ((coL c y) = (coL c y))) = true from (decide_eq_true rfl)]; rfl) ?_
  refine esp K7 ?_
  refine esr rfl fun _ K9 => ?_
  refine ent_o rfl (ok_loadBS (k := 0) ti27 rfl rfl rfl) ?_
  refine emm rfl ?_
  refine ent_o rfl (ok_call (rEncode_ok c m) rfl) ?_
  refine emm rfl ?_
  refine ent_o rfl (ok_extract rfl rfl) ?_
  refine ent_o rfl (ok_extract rfl rfl) ?_
  refine emm rfl ?_
  refine enk K9 ?_
  refine ent_seq fun _ K10 => ?_
  refine ent_seq fun _ K11 => ?_
  refine ent_cut (⟨[(1, aSl 1 false aInt y), (3, aEx (.pointer (some ⟨b3_1, 0, none⟩))), (7, aSl 1 false aInt (coL c y)), (11, aSl 1 false aInt (encC c m)), (53, aBool (decide (((neE c y) = 0) ∧ ((encE c m) = 0))))], [oBox b3_1 27 [aInt c.F.P, aInt c.F.M, aSl 1 false aInt c.F.mod, aInt c.N, aSl 1 false aInts c.Gen]]⟩) ?_ ?_
  ·refine ent_region ?_
   refine emm rfl ?_
   refine ent_o rfl (ok_eql rfl rfl) ?_
   refine emm rfl ?_
   refine ent_guardXDt rfl rfl rfl rfl (fun hg50 => ?_) (fun hg50 => ?_)
   ·refine emm rfl ?_
    refine ent_guardXT rfl rfl rfl rfl (decide_eq_true hg50) ?_
    refine ent_o rfl (ok_eql rfl rfl) ?_
    refine ent_o rfl (ok_pickT rfl (decide_eq_true hg50) rfl) ?_
    refine ent_nil ?_
    exact ent_rep ⟨rfl, rfl, rfl, rfl, slot_bool (dq_Q ((and_iff_right hg50).trans Iff.rfl)), trivial⟩ rfl
   ·refine ent_guardXF rfl rfl rfl rfl (decide_eq_false hg50) ?_
    refine ent_o rfl (ok_pickF rfl (decide_eq_false hg50) rfl) ?_
    refine ent_nil ?_
    exact ent_rep ⟨rfl, rfl, rfl, rfl, slot_bool (dq_F rfl (fun h => hg50 h.1)), trivial⟩ rfl
  refine ent_k K11 ?_
  refine ent_condD rfl (fun h53 => ?_) (fun h53 => ?_)
  ·have hca := co_add h53.1 h53.2
   have hk := (sizE_zero.1 (ne_zero.1 h53.1).2).1
   have hn64 := hk.n64
   have hyl := (wrdE_zero.1 (ne_zero.1 h53.1).1).2.1
   refine esr rfl fun _ K12 => ?_
   refine ent_o rfl (ok_fieldAddrEx Try.runUnderlying27 rfl Try.sizeOf24 (by decide) rfl) ?_
   refine ent_o rfl (ok_loadBS (k := 0) ti24 rfl rfl rfl) ?_
   refine emm rfl ?_
   refine ent_o rfl (ok_call (rVAdd_ok c.F y (encC c m) hk.fld.1 hca.2.2 (by omega)) rfl) ?_
   refine emm rfl ?_
   refine ent_o rfl (ok_extract rfl rfl) ?_
   refine ent_o rfl (ok_extract rfl rfl) ?_
   refine emm rfl ?_
   refine enk K12 ?_
   refine esr rfl fun _ K13 => ?_
   refine ent_o rfl (ok_loadBS (k := 0) ti27 rfl rfl rfl) ?_
   refine emm rfl ?_
   refine ent_o rfl (ok_call (eCoset_ok c (vadd c.F y (encC c m))) rfl) ?_
   refine emm rfl ?_
   refine ent_o rfl (ok_extract rfl rfl) ?_
   refine ent_o rfl (ok_extract rfl rfl) ?_
   refine emm rfl ?_
   refine enk K13 ?_
   refine ent_seq fun _ K14 => ?_
   refine ent_cut (⟨[(75, aBool (decide (((neE c (vadd c.F y (encC c m))) ≠ 0) ∨ (¬ ((coL c (vadd c.F y (encC c m))) = (coL c y))))))], [oBox b3_1 27 [aInt c.F.P, aInt c.F.M, aSl 1 false aInt c.F.mod, aInt c.N, aSl 1 false aInts c.Gen]]⟩) ?_ ?_
   ·refine ent_region ?_
    refine emm rfl ?_
    refine ent_o rfl (ok_neq rfl rfl) ?_
    refine emm rfl ?_
    refine ent_guardXDf rfl rfl rfl rfl (fun hg70 => ?_) (fun hg70 => ?_)
    ·refine emm rfl ?_
     refine ent_guardXT rfl rfl rfl rfl (decide_eq_false hg70) ?_
     refine emm rfl ?_
     refine ent_guardXT rfl rfl rfl rfl (decide_eq_false hg70) ?_
     refine ent_o rfl (ok_call (rSame_ok (coL c (vadd c.F y (encC c m))) (coL c y)) rfl) ?_
     refine ent_guardXT rfl rfl rfl rfl (decide_eq_false hg70) ?_
     refine ent_o rfl (ok_notD rfl) ?_
     refine ent_o rfl (ok_pickF rfl (decide_eq_false hg70) rfl) ?_
     refine ent_nil ?_
     exact ent_rep ⟨slot_bool (dq_Q ((or_iff_right hg70).trans Iff.rfl)), trivial⟩ rfl
    ·refine ent_guardXF rfl rfl rfl rfl (decide_eq_true hg70) ?_
     refine ent_guardXF rfl rfl rfl rfl (decide_eq_true hg70) ?_
     refine ent_guardXF rfl rfl rfl rfl (decide_eq_true hg70) ?_
     refine ent_o rfl (ok_pickT rfl (decide_eq_true hg70) rfl) ?_
     refine ent_nil ?_
     exact ent_rep ⟨slot_bool (dq_T rfl (Or.inl hg70)), trivial⟩ rfl
   refine ent_k K14 ?_
   refine ent_condD rfl (fun h75 => ?_) (fun h75 => ?_)
   ·refine absurd h75 ?_; rw [hca.1, hca.2.1]; simp
   ·refine esp K10 ?_
    refine esr rfl fun _ K15 => ?_
    refine ent_o rfl (ok_call alive_ok rfl) ?_
    refine emm rfl ?_
    refine enk K15 ?_
    refine ent_ret ?_
    exact retR1 (.inr rfl) Try.results9 (resr_tmp (res_cv rfl (cv_bool (by rfl))))
  ·refine esp K10 ?_
   refine esr rfl fun _ K16 => ?_
   refine ent_o rfl (ok_call alive_ok rfl) ?_
   refine emm rfl ?_
   refine enk K16 ?_
   refine ent_ret ?_
   exact retR1 (.inr rfl) Try.results9 (resr_tmp (res_cv rfl (cv_bool (by rfl))))
end Go.Proofs.Ytbofipdmoocflaa
