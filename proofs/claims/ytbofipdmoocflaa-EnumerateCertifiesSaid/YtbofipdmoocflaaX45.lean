/-
  Facts for the law EnumerateCertifies.
-/
import Derived.Test.YtbofipdmoocflaaProg
import Derived.Test.YtbofipdmoocflaaXTab
import Derived.Test.YtbofipdmoocflaaPlainJ2
import Derived.Test.YtbofipdmoocflaaCiLib
import Derived.Test.YtbofipdmoocflaaX4
import Derived.Test.YtbofipdmoocflaaX5
import Derived.Test.YtbofipdmoocflaaX6
import Derived.Test.YtbofipdmoocflaaX9
import Derived.Test.YtbofipdmoocflaaX1
import Derived.Test.YtbofipdmoocflaaX10
import Derived.Test.YtbofipdmoocflaaX11
import Derived.Test.YtbofipdmoocflaaX12
import Derived.Test.YtbofipdmoocflaaX13
import Derived.Test.YtbofipdmoocflaaX14
import Derived.Test.YtbofipdmoocflaaX15
import Derived.Test.YtbofipdmoocflaaX18
import Derived.Test.YtbofipdmoocflaaX19
import Derived.Test.YtbofipdmoocflaaX20
import Derived.Test.YtbofipdmoocflaaX30
import Derived.Test.YtbofipdmoocflaaX31
import Derived.Test.YtbofipdmoocflaaX32
import Derived.Test.YtbofipdmoocflaaX33
import Derived.Test.YtbofipdmoocflaaX34
import Derived.Test.YtbofipdmoocflaaX35
import Derived.Test.YtbofipdmoocflaaX36
import Derived.Test.YtbofipdmoocflaaX38
import Derived.Test.YtbofipdmoocflaaX39
import Derived.Test.YtbofipdmoocflaaX43
import Derived.Test.YtbofipdmoocflaaX44
open Go Go.Cw
namespace Go.Proofs.Ytbofipdmoocflaa
set_option maxRecDepth 100000
set_option linter.unusedVariables false
set_option linter.unusedSimpArgs false
theorem EnumerateChecks_walk (c : Cod) (t : Tly)  : Ctr Try.prog 12 [aCod c, aTly t] (aBool true) := by
 refine ctr_of Try.call12 Try.func12 rfl rfl ?_
 intro w O
 refine ent_lenC 0 2 rfl rfl (fun hlen0_2 => ?_)
 refine ent_lenC 0 4 rfl rfl (fun hlen0_4 => ?_)
 refine ent_lenC 1 1 rfl rfl (fun hlen1_1 => ?_)
 refine esr rfl fun _ K1 => ?_
 refine ent_boxS rfl rfl (AllOne.mem ⟨(one_int _), (one_int _), one_sl, (one_int _), one_sl, trivial⟩) (fun b2_1 => ?_)
 refine ent_boxS rfl rfl (AllOne.mem ⟨(one_bool _), one_sl, trivial⟩) (fun b3_2 => ?_)
 refine emm rfl ?_
 refine enk K1 ?_
 refine ent_seq fun _ K2 => ?_
 refine ent_seq fun _ K3 => ?_
 refine ent_cut (⟨[(2, aEx (.pointer (some ⟨b2_1, 0, none⟩))), (3, aEx (.pointer (some ⟨b3_2, 0, none⟩))), (15, aBool (decide (((codE c) = 0) ∧ (¬ (sizE (sidC c t.dual) ≠ 0 ∨ sizV (sidC c t.dual) ≤ 4096)))))], [oBox b3_2 68 [aBool t.dual, aSl 1 false aInt t.count], oBox b2_1 27 [aInt c.F.P, aInt c.F.M, aSl 1 false aInt c.F.mod, aInt c.N, aSl 1 false aInts c.Gen]]⟩) ?_ ?_
 ·refine ent_region ?_
  refine ent_o rfl (ok_loadBS (k := 1) ti27 rfl rfl rfl) ?_
  refine ent_o rfl (ok_call (rcCheck_ok c) rfl) ?_
  refine ent_o rfl (ok_eql rfl rfl) ?_
  refine emm rfl ?_
  refine ent_guardXDt rfl rfl rfl rfl (fun hg8 => ?_) (fun hg8 => ?_)
  ·refine ent_o rfl (ok_loadBS (k := 1) ti27 rfl rfl rfl) ?_
   refine ent_guardXT rfl rfl rfl rfl (decide_eq_true hg8) ?_
   refine ent_o rfl (ok_fieldAddrEx Try.runUnderlying68 rfl Try.sizeOf4 (by decide) rfl) ?_
   refine ent_guardXT rfl rfl rfl rfl (decide_eq_true hg8) ?_
   refine ent_o rfl (ok_loadB (k := 0) Try.isAgg4 rfl rfl rfl) ?_
   refine ent_guardXT rfl rfl rfl rfl (decide_eq_true hg8) ?_
   refine ent_o rfl (ok_call (rSide_ok c t.dual (codE_zero.1 hg8)) rfl) ?_
   refine ent_guardXT rfl rfl rfl rfl (decide_eq_true hg8) ?_
   refine ent_o rfl (ok_call (small_ok (sidC c t.dual)) rfl) ?_
   refine ent_guardXT rfl rfl rfl rfl (decide_eq_true hg8) ?_
   refine ent_o rfl (ok_notD rfl) ?_
   refine ent_o rfl (ok_pickT rfl (decide_eq_true hg8) rfl) ?_
   refine ent_nil ?_
   exact ent_rep ⟨rfl, rfl, slot_bool (dq_Q ((and_iff_right hg8).trans Iff.rfl)), trivial⟩ rfl
  ·refine ent_guardXF rfl rfl rfl rfl (decide_eq_false hg8) ?_
   refine ent_guardXF rfl rfl rfl rfl (decide_eq_false hg8) ?_
   refine ent_guardXF rfl rfl rfl rfl (decide_eq_false hg8) ?_
   refine ent_guardXF rfl rfl rfl rfl (decide_eq_false hg8) ?_
   refine ent_guardXF rfl rfl rfl rfl (decide_eq_false hg8) ?_
   refine ent_o rfl (ok_pickF rfl (decide_eq_false hg8) rfl) ?_
   refine ent_nil ?_
   exact ent_rep ⟨rfl, rfl, slot_bool (dq_F rfl (fun h => hg8 h.1)), trivial⟩ rfl
 refine ent_k K3 ?_
 refine ent_condD rfl (fun h15 => ?_) (fun h15 => ?_)
 ·refine esr rfl fun _ K4 => ?_
  refine ent_o rfl (ok_call alive_ok rfl) ?_
  refine emm rfl ?_
  refine enk K4 ?_
  refine ent_ret ?_
  exact retR1 (.inr rfl) Try.results12 (resr_tmp (res_cv rfl (cv_bool (by first | rfl | simp))))
 ·refine esp K2 ?_
  refine ent_seq fun _ K5 => ?_
  refine ent_draw 11 mixed (by kernel_rfl) (by kernel_rfl) (by kernel_rfl) ?_
  refine dw_o rfl (ok_loadBS (k := 1) ti27 rfl rfl rfl) ?_
  refine dw_o rfl (ok_loadBS (k := 0) ti68 rfl rfl rfl) ?_
  refine dw_o rfl (ok_call (eCheck_ok c t) rfl) ?_
  refine dw_o rfl (ok_loadBS (k := 1) ti27 rfl rfl rfl) ?_
  refine dw_o rfl (ok_loadBS (k := 0) ti68 rfl rfl rfl) ?_
  refine dw_o rfl (ok_call (rCheckT_ok c t) rfl) ?_
  refine dw_o rfl (ok_eql rfl rfl) ?_
  refine dw_o rfl (ok_move rfl) ?_
  refine dw_guardT rfl rfl rfl rfl (decide_eq_true rfl) ?_
  refine dw_o rfl (ok_call alive_ok rfl) ?_
  refine dw_o rfl (ok_pickT rfl (decide_eq_true rfl) rfl) ?_
  refine dw_o rfl (ok_assign rfl) ?_
  refine dw_nil ?_
  refine enk K5 ?_
  refine ent_ret ?_
  exact retR1 (.inr rfl) Try.results12 (resr_tmp (res_cv rfl (cv_bool (by first | rfl | simp))))

theorem EnumerateCertifies_walk (c : Cod)  : Ctr Try.prog 13 [aCod c] (aBool true) := by
 have hcc : cerE c ≠ 0 ∨ chkT c (cerT c) = 0 := Classical.or_iff_not_imp_left.2 fun h => cer_chk (Classical.not_not.1 h)
 refine ctr_of Try.call13 Try.func13 rfl rfl ?_
 intro w O
 refine ent_lenC 0 2 rfl rfl (fun hlen0_2 => ?_)
 refine ent_lenC 0 4 rfl rfl (fun hlen0_4 => ?_)
 refine esr rfl fun _ K1 => ?_
 refine ent_boxS rfl rfl (AllOne.mem ⟨(one_int _), (one_int _), one_sl, (one_int _), one_sl, trivial⟩) (fun b1_1 => ?_)
 refine emm rfl ?_
 refine enk K1 ?_
 refine ent_seq fun _ K2 => ?_
 refine ent_seq fun _ K3 => ?_
 refine ent_cut (⟨[(1, aEx (.pointer (some ⟨b1_1, 0, none⟩))), (20, aBool (decide (((codE c) = 0) ∧ ((¬ (sizE c ≠ 0 ∨ sizV c ≤ 4096)) ∨ (¬ (sizE (sidC c true) ≠ 0 ∨ sizV (sidC c true) ≤ 4096))))))], [oBox b1_1 27 [aInt c.F.P, aInt c.F.M, aSl 1 false aInt c.F.mod, aInt c.N, aSl 1 false aInts c.Gen]]⟩) ?_ ?_
 ·refine ent_region ?_
  refine ent_o rfl (ok_loadBS (k := 0) ti27 rfl rfl rfl) ?_
  refine ent_o rfl (ok_call (rcCheck_ok c) rfl) ?_
  refine ent_o rfl (ok_eql rfl rfl) ?_
  refine emm rfl ?_
  refine ent_guardXDt rfl rfl rfl rfl (fun hg10 => ?_) (fun hg10 => ?_)
  ·refine ent_o rfl (ok_loadBS (k := 0) ti27 rfl rfl rfl) ?_
   refine ent_guardXT rfl rfl rfl rfl (decide_eq_true hg10) ?_
   refine ent_o rfl (ok_call (small_ok c) rfl) ?_
   refine ent_guardXT rfl rfl rfl rfl (decide_eq_true hg10) ?_
   refine ent_o rfl (ok_notD rfl) ?_
   refine ent_guardXT rfl rfl rfl rfl (decide_eq_true hg10) ?_
   refine emm rfl ?_
   refine ent_guardXDf rfl rfl rfl rfl (fun hg14 => ?_) (fun hg14 => ?_)
   ·refine ent_o rfl (ok_loadBS (k := 0) ti27 rfl rfl rfl) ?_
    refine ent_guardXT rfl rfl rfl rfl (decide_eq_false hg14) ?_
    refine ent_o rfl (ok_call (rSide_ok c true (codE_zero.1 hg10)) rfl) ?_
    refine ent_guardXT rfl rfl rfl rfl (decide_eq_false hg14) ?_
    refine ent_o rfl (ok_call (small_ok (sidC c true)) rfl) ?_
    refine ent_guardXT rfl rfl rfl rfl (decide_eq_false hg14) ?_
    refine ent_o rfl (ok_notD rfl) ?_
    refine ent_guardXT rfl rfl rfl rfl (decide_eq_true hg10) ?_
    refine ent_o rfl (ok_pickF rfl (decide_eq_false hg14) rfl) ?_
    refine ent_o rfl (ok_pickT rfl (decide_eq_true hg10) rfl) ?_
    refine ent_nil ?_
    exact ent_rep ⟨rfl, slot_bool (dq_Q ((and_iff_right hg10).trans ((or_iff_right hg14).trans Iff.rfl))), trivial⟩ rfl
   ·refine ent_guardXF rfl rfl rfl rfl (decide_eq_true hg14) ?_
    refine ent_guardXF rfl rfl rfl rfl (decide_eq_true hg14) ?_
    refine ent_guardXF rfl rfl rfl rfl (decide_eq_true hg14) ?_
    refine ent_guardXT rfl rfl rfl rfl (decide_eq_true hg10) ?_
    refine ent_o rfl (ok_pickT rfl (decide_eq_true hg14) rfl) ?_
    refine ent_o rfl (ok_pickT rfl (decide_eq_true hg10) rfl) ?_
    refine ent_nil ?_
    exact ent_rep ⟨rfl, slot_bool (dq_T rfl ⟨hg10, (Or.inl hg14)⟩), trivial⟩ rfl
  ·refine ent_guardXF rfl rfl rfl rfl (decide_eq_false hg10) ?_
   refine ent_guardXF rfl rfl rfl rfl (decide_eq_false hg10) ?_
   refine ent_guardXF rfl rfl rfl rfl (decide_eq_false hg10) ?_
   refine ent_guardU rfl rfl rfl rfl ?_
   refine ent_guardU rfl rfl rfl rfl ?_
   refine ent_guardU rfl rfl rfl rfl ?_
   refine ent_guardU rfl rfl rfl rfl ?_
   refine ent_guardXF rfl rfl rfl rfl (decide_eq_false hg10) ?_
   refine ent_o rfl (ok_pickF rfl (decide_eq_false hg10) rfl) ?_
   refine ent_nil ?_
   exact ent_rep ⟨rfl, slot_bool (dq_F rfl (fun h => hg10 h.1)), trivial⟩ rfl
 refine ent_k K3 ?_
 refine ent_condD rfl (fun h20 => ?_) (fun h20 => ?_)
 ·refine esr rfl fun _ K4 => ?_
  refine ent_o rfl (ok_call alive_ok rfl) ?_
  refine emm rfl ?_
  refine enk K4 ?_
  refine ent_ret ?_
  exact retR1 (.inr rfl) Try.results13 (resr_tmp (res_cv rfl (cv_bool (by first | rfl | (simp; done) | exact decide_eq_true hcc | (simp; exact hcc) | (simpa using hcc)))))
 ·refine esp K2 ?_
  refine esr rfl fun _ K5 => ?_
  refine ent_o rfl (ok_loadBS (k := 0) ti27 rfl rfl rfl) ?_
  refine ent_o rfl (ok_call (eCertify_ok c) rfl) ?_
  refine emm rfl ?_
  refine ent_o rfl (ok_extract rfl rfl) ?_
  refine ent_o rfl (ok_extract rfl rfl) ?_
  refine ent_alloc (z := .agg #[.bool false, .slice none 0 0]) [aBool false, aEx (.slice none 0 0)] rfl zv68 rfl zc68 (fun b3_2 => ?_)
  refine ent_storeBS (k := 0) Try.sizeOf68 rfl rfl rfl (AllOne.mem ⟨(one_bool _), one_sl, trivial⟩) rfl rfl ?_
  show Ent _ ⟨_, [_, _]⟩ _
  refine emm rfl ?_
  refine enk K5 ?_
  refine esr rfl fun _ K6 => ?_
  refine ent_o rfl (ok_loadBS (k := 1) ti27 rfl rfl rfl) ?_
  refine ent_o rfl (ok_call (rCertify_ok c) rfl) ?_
  refine emm rfl ?_
  refine ent_o rfl (ok_extract rfl rfl) ?_
  refine ent_o rfl (ok_extract rfl rfl) ?_
  refine ent_alloc (z := .agg #[.bool false, .slice none 0 0]) [aBool false, aEx (.slice none 0 0)] rfl zv68 rfl zc68 (fun b5_3 => ?_)
  refine ent_storeBS (k := 0) Try.sizeOf68 rfl rfl rfl (AllOne.mem ⟨(one_bool _), one_sl, trivial⟩) rfl rfl ?_
  show Ent _ ⟨_, [_, _, _]⟩ _
  refine emm rfl ?_
  refine enk K6 ?_
  refine ent_seq fun _ K7 => ?_
  refine ent_seq fun _ K8 => ?_
  refine ent_cut (⟨[(1, aEx (.pointer (some ⟨b1_1, 0, none⟩))), (3, aEx (.pointer (some ⟨b3_2, 0, none⟩))), (6, aInt (cerE c)), (49, aBool (decide (((((cerT c).dual) != ((cerT c).dual)) = true) ∨ False)))], [oBox b5_3 68 [aBool ((cerT c).dual), aSl 1 false aInt ((cerT c).count)], oBox b3_2 68 [aBool ((cerT c).dual), aSl 1 false aInt ((cerT c).count)], oBox b1_1 27 [aInt c.F.P, aInt c.F.M, aSl 1 false aInt c.F.mod, aInt c.N, aSl 1 false aInts c.Gen]]⟩) ?_ ?_
  ·refine ent_region ?_
   refine emm rfl ?_
   refine ent_o rfl (ok_neq rfl rfl) ?_
   refine emm rfl ?_
   refine ent_guardXT rfl rfl rfl rfl (decide_eq_false (fun hq => hq rfl)) ?_
   refine ent_o rfl (ok_fieldAddrEx Try.runUnderlying68 rfl Try.sizeOf4 (by decide) rfl) ?_
   refine ent_guardXT rfl rfl rfl rfl (decide_eq_false (fun hq => hq rfl)) ?_
   refine ent_o rfl (ok_loadB (k := 1) Try.isAgg4 rfl rfl rfl) ?_
   refine ent_guardXT rfl rfl rfl rfl (decide_eq_false (fun hq => hq rfl)) ?_
   refine ent_o rfl (ok_fieldAddrEx Try.runUnderlying68 rfl Try.sizeOf4 (by decide) rfl) ?_
   refine ent_guardXT rfl rfl rfl rfl (decide_eq_false (fun hq => hq rfl)) ?_
   refine ent_o rfl (ok_loadB (k := 0) Try.isAgg4 rfl rfl rfl) ?_
   refine ent_guardXT rfl rfl rfl rfl (decide_eq_false (fun hq => hq rfl)) ?_
   refine ent_o rfl (ok_neqB Try.underlying4 rfl rfl) ?_
   refine ent_o rfl (ok_pickF rfl (decide_eq_false (fun hq => hq rfl)) rfl) ?_
   refine emm rfl ?_
   refine ent_guardX rfl rfl rfl rfl (fun hg42 => ?_) (fun hg42 => ?_)
   ·refine ent_o rfl (ok_fieldAddrEx Try.runUnderlying68 rfl Try.sizeOf22 (by decide) rfl) ?_
    refine ent_guardXT rfl rfl rfl rfl hg42 ?_
    refine ent_o rfl (ok_loadB (k := 1) Try.isAgg22 rfl rfl rfl) ?_
    refine ent_guardXT rfl rfl rfl rfl hg42 ?_
    refine ent_o rfl (ok_fieldAddrEx Try.runUnderlying68 rfl Try.sizeOf22 (by decide) rfl) ?_
    refine ent_guardXT rfl rfl rfl rfl hg42 ?_
    refine ent_o rfl (ok_loadB (k := 0) Try.isAgg22 rfl rfl rfl) ?_
    refine ent_guardXT rfl rfl rfl rfl hg42 ?_
    refine ent_o rfl (ok_call (rSame_ok ((cerT c).count) ((cerT c).count)) rfl) ?_
    refine ent_guardXT rfl rfl rfl rfl hg42 ?_
    refine ent_o rfl (ok_not rfl) ?_
    refine ent_o rfl (ok_pickF rfl hg42 rfl) ?_
    refine ent_nil ?_
    exact ent_rep ⟨rfl, rfl, rfl, slot_bool (dq_F (by rw [show (decide (((cerT c).count) = ((cerT c).count))) = true from (decide_eq_true rfl)]; rfl) (fun h => h.elim (nt_of hg42) id)), trivial⟩ rfl
   ·refine ent_guardXF rfl rfl rfl rfl hg42 ?_
    refine ent_guardXF rfl rfl rfl rfl hg42 ?_
    refine ent_guardXF rfl rfl rfl rfl hg42 ?_
    refine ent_guardXF rfl rfl rfl rfl hg42 ?_
    refine ent_guardXF rfl rfl rfl rfl hg42 ?_
    refine ent_o rfl (ok_pickT rfl hg42 rfl) ?_
    refine ent_nil ?_
    exact ent_rep ⟨rfl, rfl, rfl, slot_bool (dq_T rfl (Or.inl hg42)), trivial⟩ rfl
  refine ent_k K8 ?_
  refine ent_condD rfl (fun h49 => ?_) (fun h49 => ?_)
  ·exact absurd h49 (by simp)
  ·refine esp K7 ?_
   refine ent_seq fun _ K9 => ?_
   refine ent_cut (⟨[(2, aBool (decide ((((cerE c) ≠ 0) ∨ ((chkT c (cerT c)) = 0)) ∨ False)))], [oBox b5_3 68 [aBool ((cerT c).dual), aSl 1 false aInt ((cerT c).count)], oBox b3_2 68 [aBool ((cerT c).dual), aSl 1 false aInt ((cerT c).count)], oBox b1_1 27 [aInt c.F.P, aInt c.F.M, aSl 1 false aInt c.F.mod, aInt c.N, aSl 1 false aInts c.Gen]]⟩) ?_ ?_
   ·refine ent_region ?_
    refine emm rfl ?_
    refine ent_o rfl (ok_neq rfl rfl) ?_
    refine emm rfl ?_
    refine ent_guardXDf rfl rfl rfl rfl (fun hg52 => ?_) (fun hg52 => ?_)
    ·refine ent_o rfl (ok_loadBS (k := 2) ti27 rfl rfl rfl) ?_
     refine ent_guardXT rfl rfl rfl rfl (decide_eq_false hg52) ?_
     refine ent_o rfl (ok_loadBS (k := 1) ti68 rfl rfl rfl) ?_
     refine ent_guardXT rfl rfl rfl rfl (decide_eq_false hg52) ?_
     refine ent_o rfl (ok_call (eCheck_ok c (cerT c)) rfl) ?_
     refine ent_guardXT rfl rfl rfl rfl (decide_eq_false hg52) ?_
     refine ent_o rfl (ok_eql rfl rfl) ?_
     refine ent_o rfl (ok_pickF rfl (decide_eq_false hg52) rfl) ?_
     refine emm rfl ?_
     refine ent_guardXDt rfl rfl rfl rfl (fun hg58 => ?_) (fun hg58 => ?_)
     ·refine ent_o rfl (ok_call alive_ok rfl) ?_
      refine ent_o rfl (ok_pickT rfl (decide_eq_true hg58) rfl) ?_
      refine emm rfl ?_
      refine ent_nil ?_
      exact ent_rep ⟨slot_bool (dq_T rfl (Or.inl (Or.inr hg58))), trivial⟩ rfl
     ·refine ent_o rfl (ok_pickF rfl (decide_eq_false hg58) rfl) ?_
      refine emm rfl ?_
      refine ent_nil ?_
      exact ent_rep ⟨slot_bool (dq_F rfl (fun h => h.elim (fun h => h.elim hg52 hg58) id)), trivial⟩ rfl
    ·refine ent_guardXF rfl rfl rfl rfl (decide_eq_true hg52) ?_
     refine ent_guardXF rfl rfl rfl rfl (decide_eq_true hg52) ?_
     refine ent_guardXF rfl rfl rfl rfl (decide_eq_true hg52) ?_
     refine ent_o rfl (ok_pickT rfl (decide_eq_true hg52) rfl) ?_
     refine emm rfl ?_
     refine ent_guardXT rfl rfl rfl rfl rfl ?_
     refine ent_o rfl (ok_call alive_ok rfl) ?_
     refine ent_o rfl (ok_pickT rfl rfl rfl) ?_
     refine emm rfl ?_
     refine ent_nil ?_
     exact ent_rep ⟨slot_bool (dq_T rfl (Or.inl (Or.inl hg52))), trivial⟩ rfl
   refine ent_k K9 ?_
   refine ent_ret ?_
   exact retR1 (.inr rfl) Try.results13 (resr_tmp (res_cv rfl (cv_bool (by first | rfl | (simp; done) | exact decide_eq_true hcc | (simp; exact hcc) | (simpa using hcc)))))
end Go.Proofs.Ytbofipdmoocflaa
