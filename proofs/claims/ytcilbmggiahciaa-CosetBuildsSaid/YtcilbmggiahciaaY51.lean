/-
  Walks of functions of the program and the reference.
-/
import Derived.Test.YtcilbmggiahciaaY50
open Go Go.Cw
namespace Go.Proofs.Ytcilbmggiahciaa
open Try
set_option maxRecDepth 100000
set_option linter.unusedVariables false
set_option linter.unusedSimpArgs false
theorem Same_ok (la lb : List Lab)  : Ctr Try.prog 17 [aSl 3 true aLab la, aSl 3 true aLab lb] (aBool (decide (la = lb))) := by
 refine ctr_of Try.call17 func17 rfl rfl ?_
 intro w O
 refine ent_len 0 rfl (fun hlen0 => ?_)
 refine ent_len 1 rfl (fun hlen1 => ?_)
 refine esk rfl ?_
 refine ent_seq fun _ K2 => ?_
 refine esr rfl fun _ K3 => ?_
 refine ent_o rfl (ok_len rfl runUnderlying37 rfl) ?_
 refine emm rfl ?_
 refine ent_o rfl (ok_len rfl runUnderlying37 rfl) ?_
 refine ent_o rfl (ok_neq rfl rfl) ?_
 refine enk K3 ?_
 refine ent_condD rfl (fun h10 => ?_) (fun h10 => ?_)
 ·have hne : la ≠ lb := fun e => h10 (by rw [e])
  refine esk rfl ?_
  refine ent_ret ?_
  exact retR1 (.inr rfl) results17 (resr_tmp (res_cv rfl (cv_bool (by exact (decide_eq_false hne).symm))))
 refine esp K2 ?_
 refine ent_seq fun _ K5 => ?_
 refine esk rfl ?_
 refine ent_block ?_
 refine ent_loop (fun (i : Int) => (⟨[(0, aSl 3 true aLab la), (1, aSl 3 true aLab lb), (5, aInt i)], []⟩ : St)) (fun (i : Int) => (0 ≤ i) ∧ (i ≤ la.length) ∧ (∀ k : Int, 0 ≤ k → k < i → lbl la k = lbl lb k)) (fun (i : Int) => (la.length - i).toNat) 0 ⟨(by omega), (by omega), (fun k k0 k1 => by omega)⟩ (ent_rep ⟨rfl, rfl, slot_av (av_int (show 0 = (0 : Int) by rfl)), trivial⟩ rfl) ?_
 rintro i ⟨i0, i1, hs⟩
 show Ent _ ⟨_, []⟩ _
 refine ent_seq fun _ K7 => ?_
 refine esr rfl fun _ K8 => ?_
 refine ent_o rfl (ok_len rfl runUnderlying37 rfl) ?_
 refine ent_o rfl (ok_lss rfl rfl) ?_
 refine enk K8 ?_
 refine ent_condD rfl (fun h14 => ?_) (fun h14 => ?_)
 ·refine esp K7 ?_
  refine ent_seq fun _ K9 => ?_
  refine ent_block ?_
  refine ent_seq fun _ K10 => ?_
  refine ent_draw 9 mixed (by kernel_rfl) (by kernel_rfl) (by kernel_rfl) ?_
  refine dw_o rfl (ok_move rfl) ?_
  refine dw_o rfl (ok_move rfl) ?_
  refine dw_o rfl (ok_index (0, 0, 0) sl37 rfl rfl (by omega) (by omega)) ?_
  refine dw_o rfl (ok_load ti63 rfl) ?_
  refine dw_o rfl (ok_move rfl) ?_
  refine dw_o rfl (ok_move rfl) ?_
  refine dw_o rfl (ok_index (0, 0, 0) sl37 rfl rfl (by omega) (by omega)) ?_
  refine dw_o rfl (ok_load ti63 rfl) ?_
  refine dw_o rfl (ok_neqIs (ms := [(ix (0, 0, 0) la i).1, (ix (0, 0, 0) la i).2.1, (ix (0, 0, 0) la i).2.2]) (ns := [(ix (0, 0, 0) lb i).1, (ix (0, 0, 0) lb i).2.1, (ix (0, 0, 0) lb i).2.2]) is63 rfl rfl rfl rfl) ?_
  refine dw_nil ?_
  refine enk K10 ?_
  refine ent_condD rfl (fun h25 => ?_) (fun h25 => ?_)
  ·have hne : la ≠ lb := fun e => h25 (by rw [e])
   refine esk rfl ?_
   refine ent_ret ?_
   exact retR1 (.inr rfl) results17 (resr_tmp (res_cv rfl (cv_bool (by exact (decide_eq_false hne).symm))))
  have heq : lbl la i = lbl lb i := by have e := Classical.not_not.1 h25; injection e with e1 e; injection e with e2 e; injection e with e3; exact Prod.ext e1 (Prod.ext e2 e3)
  refine esp K9 ?_
  refine ent_region ?_
  refine emm rfl ?_
  refine ent_o rfl (ok_add rfl rfl (by omega) (by omega)) ?_
  refine emm rfl ?_
  refine ent_nil ?_
  refine ent_again (s := (i)) (i + 1) ⟨(by omega), (by omega), (fun k k0 k1 => by by_cases hz : k = i; (rw [hz]; exact heq); exact hs k k0 (by omega))⟩ (by omega) (ent_rep ⟨rfl, rfl, rfl, trivial⟩ rfl)
 have hall : la = lb := ext_ix (0, 0, 0) (by omega) (fun j j0 j1 => hs j j0 (by omega))
 refine ent_exit ?_
 refine ent_k K5 ?_
 refine esk rfl ?_
 refine ent_ret ?_
 exact retR1 (.inr rfl) results17 (resr_tmp (res_cv rfl (cv_bool (by exact (decide_eq_true hall).symm))))
end Go.Proofs.Ytcilbmggiahciaa

