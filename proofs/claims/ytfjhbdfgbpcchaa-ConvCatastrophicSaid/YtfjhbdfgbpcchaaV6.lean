/-
  Walks of functions of the program and the reference.
-/
import Derived.Test.YtfjhbdfgbpcchaaV5
open Go Go.Cw
namespace Go.Proofs.Ytfjhbdfgbpcchaa
open Try
set_option maxRecDepth 100000
set_option linter.unusedVariables false
set_option linter.unusedSimpArgs false
theorem Is_ok (f : Fld) (x : Int)  : Ctr Try.prog 96 [aGF f, aInt x] (aBool (decide (0 ≤ x ∧ x < f.q))) := by
 refine ctr_of Try.call96 func96 rfl rfl ?_
 intro w O
 refine ent_lenP 0 4 rfl rfl (fun hlen0_4 => ?_)
 refine ent_lenP 0 5 rfl rfl (fun hlen0_5 => ?_)
 refine esk rfl ?_
 refine ent_seq fun _ K2 => ?_
 refine ent_cut (⟨[(4, aBool (decide ((0 ≤ x) ∧ (x < f.q))))], []⟩) ?_ ?_
 ·refine ent_region ?_
  refine emm rfl ?_
  refine ent_o rfl (ok_geq rfl rfl) ?_
  refine emm rfl ?_
  refine ent_guardXDt rfl rfl rfl rfl (fun hg7 => ?_) (fun hg7 => ?_)
  ·refine emm rfl ?_
   refine ent_guardXT rfl rfl rfl rfl (decide_eq_true hg7) ?_
   refine emm rfl ?_
   refine ent_guardXT rfl rfl rfl rfl (decide_eq_true hg7) ?_
   refine ent_o rfl (ok_nilCheck rfl) ?_
   refine ent_guardXT rfl rfl rfl rfl (decide_eq_true hg7) ?_
   refine ent_o rfl (ok_fieldAddr1 runUnderlying143 rfl sizeOf3 rfl rfl) ?_
   refine ent_guardXT rfl rfl rfl rfl (decide_eq_true hg7) ?_
   refine ent_o rfl (ok_load ti3 rfl) ?_
   refine ent_guardXT rfl rfl rfl rfl (decide_eq_true hg7) ?_
   refine ent_o rfl (ok_lss rfl rfl) ?_
   refine ent_o rfl (ok_pickT rfl (decide_eq_true hg7) rfl) ?_
   refine emm rfl ?_
   refine ent_nil ?_
   exact ent_rep ⟨slot_bool (dq_Q ((and_iff_right hg7).trans Iff.rfl)), trivial⟩ rfl
  refine ent_guardXF rfl rfl rfl rfl (decide_eq_false hg7) ?_
  refine ent_guardXF rfl rfl rfl rfl (decide_eq_false hg7) ?_
  refine ent_guardXF rfl rfl rfl rfl (decide_eq_false hg7) ?_
  refine ent_guardXF rfl rfl rfl rfl (decide_eq_false hg7) ?_
  refine ent_guardXF rfl rfl rfl rfl (decide_eq_false hg7) ?_
  refine ent_o rfl (ok_pickF rfl (decide_eq_false hg7) rfl) ?_
  refine emm rfl ?_
  refine ent_nil ?_
  exact ent_rep ⟨slot_bool (dq_F rfl (fun h => hg7 h.1)), trivial⟩ rfl
 refine ent_k K2 ?_
 refine ent_ret ?_
 exact retR1 (.inr rfl) results96 (resr_tmp (res_cv rfl (cv_bool rfl)))

theorem in_ok (f : Fld) (x : Int)  : Ctr Try.prog 114 [aGF f, aInt x] (aInt (inF f x)) := by
 refine ctr_of Try.call114 func114 rfl rfl ?_
 intro w O
 refine ent_lenP 0 4 rfl rfl (fun hlen0_4 => ?_)
 refine ent_lenP 0 5 rfl rfl (fun hlen0_5 => ?_)
 refine esk rfl ?_
 refine ent_seq fun _ K2 => ?_
 refine esr rfl fun _ K3 => ?_
 refine ent_o rfl (ok_call (Is_ok f x) rfl) ?_
 refine enk K3 ?_
 refine ent_condD rfl (fun h7 => ?_) (fun h7 => ?_)
 ·refine esk rfl ?_
  refine ent_ret ?_
  exact retR1 (.inr rfl) results114 (resr_tmp (res_cv rfl (cv_int (by unfold inF; rw [if_pos h7]))))
 refine esp K2 ?_
 refine esk rfl ?_
 refine ent_ret ?_
 exact retR1 (.inr rfl) results114 (resr_tmp (res_cv rfl (cv_int (by unfold inF; rw [if_neg h7]))))
end Go.Proofs.Ytfjhbdfgbpcchaa

