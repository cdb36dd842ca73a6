/-
  Walks of functions of the program and the reference.
-/
import Derived.Test.YtfjhbdfgbpcchaaV5
open Go Go.Cw
namespace Go.Proofs.Ytfjhbdfgbpcchaa
open Try
set_option maxRecDepth 100000
set_option linter.unusedVariables false
set_option linter.unusedSimpArgs false
theorem Is_ok (f : Fld) (x : Int)  : Ctr Try.prog 96 [aGF f, aInt x] (aBool (decide (0 <= x /\ x < f.q))) := by
 refine ctr_of Try.call96 func96 rfl rfl ?_
 intro w O
 refine ent_lenP 0 4 rfl rfl (fun hlen0_4 => ?_)
 refine ent_lenP 0 5 rfl rfl (fun hlen0_5 => ?_)
 refine esk rfl ?_
 refine A_C fun _ K2 => ?_
 refine ent_cut (⟨[(4, aBool (decide ((0 <= x) /\ (x < f.q))))], []⟩) ?_ ?_
 ·refine A_E ?_
  refine emm rfl ?_
  refine A_A rfl (ok_geq rfl rfl) ?_
  refine emm rfl ?_
  refine ent_guardXDt rfl rfl rfl rfl (fun hg7 => ?_) (fun hg7 => ?_)
  ·refine emm rfl ?_
   refine A_I rfl rfl rfl rfl (decide_eq_true hg7) ?_
   refine emm rfl ?_
   refine A_I rfl rfl rfl rfl (decide_eq_true hg7) ?_
   refine A_A rfl (A_r rfl) ?_
   refine A_I rfl rfl rfl rfl (decide_eq_true hg7) ?_
   refine A_A rfl (A_k runUnderlying143 rfl sizeOf3 rfl rfl) ?_
   refine A_I rfl rfl rfl rfl (decide_eq_true hg7) ?_
   refine A_A rfl (A_Q ti3 rfl) ?_
   refine A_I rfl rfl rfl rfl (decide_eq_true hg7) ?_
   refine A_A rfl (A_p rfl rfl) ?_
   refine A_A rfl (A_h rfl (decide_eq_true hg7) rfl) ?_
   refine emm rfl ?_
   refine A_O ?_
   exact A_G ⟨A_U (dq_Q ((and_iff_right hg7).trans Iff.rfl)), trivial⟩ rfl
  refine A_D rfl rfl rfl rfl (decide_eq_false hg7) ?_
  refine A_D rfl rfl rfl rfl (decide_eq_false hg7) ?_
  refine A_D rfl rfl rfl rfl (decide_eq_false hg7) ?_
  refine A_D rfl rfl rfl rfl (decide_eq_false hg7) ?_
  refine A_D rfl rfl rfl rfl (decide_eq_false hg7) ?_
  refine A_A rfl (A_t rfl (decide_eq_false hg7) rfl) ?_
  refine emm rfl ?_
  refine A_O ?_
  exact A_G ⟨A_U (dq_F rfl (fun h => hg7 h.1)), trivial⟩ rfl
 refine A_s K2 ?_
 refine A_S ?_
 exact retR1 (.inr rfl) results96 (A_N (A_W rfl (cv_bool (by rfl))))

theorem in_ok (f : Fld) (x : Int)  : Ctr Try.prog 114 [aGF f, aInt x] (aInt (inF f x)) := by
 refine ctr_of Try.call114 func114 rfl rfl ?_
 intro w O
 refine ent_lenP 0 4 rfl rfl (fun hlen0_4 => ?_)
 refine ent_lenP 0 5 rfl rfl (fun hlen0_5 => ?_)
 refine esk rfl ?_
 refine A_C fun _ K2 => ?_
 refine esr rfl fun _ K3 => ?_
 refine A_A rfl (A_Y (Is_ok f x) rfl) ?_
 refine enk K3 ?_
 refine A_F rfl (fun h7 => ?_) (fun h7 => ?_)
 ·refine esk rfl ?_
  refine A_S ?_
  exact retR1 (.inr rfl) results114 (A_N (A_W rfl (A_Z (by unfold inF; rw [if_pos h7]))))
 refine esp K2 ?_
 refine esk rfl ?_
 refine A_S ?_
 exact retR1 (.inr rfl) results114 (A_N (A_W rfl (A_Z (by unfold inF; rw [if_neg h7]))))
end Go.Proofs.Ytfjhbdfgbpcchaa

