/-
  Walks of functions of the program and the reference.
-/
import Derived.Test.YtcilbmggiahciaaGreatZ5
open Go Go.Cw
namespace Go.Proofs.YtcilbmggiahciaaGreat
open Tryz
set_option maxRecDepth 100000
set_option linter.unusedVariables false
set_option linter.unusedSimpArgs false
theorem Is_ok (f:Fld) (x:Int)  : Ctr Tryz.prog 107 [aGF f,aInt x] (aBool (decide (0<=x/\x<f.q))):=by
 refine A_p Tryz.call107 func107 rfl rfl ?_
 intro w O
 refine ent_lenP 0 4 rfl rfl (fun hlen0_4=>?_)
 refine ent_lenP 0 5 rfl rfl (fun hlen0_5=>?_)
 refine esk rfl ?_
 refine A_C fun _ K2=>?_
 refine ent_cut (⟨[(4,aBool (decide ((0<=x)/\(x<f.q))))],[]⟩) ?_ ?_
 ·refine A_D ?_
  refine emm rfl ?_
  refine A_A rfl (ok_geq rfl rfl) ?_
  refine emm rfl ?_
  refine ent_guardXDt rfl rfl rfl rfl (fun hg7=>?_) (fun hg7=>?_)
  ·refine emm rfl ?_
   refine A_M rfl rfl rfl rfl (decide_eq_true hg7) ?_
   refine emm rfl ?_
   refine A_M rfl rfl rfl rfl (decide_eq_true hg7) ?_
   refine A_A rfl (A_q rfl) ?_
   refine A_M rfl rfl rfl rfl (decide_eq_true hg7) ?_
   refine A_A rfl (A_f runUnderlying116 rfl sizeOf3 rfl rfl) ?_
   refine A_M rfl rfl rfl rfl (decide_eq_true hg7) ?_
   refine A_A rfl (A_V ti3 rfl) ?_
   refine A_M rfl rfl rfl rfl (decide_eq_true hg7) ?_
   refine A_A rfl (A_o rfl rfl) ?_
   refine A_A rfl (A_l rfl (decide_eq_true hg7) rfl) ?_
   refine emm rfl ?_
   refine A_O ?_
   exact A_I ⟨A_Z (dq_Q ((and_iff_right hg7).trans Iff.rfl)),trivial⟩ rfl
  refine A_G rfl rfl rfl rfl (decide_eq_false hg7) ?_
  refine A_G rfl rfl rfl rfl (decide_eq_false hg7) ?_
  refine A_G rfl rfl rfl rfl (decide_eq_false hg7) ?_
  refine A_G rfl rfl rfl rfl (decide_eq_false hg7) ?_
  refine A_G rfl rfl rfl rfl (decide_eq_false hg7) ?_
  refine A_A rfl (A_r rfl (decide_eq_false hg7) rfl) ?_
  refine emm rfl ?_
  refine A_O ?_
  exact A_I ⟨A_Z (dq_F rfl (fun h=>hg7 h.1)),trivial⟩ rfl
 refine A_s K2 ?_
 refine A_R ?_
 exact retR1 (.inr rfl) results107 (A_H (A_T rfl (cv_bool rfl)))

theorem in_ok (f:Fld) (x:Int)  : Ctr Tryz.prog 86 [aGF f,aInt x] (aInt (inF f x)):=by
 refine A_p Tryz.call86 func86 rfl rfl ?_
 intro w O
 refine ent_lenP 0 4 rfl rfl (fun hlen0_4=>?_)
 refine ent_lenP 0 5 rfl rfl (fun hlen0_5=>?_)
 refine esk rfl ?_
 refine A_C fun _ K2=>?_
 refine esr rfl fun _ K3=>?_
 refine A_A rfl (A_S (Is_ok f x) rfl) ?_
 refine enk K3 ?_
 refine A_E rfl (fun h7=>?_) (fun h7=>?_)
 ·refine esk rfl ?_
  refine A_R ?_
  exact retR1 (.inr rfl) results86 (A_H (A_T rfl (A_a (by unfold inF;rw [if_pos h7]))))
 refine esp K2 ?_
 refine esk rfl ?_
 refine A_R ?_
 exact retR1 (.inr rfl) results86 (A_H (A_T rfl (A_a (by unfold inF;rw [if_neg h7]))))
end Go.Proofs.YtcilbmggiahciaaGreat

