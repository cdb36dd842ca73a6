/-
  Walks of functions of the program and the reference.
-/
import Derived.Test.YtfjhbdfgbpcchaaCyLib
import Derived.Test.YtfjhbdfgbpcchaaPlainJ2
import Derived.Test.YtfjhbdfgbpcchaaV9
import Derived.Test.YtfjhbdfgbpcchaaV11
import Derived.Test.YtfjhbdfgbpcchaaV12
open Go Go.Cw
namespace Go.Proofs.Ytfjhbdfgbpcchaa
open Try
set_option maxRecDepth 100000
set_option linter.unusedVariables false
set_option linter.unusedSimpArgs false
theorem coefficient_ok (p : List Int) (d : Int) (h0 : 0 <= d) : Ctr Try.prog 103 [aSl 1 false aInt p, aInt d] (aInt (ix 0 p d)) := by
 refine ctr_of Try.call103 func103 rfl rfl ?_
 intro w O
 refine ent_len 0 rfl (fun hlen0 => ?_)
 refine esk rfl ?_
 refine A_C fun _ K2 => ?_
 refine esr rfl fun _ K3 => ?_
 refine A_A rfl (A_l rfl runUnderlying22 rfl) ?_
 refine A_A rfl (A_p rfl rfl) ?_
 refine enk K3 ?_
 refine A_F rfl (fun h8 => ?_) (fun h8 => ?_)
 ·refine esr rfl fun _ K4 => ?_
  refine A_A rfl (A_X 0 sl22 rfl rfl (by omega) (by omega)) ?_
  refine A_A rfl (A_Q ti3 rfl) ?_
  refine emm rfl ?_
  refine enk K4 ?_
  refine A_S ?_
  exact retR1 (.inr rfl) results103 (A_N (A_W rfl (A_Z (by rfl))))
 refine esp K2 ?_
 refine esk rfl ?_
 refine A_S ?_
 exact retR1 (.inr rfl) results103 (A_N (A_W rfl (A_Z (by unfold ix; simp [List.getD]; rw [List.getElem?_eq_none (by omega)]; rfl))))

end Go.Proofs.Ytfjhbdfgbpcchaa

