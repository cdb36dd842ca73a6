/-
  Walks of functions of the program and the reference.
-/
import Derived.Test.YtfjhbdfgbpcchaaCyLib
import Derived.Test.YtfjhbdfgbpcchaaPlainJ2
import Derived.Test.YtfjhbdfgbpcchaaV9
import Derived.Test.YtfjhbdfgbpcchaaV11
import Derived.Test.YtfjhbdfgbpcchaaV12
open Go Go.Cw
namespace Go.Proofs.Ytfjhbdfgbpcchaa
open Try
set_option maxRecDepth 100000
set_option linter.unusedVariables false
set_option linter.unusedSimpArgs false

theorem rCnvList_ok (c : Cnv) (l : List Int)  : Ctr Try.prog 24 [aCnv c, aSl 1 false aInt l] (aInt (c.inErr l)) := by
 refine ctr_of Try.call24 func24 rfl rfl ?_
 intro w O
 refine A_f 0 2 rfl rfl (fun hlen0_2 => ?_)
 refine A_f 0 3 rfl rfl (fun hlen0_3 => ?_)
 refine ent_len 1 rfl (fun hlen1 => ?_)
 refine esr rfl fun _ K1 => ?_
 refine A_o rfl rfl (AllOne.mem ⟨(A_M _), (A_M _), A_i, A_i, trivial⟩) (fun b2_1 => ?_)
 refine emm rfl ?_
 refine enk K1 ?_
 refine A_C fun _ K2 => ?_
 refine esr rfl fun _ K3 => ?_
 refine A_A rfl (A_l rfl runUnderlying22 rfl) ?_
 refine A_A rfl (A_B runUnderlying27 rfl sizeOf25 (by decide) rfl) ?_
 refine A_A rfl (A_L (k := 0) isAgg25 rfl rfl rfl) ?_
 refine A_A rfl (A_l rfl runUnderlying25 rfl) ?_
 refine A_A rfl (ok_neq rfl rfl) ?_
 refine enk K3 ?_
 refine A_F rfl (fun h10 => ?_) (fun h10 => ?_)
 ·refine esk rfl ?_
  refine A_S ?_
  exact retR1 (.inr rfl) results24 (A_N (A_W rfl (A_Z (by unfold Cnv.inErr Cnv.k; rw [if_pos h10]))))
 refine esp K2 ?_
 refine esr rfl fun _ K5 => ?_
 refine A_A rfl (A_B runUnderlying27 rfl sizeOf24 (by decide) rfl) ?_
 refine A_A rfl (A_V (k := 0) ti24 rfl rfl rfl) ?_
 refine emm rfl ?_
 refine A_A rfl (A_Y (rEntries_ok c.F l) rfl) ?_
 refine emm rfl ?_
 refine enk K5 ?_
 refine A_S ?_
 exact retR1 (.inr rfl) results24 (A_N (A_W rfl (A_Z (by unfold Cnv.inErr Cnv.k; rw [if_neg h10]))))

end Go.Proofs.Ytfjhbdfgbpcchaa

