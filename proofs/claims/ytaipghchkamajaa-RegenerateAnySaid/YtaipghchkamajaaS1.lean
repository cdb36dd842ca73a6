/-
  Walks of functions of the program and the reference.
-/
import Derived.Test.YtaipghchkamajaaCjLib
import Derived.Test.YtaipghchkamajaaR4
import Derived.Test.YtaipghchkamajaaR5
open Go Go.Cw
namespace Go.Proofs.Ytaipghchkamajaa
open Try
set_option maxRecDepth 100000
set_option linter.unusedVariables false
set_option linter.unusedSimpArgs false
theorem Sub_ok (f:Fld) (x y:Int) (hF:FOk f):Ctr Try.prog 111 [aGF f,aInt x,aInt y] (aInt (addF f x (negF f y))):=by
 refine ctr_of Try.call111 func111 rfl rfl ?_
 intro w O
 refine A_q 0 4 rfl rfl (fun hlen0_4=>?_)
 refine A_q 0 5 rfl rfl (fun hlen0_5=>?_)
 refine esk rfl ?_
 refine esr rfl fun _ K2=>?_
 refine A_A rfl (A_W (Neg_ok f y ‹_›) rfl) ?_
 refine A_A rfl (A_W (Add_ok f x (negF f y) ‹_›) rfl) ?_
 refine emm rfl ?_
 refine enk K2 ?_
 refine A_Q ?_
 exact retR1 (.inr rfl) results111 (A_L (A_S rfl (A_Z rfl)))

theorem Div_ok (f:Fld) (x y:Int) (hF:FOk f) (hy:inF f y≠0):Ctr Try.prog 112 [aGF f,aInt x,aInt y] (aTup [aInt (mulF f x (invF f y)),aInt 0]):=by
 refine ctr_of Try.call112 func112 rfl rfl ?_
 intro w O
 refine A_q 0 4 rfl rfl (fun hlen0_4=>?_)
 refine A_q 0 5 rfl rfl (fun hlen0_5=>?_)
 refine esk rfl ?_
 refine esr rfl fun _ K2=>?_
 refine A_A rfl (A_W (Inv_ok f y ‹_›) rfl) ?_
 refine emm rfl ?_
 refine A_A rfl (A_T rfl rfl) ?_
 refine A_A rfl (A_T rfl rfl) ?_
 refine emm rfl ?_
 refine enk K2 ?_
 refine A_C fun _ K3=>?_
 refine esr rfl fun _ K4=>?_
 refine A_A rfl (ok_neq rfl rfl) ?_
 refine enk K4 ?_
 refine A_G rfl (fun h17=>?_) (fun h17=>?_)
 ·exact absurd (if_neg hy) h17
 refine esp K3 ?_
 refine esr rfl fun _ K5=>?_
 refine A_A rfl (A_W (Mul_ok f x (invF f y) ‹_›) rfl) ?_
 refine emm rfl ?_
 refine enk K5 ?_
 refine A_Q ?_
 exact retR2 (.inr rfl) results112 (A_L (A_S rfl (A_Z rfl))) (A_L (A_S rfl (A_Z rfl)))
end Go.Proofs.Ytaipghchkamajaa

