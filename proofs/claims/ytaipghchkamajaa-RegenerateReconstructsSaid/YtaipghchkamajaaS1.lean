/-
  Walks.
-/
import Derived.Test.YtaipghchkamajaaCjLib
import Derived.Test.YtaipghchkamajaaR4
import Derived.Test.YtaipghchkamajaaR5
open Go Go.Cw
namespace Go.Proofs.Ytaipghchkamajaa
open Try
set_option maxRecDepth 100000
set_option linter.unusedVariables false
set_option linter.unusedSimpArgs false
theorem Sub_ok (f:Fld) (x y:Int) (hF:FOk f):Ctr Try.prog 111 [aGF f,aInt x,aInt y] (aInt (addF f x (negF f y))):=by
 refine B_E Try.call111 func111 rfl rfl ?_
 intro w O
 refine A_0 0 4 rfl rfl fun hlen0_4=>A_0 0 5 rfl rfl fun hlen0_5=>esk rfl <|esr rfl fun _ K2=>A_A rfl (A_X (Neg_ok f y ‹_›) rfl) <|A_A rfl (A_X (Add_ok f x (negF f y) ‹_›) rfl) <|emm rfl <|enk K2 <|A_R ?_
 exact retR1 (.inr rfl) results111 (A_L (A_U rfl (A_b rfl)))

theorem Div_ok (f:Fld) (x y:Int) (hF:FOk f) (hy:inF f y≠0):Ctr Try.prog 112 [aGF f,aInt x,aInt y] (aTup [aInt (mulF f x (invF f y)),aInt 0]):=by
 refine B_E Try.call112 func112 rfl rfl ?_
 intro w O
 refine A_0 0 4 rfl rfl fun hlen0_4=>A_0 0 5 rfl rfl fun hlen0_5=>esk rfl <|esr rfl fun _ K2=>A_A rfl (A_X (Inv_ok f y ‹_›) rfl) <|emm rfl <|A_A rfl (A_V rfl rfl) <|A_A rfl (A_V rfl rfl) <|emm rfl <|enk K2 <|A_C fun _ K3=>esr rfl fun _ K4=>A_A rfl (B_B rfl rfl) <|enk K4 ?_
 refine A_H rfl (fun h17=>?_) (fun h17=>?_)
 ·exact absurd (i_N hy) h17
 refine esp K3 <|esr rfl fun _ K5=>A_A rfl (A_X (Mul_ok f x (invF f y) ‹_›) rfl) <|emm rfl <|enk K5 <|A_R ?_
 exact retR2 (.inr rfl) results112 (A_L (A_U rfl (A_b rfl))) (A_L (A_U rfl (A_b rfl)))
end Go.Proofs.Ytaipghchkamajaa

