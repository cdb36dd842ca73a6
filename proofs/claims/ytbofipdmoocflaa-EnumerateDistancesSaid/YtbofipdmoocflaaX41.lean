/-
  Facts for the law EnumerateDistances.
-/
import Derived.Test.YtbofipdmoocflaaProg
import Derived.Test.YtbofipdmoocflaaXTab
import Derived.Test.YtbofipdmoocflaaPlainJ1
import Derived.Test.YtbofipdmoocflaaCiLib
import Derived.Test.YtbofipdmoocflaaX4
import Derived.Test.YtbofipdmoocflaaX5
import Derived.Test.YtbofipdmoocflaaX6
import Derived.Test.YtbofipdmoocflaaX9
import Derived.Test.YtbofipdmoocflaaX1
import Derived.Test.YtbofipdmoocflaaX10
import Derived.Test.YtbofipdmoocflaaX11
import Derived.Test.YtbofipdmoocflaaX12
import Derived.Test.YtbofipdmoocflaaX13
import Derived.Test.YtbofipdmoocflaaX14
import Derived.Test.YtbofipdmoocflaaX15
import Derived.Test.YtbofipdmoocflaaX18
import Derived.Test.YtbofipdmoocflaaX19
import Derived.Test.YtbofipdmoocflaaX20
import Derived.Test.YtbofipdmoocflaaX30
import Derived.Test.YtbofipdmoocflaaX31
import Derived.Test.YtbofipdmoocflaaX32
import Derived.Test.YtbofipdmoocflaaX33
import Derived.Test.YtbofipdmoocflaaX34
import Derived.Test.YtbofipdmoocflaaX35
import Derived.Test.YtbofipdmoocflaaX36
import Derived.Test.YtbofipdmoocflaaX39
open Go Go.Cw
namespace Go.Proofs.Ytbofipdmoocflaa
set_option maxRecDepth 100000
set_option linter.unusedVariables false
set_option linter.unusedSimpArgs false
theorem EnumerateDistances_walk (f : Fld) (n : Int) (l : List (List Int))  : Ctr Try.prog 7 [aFld f, aInt n, aSl 1 false aInts l] (aBool true) := by
 refine ctr_of Try.call7 Try.func7 rfl rfl ?_
 intro w O
 refine ent_lenC 0 2 rfl rfl (fun hlen0_2 => ?_)
 refine ent_len 2 rfl (fun hlen2 => ?_)
 refine esr rfl fun _ K1 => ?_
 refine ent_boxS rfl rfl (AllOne.mem ⟨(one_int _), (one_int _), one_sl, trivial⟩) (fun b3_1 => ?_)
 refine emm rfl ?_
 refine enk K1 ?_
 refine esr rfl fun _ K2 => ?_
 refine ent_o rfl (ok_loadBS (k := 0) ti24 rfl rfl rfl) ?_
 refine emm rfl ?_
 refine ent_o rfl (ok_call (eDistances_ok f n l) rfl) ?_
 refine emm rfl ?_
 refine ent_o rfl (ok_extract rfl rfl) ?_
 refine ent_o rfl (ok_extract rfl rfl) ?_
 refine emm rfl ?_
 refine enk K2 ?_
 refine esr rfl fun _ K3 => ?_
 refine ent_o rfl (ok_loadBS (k := 0) ti24 rfl rfl rfl) ?_
 refine emm rfl ?_
 refine ent_o rfl (ok_call (rDistances_ok f n l) rfl) ?_
 refine emm rfl ?_
 refine ent_o rfl (ok_extract rfl rfl) ?_
 refine ent_o rfl (ok_extract rfl rfl) ?_
 refine emm rfl ?_
 refine enk K3 ?_
 refine esr rfl fun _ K4 => ?_
 refine ent_o rfl (ok_eql rfl rfl) ?_
 refine emm rfl ?_
 refine ent_guardXT rfl rfl rfl rfl (decide_eq_true rfl) ?_
 refine emm rfl ?_
 refine ent_guardXT rfl rfl rfl rfl (decide_eq_true rfl) ?_
 refine emm rfl ?_
 refine ent_guardXT rfl rfl rfl rfl (decide_eq_true rfl) ?_
 refine ent_o rfl (ok_call (rSame_ok (diL f n l) (diL f n l)) rfl) ?_
 refine ent_o rfl (ok_pickT rfl (decide_eq_true rfl) rfl) ?_
 refine emm rfl ?_
 refine ent_guardXT rfl rfl rfl rfl (decide_eq_true rfl) ?_
 refine ent_o rfl (ok_call alive_ok rfl) ?_
 refine ent_o rfl (ok_pickT rfl (decide_eq_true rfl) rfl) ?_
 refine emm rfl ?_
 refine enk K4 ?_
 refine ent_ret ?_
 exact retR1 (.inr rfl) Try.results7 (resr_tmp (res_cv rfl (cv_bool (by first | rfl | simp))))
end Go.Proofs.Ytbofipdmoocflaa
