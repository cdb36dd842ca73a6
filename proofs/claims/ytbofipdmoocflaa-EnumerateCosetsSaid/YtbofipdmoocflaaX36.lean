/-
  Walks of functions of the program and the reference.
-/
import Derived.Test.YtbofipdmoocflaaProg
import Derived.Test.YtbofipdmoocflaaXTab
import Derived.Test.YtbofipdmoocflaaPlainJ1
import Derived.Test.YtbofipdmoocflaaCiLib
import Derived.Test.YtbofipdmoocflaaX4
import Derived.Test.YtbofipdmoocflaaX5
import Derived.Test.YtbofipdmoocflaaX6
import Derived.Test.YtbofipdmoocflaaX9
import Derived.Test.YtbofipdmoocflaaX1
import Derived.Test.YtbofipdmoocflaaX10
import Derived.Test.YtbofipdmoocflaaX11
import Derived.Test.YtbofipdmoocflaaX12
import Derived.Test.YtbofipdmoocflaaX13
import Derived.Test.YtbofipdmoocflaaX14
import Derived.Test.YtbofipdmoocflaaX15
import Derived.Test.YtbofipdmoocflaaX18
import Derived.Test.YtbofipdmoocflaaX19
import Derived.Test.YtbofipdmoocflaaX20
import Derived.Test.YtbofipdmoocflaaX30
import Derived.Test.YtbofipdmoocflaaX31
import Derived.Test.YtbofipdmoocflaaX32
import Derived.Test.YtbofipdmoocflaaX33
import Derived.Test.YtbofipdmoocflaaX35
open Go Go.Cw
namespace Go.Proofs.Ytbofipdmoocflaa
set_option maxRecDepth 100000
set_option linter.unusedVariables false
set_option linter.unusedSimpArgs false

theorem rNear_ok (c : Cod) (y : List Int)  : Ctr Try.prog 30 [aCod c, aSl 1 false aInt y] (aTup [aSl 1 false aInts (if neE c y = 0 then (wds c.F c.N c.Gen) else []), aInt (neE c y)]) := by
 refine ctr_of Try.call30 Try.func30 rfl rfl ?_
 intro w O
 refine ent_lenC 0 2 rfl rfl (fun hlen0_2 => ?_)
 refine ent_lenC 0 4 rfl rfl (fun hlen0_4 => ?_)
 refine ent_len 1 rfl (fun hlen1 => ?_)
 refine esr rfl fun _ K1 => ?_
 refine ent_boxS rfl rfl (AllOne.mem ⟨(one_int _), (one_int _), one_sl, (one_int _), one_sl, trivial⟩) (fun b2_1 => ?_)
 refine emm rfl ?_
 refine enk K1 ?_
 refine esr rfl fun _ K2 => ?_
 refine ent_o rfl (ok_loadBS (k := 0) ti27 rfl rfl rfl) ?_
 refine emm rfl ?_
 refine ent_o rfl (ok_call (rWord_ok c y) rfl) ?_
 refine emm rfl ?_
 refine enk K2 ?_
 refine ent_seq fun _ K3 => ?_
 refine esr rfl fun _ K4 => ?_
 refine ent_o rfl (ok_neq rfl rfl) ?_
 refine enk K4 ?_
 refine ent_condD rfl (fun h11 => ?_) (fun h11 => ?_)
 ·have he : neE c y = wrdE c y := if_neg h11
  have hne : ¬ neE c y = 0 := by rw [he]; exact h11
  refine esk rfl ?_
  refine ent_ret ?_
  exact retR2 (.inr rfl) Try.results30 (resr_tmp (res_cv rfl (cv_nil (fun _ => rfl) (by rw [if_neg hne])))) (resr_tmp (res_cv rfl (cv_int (by exact he.symm))))
 ·have hoe2 : neE c y = sizE c := if_pos (Classical.not_not.1 h11)
  refine esp K3 ?_
  refine esr rfl fun _ K6 => ?_
  refine ent_o rfl (ok_loadBS (k := 0) ti27 rfl rfl rfl) ?_
  refine ent_o rfl (ok_call (rWords_ok c) rfl) ?_
  refine ent_o rfl (ok_extract rfl rfl) ?_
  refine ent_o rfl (ok_extract rfl rfl) ?_
  refine emm rfl ?_
  refine enk K6 ?_
  refine ent_ret ?_
  exact retR2 (.inr rfl) Try.results30 (resr_tmp (res_cv rfl (cv_sl sub_x (by rw [hoe2]; rfl)))) (resr_tmp (res_cv rfl (cv_int (by exact hoe2.symm))))

end Go.Proofs.Ytbofipdmoocflaa

