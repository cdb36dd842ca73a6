/-
  Walks of functions of the program and the reference.
-/
import Derived.Test.YtbofipdmoocflaaProg
import Derived.Test.YtbofipdmoocflaaXTab
import Derived.Test.YtbofipdmoocflaaPlainJ1
import Derived.Test.YtbofipdmoocflaaCzLib
import Derived.Test.YtbofipdmoocflaaX4
import Derived.Test.YtbofipdmoocflaaX5
import Derived.Test.YtbofipdmoocflaaX6
import Derived.Test.YtbofipdmoocflaaX9
import Derived.Test.YtbofipdmoocflaaX1
import Derived.Test.YtbofipdmoocflaaX10
import Derived.Test.YtbofipdmoocflaaX11
import Derived.Test.YtbofipdmoocflaaX12
import Derived.Test.YtbofipdmoocflaaX13
import Derived.Test.YtbofipdmoocflaaX14
import Derived.Test.YtbofipdmoocflaaX15
import Derived.Test.YtbofipdmoocflaaX18
import Derived.Test.YtbofipdmoocflaaX19
open Go Go.Cw
namespace Go.Proofs.Ytbofipdmoocflaa
set_option maxRecDepth 100000
set_option linter.unusedVariables false
set_option linter.unusedSimpArgs false
theorem rCanon_ok (f : Fld) (X : List (List Int)) (cols : Int) (wd : Nat) (hF : FOk f) (hg : good f wd X) (hc0 : 0 ≤ cols) (hc1 : cols ≤ wd) (hw : wd ≤ 100000) (hx : X.length ≤ 100000) : Ctr Try.prog 71 [aFld f, aSl 1 false aInts X, aInt cols] (aTup [aSl 1 false aInts (canR (elim f X [] cols.toNat)), aSl 1 false aInt ((elim f X [] cols.toNat).piv)]) := by
 have hpl := piv_le f X [] cols.toNat
 have hel := (length_elim f X [] cols.toNat).1
 refine ctr_of Try.call71 Try.func71 rfl rfl ?_
 intro w O
 refine ent_lenC 0 2 rfl rfl (fun hlen0_2 => ?_)
 refine ent_len 1 rfl (fun hlen1 => ?_)
 refine esr rfl fun _ K1 => ?_
 refine ent_boxS rfl rfl (AllOne.mem ⟨(one_int _), (one_int _), one_sl, trivial⟩) (fun b3_1 => ?_)
 refine emm rfl ?_
 refine enk K1 ?_
 refine esr rfl fun _ K2 => ?_
 refine ent_o rfl (ok_loadBS (k := 0) ti24 rfl rfl rfl) ?_
 refine emm rfl ?_
 refine ent_o rfl (ok_call (rEliminate_ok f X cols wd hF hg hc0 hc1 hw hx) rfl) ?_
 refine emm rfl ?_
 refine ent_o rfl (ok_extract rfl rfl) ?_
 refine ent_o rfl (ok_extract rfl rfl) ?_
 refine emm rfl ?_
 refine enk K2 ?_
 refine esr rfl fun _ K3 => ?_
 refine ent_o rfl (ok_len rfl Try.runUnderlying22 rfl) ?_
 refine ent_o rfl (ok_sliceTo sl25 rfl rfl (by omega) (by omega)) ?_
 refine emm rfl ?_
 refine enk K3 ?_
 refine ent_ret ?_
 exact retR2 (.inr rfl) Try.results71 (resr_tmp (res_cv rfl (cv_sl sub_x (by first | rfl | (unfold canR; congr 1; omega))))) (resr_tmp (res_cv rfl (cv_sl sub_x (by rfl))))

end Go.Proofs.Ytbofipdmoocflaa

