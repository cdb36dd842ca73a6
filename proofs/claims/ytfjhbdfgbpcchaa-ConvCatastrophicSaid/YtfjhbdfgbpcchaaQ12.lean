/-
  Walks of functions of the program and the reference.
-/
import Derived.Test.YtfjhbdfgbpcchaaQ11
open Go Go.Cw
namespace Go.Proofs.Ytfjhbdfgbpcchaa
open Try
set_option maxRecDepth 100000
set_option linter.unusedVariables false
set_option linter.unusedSimpArgs false
theorem rMinorsL_ok (c : Cnv) (hFew : c.Few) (hOk : c.Ok) : Ctr Try.prog 40 [aCnv c] (aSl 1 false aInt c.minL) := by
 have hkn := hOk.kn
 have hF := hOk.fld
 refine ctr_of Try.call40 func40 rfl rfl ?_
 intro w O
 refine ent_lenC 0 2 rfl rfl (fun hlen0_2 => ?_)
 refine ent_lenC 0 3 rfl rfl (fun hlen0_3 => ?_)
 refine esr rfl fun _ K1 => ?_
 refine ent_boxS rfl rfl (AllOne.mem ⟨(one_int _), (one_int _), one_sl, one_sl, trivial⟩) (fun b1_1 => ?_)
 refine emm rfl ?_
 refine enk K1 ?_
 refine esr rfl fun _ K2 => ?_
 refine ent_o rfl (ok_loadBS (k := 0) ti27 rfl rfl rfl) ?_
 refine ent_o rfl (ok_callA (rcMinors_ok c 0 [] (by first | rfl | assumption | omega | (simp_all; done) | grind) (by first | rfl | assumption | omega | (simp_all; done) | grind) hF (by omega) (by omega) (by simp) (by simp)) ⟨arg_a rfl (cv_id sub_refl), arg_a rfl (cv_id sub_refl), arg_a rfl (cv_nil (fun _ => rfl) (by first | rfl | assumption | omega | (simp_all; done) | grind)), trivial⟩) ?_
 refine emm rfl ?_
 refine enk K2 ?_
 refine ent_ret ?_
 exact retR1 (.inr rfl) results40 (resr_tmp (res_cv rfl (cv_sl sub_x (by exact (Cnv.minL_ok hOk).symm))))
end Go.Proofs.Ytfjhbdfgbpcchaa

