/-
  Walks of functions of the program and the reference.
-/
import Derived.Test.YtbofipdmoocflaaProg
import Derived.Test.YtbofipdmoocflaaXTab
import Derived.Test.YtbofipdmoocflaaPlainJ1
import Derived.Test.YtbofipdmoocflaaCzLib
import Derived.Test.YtbofipdmoocflaaX4
import Derived.Test.YtbofipdmoocflaaX5
import Derived.Test.YtbofipdmoocflaaX6
import Derived.Test.YtbofipdmoocflaaX9
import Derived.Test.YtbofipdmoocflaaX1
import Derived.Test.YtbofipdmoocflaaX10
import Derived.Test.YtbofipdmoocflaaX11
import Derived.Test.YtbofipdmoocflaaX12
import Derived.Test.YtbofipdmoocflaaX13
import Derived.Test.YtbofipdmoocflaaX14
open Go Go.Cw
namespace Go.Proofs.Ytbofipdmoocflaa
set_option maxRecDepth 100000
set_option linter.unusedVariables false
set_option linter.unusedSimpArgs false
theorem mCanonical_ok (f : Fld) (m : Mat)  : Ctr Try.prog 122 [aFld f, aMat m] (aTup [aMat (canM f m), aSl 1 false aInt (canP f m), aInt (mErr f m)]) := by
 refine ctr_of Try.call122 Try.func122 rfl rfl ?_
 intro w O
 refine ent_lenC 0 2 rfl rfl (fun hlen0_2 => ?_)
 refine ent_lenC 1 1 rfl rfl (fun hlen1_1 => ?_)
 refine esr rfl fun _ K1 => ?_
 refine ent_boxS rfl rfl (AllOne.mem ⟨(one_int _), (one_int _), one_sl, trivial⟩) (fun b2_1 => ?_)
 refine ent_boxS rfl rfl (AllOne.mem ⟨(one_int _), one_sl, trivial⟩) (fun b3_2 => ?_)
 refine ent_alloc (z := .agg #[.int .i64 0, .slice none 0 0]) [aInt 0, aEx (.slice none 0 0)] rfl zv83 rfl zc83 (fun b4_3 => ?_)
 refine emm rfl ?_
 refine enk K1 ?_
 refine esr rfl fun _ K2 => ?_
 refine ent_o rfl (ok_loadBS (k := 2) ti24 rfl rfl rfl) ?_
 refine ent_o rfl (ok_loadBS (k := 1) ti83 rfl rfl rfl) ?_
 refine ent_o rfl (ok_build1 (enc := aMat) (y := (⟨m.cols, m.rows⟩ : Mat)) vt140 rfl (elem_agg (AllOne.mem ⟨(one_int _), one_sl, trivial⟩)) (by decide)) ?_
 rcases Classical.em (mErr f m = 0) with hm0 | hm0
 ·refine ent_o rfl (ok_call (open_ok f [(⟨m.cols, m.rows⟩ : Mat)] (mErr_zero.1 hm0).1 (by intro q hq; simp only [List.mem_cons, List.not_mem_nil, or_false] at hq; subst hq; exact (mErr_zero.1 hm0).2) (by simp)) rfl) ?_
  refine emm rfl ?_
  refine ent_o rfl (ok_extract rfl rfl) ?_
  refine ent_o rfl (ok_extract rfl rfl) ?_
  refine emm rfl ?_
  refine enk K2 ?_
  refine ent_seq fun _ K3 => ?_
  refine esr rfl fun _ K4 => ?_
  refine ent_o rfl (ok_neq rfl rfl) ?_
  refine enk K4 ?_
  refine ent_condFP rfl (by decide) ?_
  refine esp K3 ?_
  refine ent_seq fun _ K5 => ?_
  have hF := (mErr_zero.1 hm0).1
  have hme := (mErr_zero.1 hm0).2
  have hsz := mat_size hme
  have hgm := mat_good hme
  refine ent_region ?_
  refine emm rfl ?_
  refine ent_o rfl (ok_fieldAddrEx Try.runUnderlying83 rfl Try.sizeOf25 (by decide) rfl) ?_
  refine ent_o rfl (ok_loadB (k := 1) Try.isAgg25 rfl rfl rfl) ?_
  refine ent_o rfl (ok_fieldAddrEx Try.runUnderlying83 rfl Try.sizeOf3 (by decide) rfl) ?_
  refine ent_o rfl (ok_loadB (k := 1) Try.isAgg3 rfl rfl rfl) ?_
  refine ent_o rfl (ok_call (canon_ok f m.rows m.cols m.cols.toNat (by first | rfl | assumption | omega | (simp_all; done) | grind) hgm (by first | rfl | assumption | omega | (simp_all; done) | grind) (by first | rfl | assumption | omega | (simp_all; done) | grind) (by first | rfl | assumption | omega | (simp_all; done) | grind) (by first | rfl | assumption | omega | (simp_all; done) | grind)) rfl) ?_
  refine emm rfl ?_
  refine ent_o rfl (ok_extract rfl rfl) ?_
  refine ent_o rfl (ok_extract rfl rfl) ?_
  refine emm rfl ?_
  refine enk K5 ?_
  refine esr rfl fun _ K6 => ?_
  refine ent_o rfl (ok_fieldAddrEx Try.runUnderlying83 rfl Try.sizeOf3 (by decide) rfl) ?_
  refine ent_o rfl (ok_loadB (k := 1) Try.isAgg3 rfl rfl rfl) ?_
  refine emm rfl ?_
  refine ent_o rfl (ok_build st83 (As := [aInt 0, aEx (.slice none 0 0)]) z83 (⟨0, 1, rfl, .inl ⟨rfl, _, rfl, (one_int _), rfl, ⟨1, 1, rfl, .inl ⟨rfl, _, rfl, one_sl, rfl, rfl⟩⟩⟩⟩)) ?_
  refine emm rfl ?_
  refine ent_storeBS (k := 0) Try.sizeOf83 rfl rfl rfl (AllOne.mem ⟨(one_int _), one_sl, trivial⟩) rfl rfl ?_
  show Ent _ ⟨_, [_, _, _]⟩ _
  refine emm rfl ?_
  refine enk K6 ?_
  refine ent_ret ?_
  exact retR3 (.inr rfl) Try.results122 (resr_cell (k := 0) ti83 rfl rfl rfl (cv_agg ⟨cv_int (by first | rfl | exact hm0.symm | exact opErr_one f m | (simp only [canM_ok hm0] <;> rfl) | (simp only [canM_no hm0] <;> rfl) | (simp; done)), cv_sl sub_x (by first | rfl | exact hm0.symm | exact opErr_one f m | (simp only [canM_ok hm0] <;> rfl) | (simp only [canM_no hm0] <;> rfl) | (simp; done)), trivial⟩)) (resr_tmp (res_cv rfl (cv_sl sub_x (by first | rfl | exact hm0.symm | exact opErr_one f m | (simp only [canP_ok hm0] <;> rfl) | (simp only [canP_no hm0] <;> rfl) | (simp; done))))) (resr_tmp (res_cv rfl (cv_int (by first | rfl | exact hm0.symm | exact opErr_one f m | (simp; done)))))
 ·refine ent_o rfl (ok_call (open_no f [(⟨m.cols, m.rows⟩ : Mat)] (by rw [opErr_one]; exact hm0)) rfl) ?_
  refine emm rfl ?_
  refine ent_o rfl (ok_extract rfl rfl) ?_
  refine ent_o rfl (ok_extract rfl rfl) ?_
  refine emm rfl ?_
  refine enk K2 ?_
  refine ent_seq fun _ K7 => ?_
  refine esr rfl fun _ K8 => ?_
  refine ent_o rfl (ok_neq rfl rfl) ?_
  refine enk K8 ?_
  refine ent_condD rfl (fun h19 => ?_) (fun h19 => ?_)
  ·refine esr rfl fun _ K9 => ?_
   refine ent_o rfl (ok_build st83 (As := [aInt 0, aEx (.slice none 0 0)]) z83 (rfl)) ?_
   refine emm rfl ?_
   refine ent_storeBS (k := 0) Try.sizeOf83 rfl rfl rfl (AllOne.mem ⟨(one_int _), (one_ex rfl), trivial⟩) rfl rfl ?_
   show Ent _ ⟨_, [_, _, _]⟩ _
   refine emm rfl ?_
   refine enk K9 ?_
   refine ent_ret ?_
   exact retR3 (.inr rfl) Try.results122 (resr_cell (k := 0) ti83 rfl rfl rfl (cv_agg ⟨cv_int (by first | rfl | exact hm0.symm | exact opErr_one f m | (simp only [canM_ok hm0] <;> rfl) | (simp only [canM_no hm0] <;> rfl) | (simp; done)), cv_nil (fun _ => rfl) (by first | rfl | exact hm0.symm | exact opErr_one f m | (simp only [canM_ok hm0] <;> rfl) | (simp only [canM_no hm0] <;> rfl) | (simp; done)), trivial⟩)) (resr_tmp (res_cv rfl (cv_nil (fun _ => rfl) (by first | rfl | exact hm0.symm | exact opErr_one f m | (simp only [canP_ok hm0] <;> rfl) | (simp only [canP_no hm0] <;> rfl) | (simp; done))))) (resr_tmp (res_cv rfl (cv_int (by first | rfl | exact hm0.symm | exact opErr_one f m | (simp; done)))))
  ·exact absurd (Classical.not_not.1 h19) (by rw [opErr_one]; exact hm0)

end Go.Proofs.Ytbofipdmoocflaa

