/-
  Walks of functions of the program and the reference.
-/
import Derived.Test.YtfjhbdfgbpcchaaQ19
open Go Go.Cw
namespace Go.Proofs.Ytfjhbdfgbpcchaa
open Try
set_option maxRecDepth 100000
set_option linter.unusedVariables false
set_option linter.unusedSimpArgs false
theorem rPower2_ok (p : List Int) (hp : p.length ≤ 10000) : Ctr Try.prog 42 [aSl 1 false aInt p] (aBool (decide (Cnv.powP p))) := by
 refine ctr_of Try.call42 func42 rfl rfl ?_
 intro w O
 refine ent_len 0 rfl (fun hlen0 => ?_)
 refine esk rfl ?_
 refine esr rfl fun _ K2 => ?_
 refine ent_o rfl (ok_len rfl runUnderlying22 rfl) ?_
 refine ent_o rfl (ok_gtr rfl rfl) ?_
 refine emm rfl ?_
 refine ent_guardXDt rfl rfl rfl rfl (fun hg6 => ?_) (fun hg6 => ?_)
 ·refine emm rfl ?_
  refine ent_guardXT rfl rfl rfl rfl (decide_eq_true hg6) ?_
  refine emm rfl ?_
  refine ent_guardXT rfl rfl rfl rfl (decide_eq_true hg6) ?_
  refine ent_o rfl (ok_len rfl runUnderlying22 rfl) ?_
  refine ent_guardXT rfl rfl rfl rfl (decide_eq_true hg6) ?_
  refine ent_o rfl (ok_sub rfl rfl (by omega) (by omega)) ?_
  refine ent_guardXT rfl rfl rfl rfl (decide_eq_true hg6) ?_
  refine ent_o rfl (ok_index 0 sl22 rfl rfl (by omega) (by omega)) ?_
  refine ent_guardXT rfl rfl rfl rfl (decide_eq_true hg6) ?_
  refine ent_o rfl (ok_load ti3 rfl) ?_
  refine ent_guardXT rfl rfl rfl rfl (decide_eq_true hg6) ?_
  refine ent_o rfl (ok_eql rfl rfl) ?_
  refine ent_o rfl (ok_pickT rfl (decide_eq_true hg6) rfl) ?_
  refine emm rfl ?_
  refine ent_guardXDt rfl rfl rfl rfl (fun hg15 => ?_) (fun hg15 => ?_)
  ·refine emm rfl ?_
   refine ent_guardXT rfl rfl rfl rfl (decide_eq_true hg15) ?_
   refine ent_buildN aInts [p] rfl vt42 (by decide) (⟨0, 1, rfl, .inl ⟨rfl, _, rfl, one_sl, rfl, rfl⟩⟩) rfl (fun b17_1 => ?_)
   refine ent_guardXT rfl rfl rfl rfl (decide_eq_true hg15) ?_
   refine ent_o rfl (ok_callP [0] (by exact pl_ex) (rWeight_ok [p] (by simp) (by intro r hr; rw [List.mem_singleton] at hr; rw [hr]; omega)) ⟨arg_a rfl (cv_vec (k := 0) (off_lent rfl (by decide)) rfl rfl), trivial⟩) ?_
   refine ent_guardXT rfl rfl rfl rfl (decide_eq_true hg15) ?_
   refine ent_o rfl (ok_eql rfl rfl) ?_
   refine ent_o rfl (ok_pickT rfl (decide_eq_true hg15) rfl) ?_
   refine emm rfl ?_
   refine enk K2 ?_
   refine ent_ret ?_
   exact retR1 (.inr rfl) results42 (resr_tmp (res_cv rfl (cv_bool (by exact decide_eq_decide.2 ⟨fun g => ⟨⟨by omega, by assumption⟩, g⟩, fun g => g.2⟩))))
  refine ent_guardXF rfl rfl rfl rfl (decide_eq_false hg15) ?_
  refine ent_guardXF rfl rfl rfl rfl (decide_eq_false hg15) ?_
  refine ent_guardXF rfl rfl rfl rfl (decide_eq_false hg15) ?_
  refine ent_o rfl (ok_pickF rfl (decide_eq_false hg15) rfl) ?_
  refine emm rfl ?_
  refine enk K2 ?_
  refine ent_ret ?_
  exact retR1 (.inr rfl) results42 (resr_tmp (res_cv rfl (cv_bool (by exact (decide_eq_false (fun g : Cnv.powP p => absurd g.1.2 ‹_›)).symm))))
 refine ent_guardXF rfl rfl rfl rfl (decide_eq_false hg6) ?_
 refine ent_guardXF rfl rfl rfl rfl (decide_eq_false hg6) ?_
 refine ent_guardXF rfl rfl rfl rfl (decide_eq_false hg6) ?_
 refine ent_guardXF rfl rfl rfl rfl (decide_eq_false hg6) ?_
 refine ent_guardXF rfl rfl rfl rfl (decide_eq_false hg6) ?_
 refine ent_guardXF rfl rfl rfl rfl (decide_eq_false hg6) ?_
 refine ent_o rfl (ok_pickF rfl (decide_eq_false hg6) rfl) ?_
 refine emm rfl ?_
 refine ent_guardXF rfl rfl rfl rfl rfl ?_
 refine ent_guardXF rfl rfl rfl rfl rfl ?_
 refine ent_guardXF rfl rfl rfl rfl rfl ?_
 refine ent_guardXF rfl rfl rfl rfl rfl ?_
 refine ent_o rfl (ok_pickF rfl rfl rfl) ?_
 refine emm rfl ?_
 refine enk K2 ?_
 refine ent_ret ?_
 exact retR1 (.inr rfl) results42 (resr_tmp (res_cv rfl (cv_bool (by exact (decide_eq_false (fun g : Cnv.powP p => by have := g.1.1; omega)).symm))))
end Go.Proofs.Ytfjhbdfgbpcchaa

