/-
  Walks of functions of the program and the reference.
-/
import Derived.Test.YtcilbmggiahciaaY38
open Go Go.Cw
namespace Go.Proofs.Ytcilbmggiahciaa
open Try
set_option maxRecDepth 100000
set_option linter.unusedVariables false
set_option linter.unusedSimpArgs false
theorem cChk_yes (c : Cod) (ls : List Lab) (h64 : ∀ t ∈ ls, -9223372036854775808 ≤ t.1 ∧ t.1 ≤ 9223372036854775807) (ho : opE c [] false = 0) : Ctr Try.prog 14 [aCod c, aSl 3 true aLab ls] (aInt (chkL c ls)) := by
 refine ctr_of Try.call14 func14 rfl rfl ?_
 intro w O
 refine ent_lenC 0 2 rfl rfl (fun hlen0_2 => ?_)
 refine ent_lenC 0 4 rfl rfl (fun hlen0_4 => ?_)
 refine ent_len 1 rfl (fun hlen1 => ?_)
 refine esr rfl fun _ K1 => ?_
 refine ent_boxS rfl rfl (AllOne.mem ⟨(one_int _), (one_int _), one_sl, (one_int _), one_sl, trivial⟩) (fun b2_1 => ?_)
 refine emm rfl ?_
 refine enk K1 ?_
 refine esr rfl fun _ K2 => ?_
 refine ent_o rfl (ok_loadBS (k := 0) ti27 rfl rfl rfl) ?_
 refine ent_o rfl (ok_callA (cso_ok c [] false ho) ⟨arg_a rfl (cv_id sub_refl), arg_a rfl (cv_nil (fun _ => rfl) rfl), arg_a rfl (cv_id sub_refl), trivial⟩) ?_
 refine emm rfl ?_
 refine ent_o rfl (ok_extract rfl rfl) ?_
 refine ent_o rfl (ok_extract rfl rfl) ?_
 refine emm rfl ?_
 refine enk K2 ?_
 refine ent_seq fun _ K3 => ?_
 refine esr rfl fun _ K4 => ?_
 refine ent_o rfl (ok_neq rfl rfl) ?_
 refine enk K4 ?_
 refine ent_condFP rfl (by decide) ?_
 refine esp K3 ?_
 refine ent_seq fun _ K5 => ?_
 refine esr rfl fun _ K6 => ?_
 refine ent_o rfl (ok_call (proves_ok c ls ho ‹_›) rfl) ?_
 refine ent_o rfl (ok_notD rfl) ?_
 refine enk K6 ?_
 refine ent_condD rfl (fun h18 => ?_) (fun h18 => ?_)
 ·refine esk rfl ?_
  refine ent_ret ?_
  exact retR1 (.inr rfl) results14 (resr_tmp (res_cv rfl (cv_int (by exact (chkL_no ho h18).symm))))
 refine esp K5 ?_
 refine esk rfl ?_
 refine ent_ret ?_
 exact retR1 (.inr rfl) results14 (resr_tmp (res_cv rfl (cv_int (by exact (chkL_yes ho (Classical.not_not.1 h18)).symm))))

theorem cChk_no (c : Cod) (ls : List Lab) (h64 : ∀ t ∈ ls, -9223372036854775808 ≤ t.1 ∧ t.1 ≤ 9223372036854775807) (ho : opE c [] false ≠ 0) : Ctr Try.prog 14 [aCod c, aSl 3 true aLab ls] (aInt (chkL c ls)) := by
 refine ctr_of Try.call14 func14 rfl rfl ?_
 intro w O
 refine ent_lenC 0 2 rfl rfl (fun hlen0_2 => ?_)
 refine ent_lenC 0 4 rfl rfl (fun hlen0_4 => ?_)
 refine ent_len 1 rfl (fun hlen1 => ?_)
 refine esr rfl fun _ K1 => ?_
 refine ent_boxS rfl rfl (AllOne.mem ⟨(one_int _), (one_int _), one_sl, (one_int _), one_sl, trivial⟩) (fun b2_1 => ?_)
 refine emm rfl ?_
 refine enk K1 ?_
 refine esr rfl fun _ K2 => ?_
 refine ent_o rfl (ok_loadBS (k := 0) ti27 rfl rfl rfl) ?_
 refine ent_o rfl (ok_callA (cso_no c [] false ho) ⟨arg_a rfl (cv_id sub_refl), arg_a rfl (cv_nil (fun _ => rfl) rfl), arg_a rfl (cv_id sub_refl), trivial⟩) ?_
 refine emm rfl ?_
 refine ent_o rfl (ok_extract rfl rfl) ?_
 refine ent_o rfl (ok_extract rfl rfl) ?_
 refine emm rfl ?_
 refine enk K2 ?_
 refine ent_seq fun _ K3 => ?_
 refine esr rfl fun _ K4 => ?_
 refine ent_o rfl (ok_neq rfl rfl) ?_
 refine enk K4 ?_
 refine ent_condD rfl (fun h13 => ?_) (fun h13 => ?_)
 ·refine esk rfl ?_
  refine ent_ret ?_
  exact retR1 (.inr rfl) results14 (resr_tmp (res_cv rfl (cv_int (by exact (chkL_cs ho).symm))))
 exact absurd (Classical.not_not.1 h13) ho

theorem cChk_ok (c : Cod) (ls : List Lab) (h64 : ∀ t ∈ ls, -9223372036854775808 ≤ t.1 ∧ t.1 ≤ 9223372036854775807) : Ctr Try.prog 14 [aCod c, aSl 3 true aLab ls] (aInt (chkL c ls)) := by
 by_cases ho : opE c [] false = 0
 ·exact cChk_yes c ls h64 ho
 exact cChk_no c ls h64 ho

end Go.Proofs.Ytcilbmggiahciaa

