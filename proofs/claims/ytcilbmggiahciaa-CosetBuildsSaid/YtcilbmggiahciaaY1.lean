/-
  Walks of functions of the program and the reference.
-/
import Derived.Test.YtcilbmggiahciaaPlainG
import Derived.Test.YtcilbmggiahciaaCzLib
import Derived.Test.YtcilbmggiahciaaY9
set_option linter.unnecessarySimpa false
open Go Go.Cw
namespace Go.Proofs.Ytcilbmggiahciaa
open Try
set_option maxRecDepth 100000
set_option linter.unusedVariables false
set_option linter.unusedSimpArgs false
theorem Index_ok (l : List Int) (x : Int)  : Ctr Try.prog 97 [aSl 1 false aInt l, aInt x] (aInt (ixOf l x)) := by
 refine ctr_of Try.call97 func97 rfl rfl ?_
 intro w O
 refine ent_len 0 rfl (fun hlen0 => ?_)
 refine esk rfl ?_
 refine ent_seq fun _ K2 => ?_
 refine esr rfl fun _ K3 => ?_
 refine ent_o rfl (ok_len rfl runUnderlying22 rfl) ?_
 refine emm rfl ?_
 refine enk K3 ?_
 refine ent_block ?_
 refine ent_loop (fun (i : Int) => (⟨[(0, aSl 1 false aInt l), (1, aInt x), (7, aInt (↑l.length : Int)), (8, aInt i)], []⟩ : St)) (fun (i : Int) => (0 ≤ i) ∧ (i ≤ l.length) ∧ (x ∉ l.take i.toNat)) (fun (i : Int) => (l.length - i).toNat) 0 ⟨(by omega), (by omega), (by simp)⟩ (ent_rep ⟨rfl, rfl, rfl, slot_av (av_int (show 0 = (0 : Int) by rfl)), trivial⟩ rfl) ?_
 rintro i ⟨h0, h1, hn⟩
 show Ent _ ⟨_, []⟩ _
 refine esr rfl fun _ K4 => ?_
 refine ent_o rfl (ok_lss rfl rfl) ?_
 refine enk K4 ?_
 refine ent_seq fun _ K5 => ?_
 refine ent_condD rfl (fun h9 => ?_) (fun h9 => ?_)
 ·refine esp K5 ?_
  refine ent_seq fun _ K6 => ?_
  refine ent_block ?_
  refine esk rfl ?_
  refine esr rfl fun _ K8 => ?_
  refine ent_o rfl (ok_index 0 sl22 rfl rfl (by omega) (by omega)) ?_
  refine ent_o rfl (ok_load ti3 rfl) ?_
  refine ent_o rfl (ok_eql rfl rfl) ?_
  refine enk K8 ?_
  refine ent_condD rfl (fun h16 => ?_) (fun h16 => ?_)
  ·refine esk rfl ?_
   refine ent_ret ?_
   exact retR1 (.inr rfl) results97 (resr_tmp (res_cv rfl (cv_int (by exact (ixOf_at l x h0 h9 h16.symm hn).symm))))
  refine esp K6 ?_
  refine ent_region ?_
  refine ent_o rfl (ok_add rfl rfl (by omega) (by omega)) ?_
  refine emm rfl ?_
  refine ent_nil ?_
  refine ent_again (s := (i)) (i + 1) ⟨(by omega), ‹_›, (by rw [take_succ_ix 0 l h0 h9, List.mem_append, not_or]; exact ⟨hn, by simpa [ix] using h16⟩)⟩ (by omega) (ent_rep ⟨rfl, rfl, rfl, rfl, trivial⟩ rfl)
 refine ent_exit ?_
 refine ent_k K2 ?_
 refine esk rfl ?_
 refine ent_ret ?_
 exact retR1 (.inr rfl) results97 (resr_tmp (res_cv rfl (cv_int (by exact (ixOf_none l x (by rw [List.take_of_length_le (by omega)] at hn; exact hn)).symm))))

theorem Contains_ok (l : List Int) (x : Int)  : Ctr Try.prog 81 [aSl 1 false aInt l, aInt x] (aBool (decide (x ∈ l))) := by
 refine ctr_of Try.call81 func81 rfl rfl ?_
 intro w O
 refine ent_len 0 rfl (fun hlen0 => ?_)
 refine esk rfl ?_
 refine esr rfl fun _ K2 => ?_
 refine ent_o rfl (ok_call (Index_ok l x) rfl) ?_
 refine ent_o rfl (ok_geq rfl rfl) ?_
 refine emm rfl ?_
 refine enk K2 ?_
 refine ent_ret ?_
 exact retR1 (.inr rfl) results81 (resr_tmp (res_cv rfl (cv_bool (by exact decide_eq_decide.2 (ixOf_pos l x)))))
end Go.Proofs.Ytcilbmggiahciaa

