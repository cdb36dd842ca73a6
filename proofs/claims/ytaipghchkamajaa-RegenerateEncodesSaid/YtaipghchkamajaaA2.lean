/-
  Walks of functions of the program and the reference.
-/
import Derived.Test.YtaipghchkamajaaProg
import Derived.Test.YtaipghchkamajaaTab
import Derived.Test.YtaipghchkamajaaPlainJ1
open Go Go.Cw
namespace Go.Proofs.Ytaipghchkamajaa
set_option maxRecDepth 100000
set_option linter.unusedVariables false
set_option linter.unusedSimpArgs false
theorem Index_ok (l : List Int) (x : Int)  : Ctr Try.prog 119 [aSl 1 false aInt l, aInt x] (aInt (ixOf l x)) := by
 refine ctr_of Try.call119 Try.func119 rfl rfl ?_
 intro w O
 refine ent_len 0 rfl (fun hlen0 => ?_)
 refine esk rfl ?_
 refine ent_seq fun _ K2 => ?_
 refine esr rfl fun _ K3 => ?_
 refine ent_o rfl (ok_len rfl Try.runUnderlying29 rfl) ?_
 refine emm rfl ?_
 refine enk K3 ?_
 refine ent_block ?_
 refine ent_loop (fun (i : Int) => (⟨[(0, aSl 1 false aInt l), (1, aInt x), (7, aInt (↑l.length : Int)), (8, aInt i)], []⟩ : St)) (fun (i : Int) => (0 ≤ i) ∧ (i ≤ l.length) ∧ (x ∉ l.take i.toNat)) (fun (i : Int) => (l.length - i).toNat) 0 ⟨(by first | rfl | assumption | omega | (simp_all; done) | grind), (by first | rfl | assumption | omega | (simp_all; done) | grind), (by simp)⟩ (ent_rep ⟨rfl, rfl, rfl, slot_av (av_int (show 0 = (0 : Int) by first | rfl | assumption | omega | (simp_all; done) | grind)), trivial⟩ rfl) ?_
 rintro i ⟨h0, h1, hn⟩
 show Ent _ ⟨_, []⟩ _
 refine esr rfl fun _ K4 => ?_
 refine ent_o rfl (ok_lss rfl rfl) ?_
 refine enk K4 ?_
 refine ent_seq fun _ K5 => ?_
 refine ent_condD rfl (fun h9 => ?_) (fun h9 => ?_)
 ·refine esp K5 ?_
  refine ent_seq fun _ K6 => ?_
  refine ent_block ?_
  refine esk rfl ?_
  refine esr rfl fun _ K8 => ?_
  refine ent_o rfl (ok_index 0 sl29 rfl rfl (by omega) (by omega)) ?_
  refine ent_o rfl (ok_load ti3 rfl) ?_
  refine ent_o rfl (ok_eql rfl rfl) ?_
  refine enk K8 ?_
  refine ent_condD rfl (fun h16 => ?_) (fun h16 => ?_)
  ·refine esk rfl ?_
   refine ent_ret ?_
   exact retR1 (.inr rfl) Try.results119 (resr_tmp (res_cv rfl (cv_int (by exact (ixOf_at l x h0 h9 h16.symm hn).symm))))
  ·refine esp K6 ?_
   refine ent_region ?_
   refine ent_o rfl (ok_add rfl rfl (by omega) (by omega)) ?_
   refine emm rfl ?_
   refine ent_nil ?_
   refine ent_again (s := (i)) (i + 1) ⟨(by first | rfl | assumption | omega | (simp_all; done) | grind), (by first | rfl | assumption | omega | (simp_all; done) | grind), (by rw [take_succ_ix 0 l h0 h9, List.mem_append, not_or]; exact ⟨hn, by simpa [ix] using h16⟩)⟩ (by first | omega | (dsimp only; omega)) (ent_rep ⟨rfl, rfl, rfl, rfl, trivial⟩ rfl)
 ·refine ent_exit ?_
  refine ent_k K2 ?_
  refine esk rfl ?_
  refine ent_ret ?_
  exact retR1 (.inr rfl) Try.results119 (resr_tmp (res_cv rfl (cv_int (by exact (ixOf_none l x (by rw [List.take_of_length_le (by omega)] at hn; exact hn)).symm))))

theorem Contains_ok (l : List Int) (x : Int)  : Ctr Try.prog 91 [aSl 1 false aInt l, aInt x] (aBool (decide (x ∈ l))) := by
 refine ctr_of Try.call91 Try.func91 rfl rfl ?_
 intro w O
 refine ent_len 0 rfl (fun hlen0 => ?_)
 refine esk rfl ?_
 refine esr rfl fun _ K2 => ?_
 refine ent_o rfl (ok_call (Index_ok l x) rfl) ?_
 refine ent_o rfl (ok_geq rfl rfl) ?_
 refine emm rfl ?_
 refine enk K2 ?_
 refine ent_ret ?_
 exact retR1 (.inr rfl) Try.results91 (resr_tmp (res_cv rfl (cv_bool (by exact decide_eq_decide.2 (ixOf_pos l x)))))

theorem twice_ok (l : List Int)  : Ctr Try.prog 58 [aSl 1 false aInt l] (aBool (decide (¬ l.Nodup))) := by
 refine ctr_of Try.call58 Try.func58 rfl rfl ?_
 intro w O
 refine ent_len 0 rfl (fun hlen0 => ?_)
 refine esk rfl ?_
 refine ent_seq fun _ K2 => ?_
 refine esr rfl fun _ K3 => ?_
 refine ent_o rfl (ok_len rfl Try.runUnderlying29 rfl) ?_
 refine emm rfl ?_
 refine enk K3 ?_
 refine ent_block ?_
 refine ent_loop (fun (i : Int) => (⟨[(0, aSl 1 false aInt l), (5, aSl 1 false aInt l), (6, aInt (↑l.length : Int)), (7, aInt i)], []⟩ : St)) (fun (i : Int) => (0 ≤ i) ∧ (i ≤ l.length) ∧ ((l.take i.toNat).Nodup)) (fun (i : Int) => (l.length - i).toNat) 0 ⟨(by first | rfl | assumption | omega | (simp_all; done) | grind), (by first | rfl | assumption | omega | (simp_all; done) | grind), (by simp)⟩ (ent_rep ⟨rfl, rfl, rfl, slot_av (av_int (show 0 = (0 : Int) by first | rfl | assumption | omega | (simp_all; done) | grind)), trivial⟩ rfl) ?_
 rintro i ⟨h0, h1, hn⟩
 show Ent _ ⟨_, []⟩ _
 refine esr rfl fun _ K4 => ?_
 refine ent_o rfl (ok_lss rfl rfl) ?_
 refine enk K4 ?_
 refine ent_seq fun _ K5 => ?_
 refine ent_condD rfl (fun h8 => ?_) (fun h8 => ?_)
 ·refine esp K5 ?_
  refine ent_seq fun _ K6 => ?_
  refine ent_block ?_
  refine esr rfl fun _ K7 => ?_
  refine ent_o rfl (ok_index 0 sl29 rfl rfl (by omega) (by omega)) ?_
  refine ent_o rfl (ok_load ti3 rfl) ?_
  refine emm rfl ?_
  refine enk K7 ?_
  refine esr rfl fun _ K8 => ?_
  refine ent_o rfl (ok_sliceTo sl29 rfl rfl (by omega) (by omega)) ?_
  refine emm rfl ?_
  refine ent_o rfl (ok_call (Contains_ok (List.take (i).toNat l) (ix 0 l i)) rfl) ?_
  refine enk K8 ?_
  refine ent_condD rfl (fun h16 => ?_) (fun h16 => ?_)
  ·refine esk rfl ?_
   refine ent_ret ?_
   exact retR1 (.inr rfl) Try.results58 (resr_tmp (res_cv rfl (cv_bool (by exact (decide_eq_true (nodup_of_take (fun h => ((nodup_take_succ l h0 h8).1 h).2 h16))).symm))))
  ·refine esp K6 ?_
   refine ent_region ?_
   refine ent_o rfl (ok_add rfl rfl (by omega) (by omega)) ?_
   refine emm rfl ?_
   refine ent_nil ?_
   refine ent_again (s := (i)) (i + 1) ⟨(by first | rfl | assumption | omega | (simp_all; done) | grind), (by first | rfl | assumption | omega | (simp_all; done) | grind), ((nodup_take_succ l h0 h8).2 ⟨hn, h16⟩)⟩ (by first | omega | (dsimp only; omega)) (ent_rep ⟨rfl, rfl, rfl, rfl, trivial⟩ rfl)
 ·refine ent_exit ?_
  refine ent_k K2 ?_
  refine esk rfl ?_
  refine ent_ret ?_
  exact retR1 (.inr rfl) Try.results58 (resr_tmp (res_cv rfl (cv_bool (by exact (decide_eq_false (fun h => h (by rw [List.take_of_length_le (by omega)] at hn; exact hn))).symm))))

end Go.Proofs.Ytaipghchkamajaa

