/-
  Walks of functions of the program and the reference.
-/
import Derived.Test.YtaipghchkamajaaProg
import Derived.Test.YtaipghchkamajaaTab
import Derived.Test.YtaipghchkamajaaPlainJ1
import Derived.Test.YtaipghchkamajaaCzLib
import Derived.Test.YtaipghchkamajaaA2
import Derived.Test.YtaipghchkamajaaA4
import Derived.Test.YtaipghchkamajaaA5
import Derived.Test.YtaipghchkamajaaA6
import Derived.Test.YtaipghchkamajaaA7
import Derived.Test.YtaipghchkamajaaA9
import Derived.Test.YtaipghchkamajaaA10
import Derived.Test.YtaipghchkamajaaB1
import Derived.Test.YtaipghchkamajaaC11
import Derived.Test.YtaipghchkamajaaC12
import Derived.Test.YtaipghchkamajaaC13
open Go Go.Cw
namespace Go.Proofs.Ytaipghchkamajaa
set_option maxRecDepth 100000
set_option linter.unusedVariables false
set_option linter.unusedSimpArgs false

theorem open_no (f : Fld) (l : List Mat) (hN : opErr f l ≠ 0) : Ctr Try.prog 94 [aFld f, aSl 2 true aMat l] (aTup [aEx (.pointer none), aInt (opErr f l)]) := by
 refine ctr_of Try.call94 Try.func94 rfl rfl ?_
 intro w O
 refine ent_lenC 0 2 rfl rfl (fun hlen0_2 => ?_)
 refine ent_len 1 rfl (fun hlen1 => ?_)
 refine esr rfl fun _ K1 => ?_
 refine ent_boxS rfl rfl (AllOne.mem ⟨(one_int _), (one_int _), one_sl, trivial⟩) (fun b2_1 => ?_)
 refine emm rfl ?_
 refine enk K1 ?_
 refine esr rfl fun _ K2 => ?_
 refine ent_o rfl (ok_loadBS (k := 0) ti51 rfl rfl rfl) ?_
 rcases Classical.em (FOk f) with hF | hF
 ·refine ent_o rfl (ok_call (CtrF.ctr (New_ok f hF)) rfl) ?_
  refine emm rfl ?_
  refine ent_o rfl (ok_extract rfl rfl) ?_
  refine ent_o rfl (ok_extract rfl rfl) ?_
  refine emm rfl ?_
  refine enk K2 ?_
  refine ent_seq fun _ K3 => ?_
  refine esr rfl fun _ K4 => ?_
  refine ent_o rfl (ok_neq rfl rfl) ?_
  refine enk K4 ?_
  refine ent_condFP rfl (by decide) ?_
  refine esp K3 ?_
  refine ent_seq fun _ K5 => ?_
  refine esr rfl fun _ K6 => ?_
  refine ent_o rfl (ok_len rfl Try.runUnderlying152 rfl) ?_
  refine emm rfl ?_
  refine enk K6 ?_
  refine ent_block ?_
  refine ent_loop (fun (i : Int) => (⟨[(6, aGF f), (18, aSl 2 true aMat l), (19, aInt (↑l.length : Int)), (20, aInt i)], [oBox b2_1 51 [aInt f.P, aInt f.M, aSl 1 false aInt f.mod]]⟩ : St)) (fun (i : Int) => (0 ≤ i) ∧ (i ≤ l.length) ∧ (∀ m ∈ l.take i.toNat, matErr f m = 0)) (fun (i : Int) => (l.length - i).toNat) 0 ⟨(by first | rfl | assumption | omega | (simp_all; done) | grind), (by first | rfl | assumption | omega | (simp_all; done) | grind), (by simp)⟩ (ent_rep ⟨rfl, rfl, rfl, slot_av (av_int (show 0 = (0 : Int) by first | rfl | assumption | omega | (simp_all; done) | grind)), trivial⟩ rfl) ?_
  rintro i ⟨h0, h1, hp⟩
  show Ent _ ⟨_, [_]⟩ _
  refine esr rfl fun _ K7 => ?_
  refine ent_o rfl (ok_lss rfl rfl) ?_
  refine enk K7 ?_
  refine ent_seq fun _ K8 => ?_
  refine ent_condD rfl (fun h21 => ?_) (fun h21 => ?_)
  ·refine esp K8 ?_
   refine ent_seq fun _ K9 => ?_
   refine ent_block ?_
   refine esr rfl fun _ K10 => ?_
   refine ent_o rfl (ok_index Mat.no sl152 rfl rfl (by omega) (by omega)) ?_
   refine ent_o rfl (ok_load ti107 rfl) ?_
   refine ent_alloc (z := .agg #[.int .i64 0, .slice none 0 0]) [aInt 0, aEx (.slice none 0 0)] rfl zv107 rfl zc107 (fun b9_2 => ?_)
   refine ent_storeBS (k := 0) Try.sizeOf107 rfl rfl rfl (AllOne.mem ⟨(one_int _), one_sl, trivial⟩) rfl rfl ?_
   show Ent _ ⟨_, [_, _]⟩ _
   refine enk K10 ?_
   refine esr rfl fun _ K11 => ?_
   refine ent_o rfl (ok_loadBS (k := 0) ti107 rfl rfl rfl) ?_
   refine ent_o rfl (ok_call (mcheck_ok f (ix Mat.no l i)) rfl) ?_
   refine emm rfl ?_
   refine enk K11 ?_
   refine esr rfl fun _ K12 => ?_
   refine ent_o rfl (ok_neq rfl rfl) ?_
   refine enk K12 ?_
   refine ent_condD rfl (fun h28 => ?_) (fun h28 => ?_)
   ·refine esk rfl ?_
    refine ent_ret ?_
    exact retR2 (.inr rfl) Try.results94 (resr_tmp (res_cv rfl (cv_id sub_x))) (resr_tmp (res_cv rfl (cv_int (by first | (unfold opErr; rw [if_pos hF]; exact (matsErr_at h0 h21 hp h28).symm) | (unfold opErr; exact (if_neg hF).symm)))))
   ·refine esp K9 ?_
    refine ent_region ?_
    refine ent_o rfl (ok_add rfl rfl (by omega) (by omega)) ?_
    refine emm rfl ?_
    refine ent_nil ?_
    refine ent_drop 0 ?_
    refine ent_again (s := (i)) (i + 1) ⟨(by first | rfl | assumption | omega | (simp_all; done) | grind), (by first | rfl | assumption | omega | (simp_all; done) | grind), (not_take_succ Mat.no h0 h21 hp (Classical.not_not.1 h28))⟩ (by first | omega | (dsimp only; omega)) (ent_rep ⟨rfl, rfl, rfl, rfl, trivial⟩ rfl)
  ·exact absurd (opErr_zero.2 ⟨hF, fun m hm => by rw [List.take_of_length_le (by omega)] at hp; exact hp m hm⟩) hN
 ·refine ent_o rfl (ok_call (New_no f hF) rfl) ?_
  refine emm rfl ?_
  refine ent_o rfl (ok_extract rfl rfl) ?_
  refine ent_o rfl (ok_extract rfl rfl) ?_
  refine emm rfl ?_
  refine enk K2 ?_
  refine ent_seq fun _ K14 => ?_
  refine esr rfl fun _ K15 => ?_
  refine ent_o rfl (ok_neq rfl rfl) ?_
  refine enk K15 ?_
  refine ent_condTP rfl (by decide) ?_
  refine esk rfl ?_
  refine ent_ret ?_
  exact retR2 (.inr rfl) Try.results94 (resr_tmp (res_cv rfl (cv_id sub_x))) (resr_tmp (res_cv rfl (cv_int (by first | (unfold opErr; rw [if_pos hF]; exact (matsErr_at h0 h21 hp h28).symm) | (unfold opErr; exact (if_neg hF).symm)))))
end Go.Proofs.Ytaipghchkamajaa

