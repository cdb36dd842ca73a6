/-
  Walks of functions of the program and the reference.
-/
import Derived.Test.YtcilbmggiahciaaGreatZ39
open Go Go.Cw
namespace Go.Proofs.YtcilbmggiahciaaGreat
open Tryz
set_option maxRecDepth 100000
set_option linter.unusedVariables false
set_option linter.unusedSimpArgs false

abbrev aClm (q : Clm) : AV := aAgg [aInt q.C.F.P, aInt q.C.F.M, aInts q.C.F.mod, aInt q.C.N, aRows q.C.Gen, aSl 3 true aLab q.L, aInts q.Y, aInts q.M, aInt q.S]

theorem proved_ok (c : Cod) (ls : List Lab) (y : List Int) (d : Bool) (h : prE c ls y d = 0) (h64 : ∀ t ∈ ls, -9223372036854775808 ≤ t.1 ∧ t.1 ≤ 9223372036854775807) : Ctr Tryz.prog 33 [aCod c, aSl 3 true aLab ls, aSl 1 false aInt y, aBool d] (aTup [aSp c, aInt 0]) := by
 have hpz := prE_zero h
 have hc0 := (opE_zero hpz.1).1
 refine ctr_of Tryz.call33 func33 rfl rfl ?_
 intro w O
 refine ent_lenC 0 2 rfl rfl (fun hlen0_2 => ?_)
 refine ent_lenC 0 4 rfl rfl (fun hlen0_4 => ?_)
 refine ent_len 1 rfl (fun hlen1 => ?_)
 refine ent_len 2 rfl (fun hlen2 => ?_)
 refine esr rfl fun _ K1 => ?_
 refine ent_boxS rfl rfl (AllOne.mem ⟨(one_int _), (one_int _), one_sl, (one_int _), one_sl, trivial⟩) (fun b4_1 => ?_)
 refine emm rfl ?_
 refine enk K1 ?_
 refine esr rfl fun _ K2 => ?_
 refine ent_o rfl (ok_loadBS (k := 0) ti27 rfl rfl rfl) ?_
 refine emm rfl ?_
 refine ent_o rfl (ok_call (cso_ok c y d hpz.1) rfl) ?_
 refine emm rfl ?_
 refine ent_o rfl (ok_extract rfl rfl) ?_
 refine ent_o rfl (ok_extract rfl rfl) ?_
 refine emm rfl ?_
 refine enk K2 ?_
 refine ent_seq fun _ K3 => ?_
 refine esr rfl fun _ K4 => ?_
 refine ent_o rfl (ok_neq rfl rfl) ?_
 refine enk K4 ?_
 refine ent_condFP rfl (by decide) ?_
 refine esp K3 ?_
 refine ent_seq fun _ K5 => ?_
 refine esr rfl fun _ K6 => ?_
 refine ent_o rfl (ok_call (proves_ok c ls hc0 ‹_›) rfl) ?_
 refine ent_o rfl (ok_notD rfl) ?_
 refine enk K6 ?_
 refine ent_condD rfl (fun h25 => ?_) (fun h25 => ?_)
 ·exact absurd hpz.2 h25
 refine esp K5 ?_
 refine esk rfl ?_
 refine ent_ret ?_
 exact retR2 (.inr rfl) results33 (resr_tmp (res_cv rfl (cv_id sub_x))) (resr_tmp (res_cv rfl (cv_int rfl)))

theorem proved_noA (c : Cod) (ls : List Lab) (y : List Int) (d : Bool) (h : opE c y d ≠ 0) : Ctr Tryz.prog 33 [aCod c, aSl 3 true aLab ls, aSl 1 false aInt y, aBool d] (aTup [aEx (.pointer none), aInt (prE c ls y d)]) := by
 refine ctr_of Tryz.call33 func33 rfl rfl ?_
 intro w O
 refine ent_lenC 0 2 rfl rfl (fun hlen0_2 => ?_)
 refine ent_lenC 0 4 rfl rfl (fun hlen0_4 => ?_)
 refine ent_len 1 rfl (fun hlen1 => ?_)
 refine ent_len 2 rfl (fun hlen2 => ?_)
 refine esr rfl fun _ K1 => ?_
 refine ent_boxS rfl rfl (AllOne.mem ⟨(one_int _), (one_int _), one_sl, (one_int _), one_sl, trivial⟩) (fun b4_1 => ?_)
 refine emm rfl ?_
 refine enk K1 ?_
 refine esr rfl fun _ K2 => ?_
 refine ent_o rfl (ok_loadBS (k := 0) ti27 rfl rfl rfl) ?_
 refine emm rfl ?_
 refine ent_o rfl (ok_call (cso_no c y d h) rfl) ?_
 refine emm rfl ?_
 refine ent_o rfl (ok_extract rfl rfl) ?_
 refine ent_o rfl (ok_extract rfl rfl) ?_
 refine emm rfl ?_
 refine enk K2 ?_
 refine ent_seq fun _ K3 => ?_
 refine esr rfl fun _ K4 => ?_
 refine ent_o rfl (ok_neq rfl rfl) ?_
 refine enk K4 ?_
 refine ent_condD rfl (fun h20 => ?_) (fun h20 => ?_)
 ·refine esk rfl ?_
  refine ent_ret ?_
  exact retR2 (.inr rfl) results33 (resr_tmp (res_cv rfl (cv_id sub_x))) (resr_tmp (res_cv rfl (cv_int (by exact (prE_op h).symm))))
 exact absurd (Classical.not_not.1 h20) h

theorem proved_noB (c : Cod) (ls : List Lab) (y : List Int) (d : Bool) (h : opE c y d = 0) (h2 : ¬ Prv c ls) (h64 : ∀ t ∈ ls, -9223372036854775808 ≤ t.1 ∧ t.1 ≤ 9223372036854775807) : Ctr Tryz.prog 33 [aCod c, aSl 3 true aLab ls, aSl 1 false aInt y, aBool d] (aTup [aEx (.pointer none), aInt (prE c ls y d)]) := by
 have hc0 := (opE_zero h).1
 refine ctr_of Tryz.call33 func33 rfl rfl ?_
 intro w O
 refine ent_lenC 0 2 rfl rfl (fun hlen0_2 => ?_)
 refine ent_lenC 0 4 rfl rfl (fun hlen0_4 => ?_)
 refine ent_len 1 rfl (fun hlen1 => ?_)
 refine ent_len 2 rfl (fun hlen2 => ?_)
 refine esr rfl fun _ K1 => ?_
 refine ent_boxS rfl rfl (AllOne.mem ⟨(one_int _), (one_int _), one_sl, (one_int _), one_sl, trivial⟩) (fun b4_1 => ?_)
 refine emm rfl ?_
 refine enk K1 ?_
 refine esr rfl fun _ K2 => ?_
 refine ent_o rfl (ok_loadBS (k := 0) ti27 rfl rfl rfl) ?_
 refine emm rfl ?_
 refine ent_o rfl (ok_call (cso_ok c y d h) rfl) ?_
 refine emm rfl ?_
 refine ent_o rfl (ok_extract rfl rfl) ?_
 refine ent_o rfl (ok_extract rfl rfl) ?_
 refine emm rfl ?_
 refine enk K2 ?_
 refine ent_seq fun _ K3 => ?_
 refine esr rfl fun _ K4 => ?_
 refine ent_o rfl (ok_neq rfl rfl) ?_
 refine enk K4 ?_
 refine ent_condFP rfl (by decide) ?_
 refine esp K3 ?_
 refine ent_seq fun _ K5 => ?_
 refine esr rfl fun _ K6 => ?_
 refine ent_o rfl (ok_call (proves_ok c ls hc0 ‹_›) rfl) ?_
 refine ent_o rfl (ok_notD rfl) ?_
 refine enk K6 ?_
 refine ent_condD rfl (fun h25 => ?_) (fun h25 => ?_)
 ·refine esk rfl ?_
  refine ent_ret ?_
  exact retR2 (.inr rfl) results33 (resr_tmp (res_cv rfl (cv_id sub_x))) (resr_tmp (res_cv rfl (cv_int (by exact (prE_no h h2).symm))))
 exact absurd (Classical.not_not.1 h25) h2

theorem proved_no (c : Cod) (ls : List Lab) (y : List Int) (d : Bool) (h : prE c ls y d ≠ 0) (h64 : ∀ t ∈ ls, -9223372036854775808 ≤ t.1 ∧ t.1 ≤ 9223372036854775807) : Ctr Tryz.prog 33 [aCod c, aSl 3 true aLab ls, aSl 1 false aInt y, aBool d] (aTup [aEx (.pointer none), aInt (prE c ls y d)]) := by
 by_cases ho : opE c y d = 0
 ·refine proved_noB c ls y d ho (fun hp => h ?_) h64
  unfold prE; rw [if_neg (by simp [ho]), if_pos hp]
 exact proved_noA c ls y d ho

end Go.Proofs.YtcilbmggiahciaaGreat

