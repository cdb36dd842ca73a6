/-
  Walks of functions of the program and the reference.
-/
import Derived.Test.YtcilbmggiahciaaGreatZ39
open Go Go.Cw
namespace Go.Proofs.YtcilbmggiahciaaGreat
open Tryz
set_option maxRecDepth 100000
set_option linter.unusedVariables false
set_option linter.unusedSimpArgs false

abbrev aClm (q:Clm):AV:=aAgg [aInt q.C.F.P,aInt q.C.F.M,aInts q.C.F.mod,aInt q.C.N,aRows q.C.Gen,aSl 3 true aLab q.L,aInts q.Y,aInts q.M,aInt q.S]

theorem proved_ok (c:Cod) (ls:List Lab) (y:List Int) (d:Bool) (h:prE c ls y d=0) (h64:∀t∈ls,-9223372036854775808<=t.1/\t.1<=9223372036854775807):Ctr Tryz.prog 33 [aCod c,aSl 3 true aLab ls,aSl 1 false aInt y,aBool d] (aTup [aSp c,aInt 0]):=by
 have hpz:=prE_zero h
 have hc0:=(opE_zero hpz.1).1
 refine A_p Tryz.call33 func33 rfl rfl ?_
 intro w O
 refine A_Y 0 2 rfl rfl (fun hlen0_2=>?_)
 refine A_Y 0 4 rfl rfl (fun hlen0_4=>?_)
 refine A_x 1 rfl (fun hlen1=>?_)
 refine A_x 2 rfl (fun hlen2=>?_)
 refine esr rfl fun _ K1=>?_
 refine A_h rfl rfl (AllOne.mem ⟨(A_F _),(A_F _),A_c,(A_F _),A_c,trivial⟩) (fun b4_1=>?_)
 refine emm rfl ?_
 refine enk K1 ?_
 refine esr rfl fun _ K2=>?_
 refine A_A rfl (A_P (k:=0) ti27 rfl rfl rfl) ?_
 refine emm rfl ?_
 refine A_A rfl (A_S (cso_ok c y d hpz.1) rfl) ?_
 refine emm rfl ?_
 refine A_A rfl (A_Q rfl rfl) ?_
 refine A_A rfl (A_Q rfl rfl) ?_
 refine emm rfl ?_
 refine enk K2 ?_
 refine A_C fun _ K3=>?_
 refine esr rfl fun _ K4=>?_
 refine A_A rfl (A_y rfl rfl) ?_
 refine enk K4 ?_
 refine ent_condFP rfl (by decide) ?_
 refine esp K3 ?_
 refine A_C fun _ K5=>?_
 refine esr rfl fun _ K6=>?_
 refine A_A rfl (A_S (proves_ok c ls hc0 ‹_›) rfl) ?_
 refine A_A rfl (ok_notD rfl) ?_
 refine enk K6 ?_
 refine A_E rfl (fun h25=>?_) (fun h25=>?_)
 ·exact absurd hpz.2 h25
 refine esp K5 ?_
 refine esk rfl ?_
 refine A_R ?_
 exact retR2 (.inr rfl) results33 (A_H (A_T rfl (cv_id sub_x))) (A_H (A_T rfl (A_a rfl)))

theorem proved_noA (c:Cod) (ls:List Lab) (y:List Int) (d:Bool) (h:opE c y d≠0):Ctr Tryz.prog 33 [aCod c,aSl 3 true aLab ls,aSl 1 false aInt y,aBool d] (aTup [aEx (.pointer none),aInt (prE c ls y d)]):=by
 refine A_p Tryz.call33 func33 rfl rfl ?_
 intro w O
 refine A_Y 0 2 rfl rfl (fun hlen0_2=>?_)
 refine A_Y 0 4 rfl rfl (fun hlen0_4=>?_)
 refine A_x 1 rfl (fun hlen1=>?_)
 refine A_x 2 rfl (fun hlen2=>?_)
 refine esr rfl fun _ K1=>?_
 refine A_h rfl rfl (AllOne.mem ⟨(A_F _),(A_F _),A_c,(A_F _),A_c,trivial⟩) (fun b4_1=>?_)
 refine emm rfl ?_
 refine enk K1 ?_
 refine esr rfl fun _ K2=>?_
 refine A_A rfl (A_P (k:=0) ti27 rfl rfl rfl) ?_
 refine emm rfl ?_
 refine A_A rfl (A_S (cso_no c y d h) rfl) ?_
 refine emm rfl ?_
 refine A_A rfl (A_Q rfl rfl) ?_
 refine A_A rfl (A_Q rfl rfl) ?_
 refine emm rfl ?_
 refine enk K2 ?_
 refine A_C fun _ K3=>?_
 refine esr rfl fun _ K4=>?_
 refine A_A rfl (A_y rfl rfl) ?_
 refine enk K4 ?_
 refine A_E rfl (fun h20=>?_) (fun h20=>?_)
 ·refine esk rfl ?_
  refine A_R ?_
  exact retR2 (.inr rfl) results33 (A_H (A_T rfl (cv_id sub_x))) (A_H (A_T rfl (A_a (by exact (prE_op h).symm))))
 exact absurd (Classical.not_not.1 h20) h

theorem proved_noB (c:Cod) (ls:List Lab) (y:List Int) (d:Bool) (h:opE c y d=0) (h2:¬Prv c ls) (h64:∀t∈ls,-9223372036854775808<=t.1/\t.1<=9223372036854775807):Ctr Tryz.prog 33 [aCod c,aSl 3 true aLab ls,aSl 1 false aInt y,aBool d] (aTup [aEx (.pointer none),aInt (prE c ls y d)]):=by
 have hc0:=(opE_zero h).1
 refine A_p Tryz.call33 func33 rfl rfl ?_
 intro w O
 refine A_Y 0 2 rfl rfl (fun hlen0_2=>?_)
 refine A_Y 0 4 rfl rfl (fun hlen0_4=>?_)
 refine A_x 1 rfl (fun hlen1=>?_)
 refine A_x 2 rfl (fun hlen2=>?_)
 refine esr rfl fun _ K1=>?_
 refine A_h rfl rfl (AllOne.mem ⟨(A_F _),(A_F _),A_c,(A_F _),A_c,trivial⟩) (fun b4_1=>?_)
 refine emm rfl ?_
 refine enk K1 ?_
 refine esr rfl fun _ K2=>?_
 refine A_A rfl (A_P (k:=0) ti27 rfl rfl rfl) ?_
 refine emm rfl ?_
 refine A_A rfl (A_S (cso_ok c y d h) rfl) ?_
 refine emm rfl ?_
 refine A_A rfl (A_Q rfl rfl) ?_
 refine A_A rfl (A_Q rfl rfl) ?_
 refine emm rfl ?_
 refine enk K2 ?_
 refine A_C fun _ K3=>?_
 refine esr rfl fun _ K4=>?_
 refine A_A rfl (A_y rfl rfl) ?_
 refine enk K4 ?_
 refine ent_condFP rfl (by decide) ?_
 refine esp K3 ?_
 refine A_C fun _ K5=>?_
 refine esr rfl fun _ K6=>?_
 refine A_A rfl (A_S (proves_ok c ls hc0 ‹_›) rfl) ?_
 refine A_A rfl (ok_notD rfl) ?_
 refine enk K6 ?_
 refine A_E rfl (fun h25=>?_) (fun h25=>?_)
 ·refine esk rfl ?_
  refine A_R ?_
  exact retR2 (.inr rfl) results33 (A_H (A_T rfl (cv_id sub_x))) (A_H (A_T rfl (A_a (by exact (prE_no h h2).symm))))
 exact absurd (Classical.not_not.1 h25) h2

theorem proved_no (c:Cod) (ls:List Lab) (y:List Int) (d:Bool) (h:prE c ls y d≠0) (h64:∀t∈ls,-9223372036854775808<=t.1/\t.1<=9223372036854775807):Ctr Tryz.prog 33 [aCod c,aSl 3 true aLab ls,aSl 1 false aInt y,aBool d] (aTup [aEx (.pointer none),aInt (prE c ls y d)]):=by
 by_cases ho:opE c y d=0
 ·refine proved_noB c ls y d ho (fun hp=>h ?_) h64
  unfold prE;rw [if_neg (by simp [ho]),if_pos hp]
 exact proved_noA c ls y d ho

end Go.Proofs.YtcilbmggiahciaaGreat

