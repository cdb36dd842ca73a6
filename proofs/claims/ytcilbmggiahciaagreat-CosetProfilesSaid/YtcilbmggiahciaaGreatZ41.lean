/-
  Walks of functions of the program and the reference.
-/
import Derived.Test.YtcilbmggiahciaaGreatProg
import Derived.Test.YtcilbmggiahciaaGreatZTab
import Derived.Test.YtcilbmggiahciaaGreatPlainJ2
import Derived.Test.YtcilbmggiahciaaGreatCiLib
import Derived.Test.YtcilbmggiahciaaGreatZ4
import Derived.Test.YtcilbmggiahciaaGreatZ5
import Derived.Test.YtcilbmggiahciaaGreatZ6
import Derived.Test.YtcilbmggiahciaaGreatZ9
import Derived.Test.YtcilbmggiahciaaGreatZ1
import Derived.Test.YtcilbmggiahciaaGreatZ10
import Derived.Test.YtcilbmggiahciaaGreatZ11
import Derived.Test.YtcilbmggiahciaaGreatZ12
import Derived.Test.YtcilbmggiahciaaGreatZ13
import Derived.Test.YtcilbmggiahciaaGreatZ14
import Derived.Test.YtcilbmggiahciaaGreatZ15
import Derived.Test.YtcilbmggiahciaaGreatZ18
import Derived.Test.YtcilbmggiahciaaGreatZ19
import Derived.Test.YtcilbmggiahciaaGreatZ20
import Derived.Test.YtcilbmggiahciaaGreatZ31
import Derived.Test.YtcilbmggiahciaaGreatZ32
import Derived.Test.YtcilbmggiahciaaGreatZ33
import Derived.Test.YtcilbmggiahciaaGreatZ34
import Derived.Test.YtcilbmggiahciaaGreatZ35
import Derived.Test.YtcilbmggiahciaaGreatZ36
import Derived.Test.YtcilbmggiahciaaGreatZ37
import Derived.Test.YtcilbmggiahciaaGreatZ38
import Derived.Test.YtcilbmggiahciaaGreatZ39
open Go Go.Cw
namespace Go.Proofs.YtcilbmggiahciaaGreat
set_option maxRecDepth 100000
set_option linter.unusedVariables false
set_option linter.unusedSimpArgs false

abbrev aClm (q : Clm) : AV := aAgg [aInt q.C.F.P, aInt q.C.F.M, aInts q.C.F.mod, aInt q.C.N, aRows q.C.Gen, aSl 3 true aLab q.L, aInts q.Y, aInts q.M, aInt q.S]

theorem proved_ok (c : Cod) (ls : List Lab) (y : List Int) (d : Bool) (h : prE c ls y d = 0) (h64 : ∀ t ∈ ls, -9223372036854775808 ≤ t.1 ∧ t.1 ≤ 9223372036854775807) : Ctr Tryz.prog 33 [aCod c, aSl 3 true aLab ls, aSl 1 false aInt y, aBool d] (aTup [aSp c, aInt 0]) := by
 have hpz := prE_zero h
 have hc0 := (opE_zero hpz.1).1
 refine ctr_of Tryz.call33 Tryz.func33 rfl rfl ?_
 intro w O
 refine ent_lenC 0 2 rfl rfl (fun hlen0_2 => ?_)
 refine ent_lenC 0 4 rfl rfl (fun hlen0_4 => ?_)
 refine ent_len 1 rfl (fun hlen1 => ?_)
 refine ent_len 2 rfl (fun hlen2 => ?_)
 refine esr rfl fun _ K1 => ?_
 refine ent_boxS rfl rfl (AllOne.mem ⟨(one_int _), (one_int _), one_sl, (one_int _), one_sl, trivial⟩) (fun b4_1 => ?_)
 refine emm rfl ?_
 refine enk K1 ?_
 refine esr rfl fun _ K2 => ?_
 refine ent_o rfl (ok_loadBS (k := 0) ti27 rfl rfl rfl) ?_
 refine emm rfl ?_
 refine ent_o rfl (ok_call (cso_ok c y d hpz.1) rfl) ?_
 refine emm rfl ?_
 refine ent_o rfl (ok_extract rfl rfl) ?_
 refine ent_o rfl (ok_extract rfl rfl) ?_
 refine emm rfl ?_
 refine enk K2 ?_
 refine ent_seq fun _ K3 => ?_
 refine esr rfl fun _ K4 => ?_
 refine ent_o rfl (ok_neq rfl rfl) ?_
 refine enk K4 ?_
 refine ent_condFP rfl (by decide) ?_
 refine esp K3 ?_
 refine ent_seq fun _ K5 => ?_
 refine esr rfl fun _ K6 => ?_
 refine ent_o rfl (ok_call (proves_ok c ls hc0 ‹_›) rfl) ?_
 refine ent_o rfl (ok_notD rfl) ?_
 refine enk K6 ?_
 refine ent_condD rfl (fun h25 => ?_) (fun h25 => ?_)
 ·exact absurd hpz.2 h25
 ·refine esp K5 ?_
  refine esk rfl ?_
  refine ent_ret ?_
  exact retR2 (.inr rfl) Tryz.results33 (resr_tmp (res_cv rfl (cv_id sub_x))) (resr_tmp (res_cv rfl (cv_int rfl)))

theorem proved_noA (c : Cod) (ls : List Lab) (y : List Int) (d : Bool) (h : opE c y d ≠ 0) : Ctr Tryz.prog 33 [aCod c, aSl 3 true aLab ls, aSl 1 false aInt y, aBool d] (aTup [aEx (.pointer none), aInt (prE c ls y d)]) := by
 refine ctr_of Tryz.call33 Tryz.func33 rfl rfl ?_
 intro w O
 refine ent_lenC 0 2 rfl rfl (fun hlen0_2 => ?_)
 refine ent_lenC 0 4 rfl rfl (fun hlen0_4 => ?_)
 refine ent_len 1 rfl (fun hlen1 => ?_)
 refine ent_len 2 rfl (fun hlen2 => ?_)
 refine esr rfl fun _ K1 => ?_
 refine ent_boxS rfl rfl (AllOne.mem ⟨(one_int _), (one_int _), one_sl, (one_int _), one_sl, trivial⟩) (fun b4_1 => ?_)
 refine emm rfl ?_
 refine enk K1 ?_
 refine esr rfl fun _ K2 => ?_
 refine ent_o rfl (ok_loadBS (k := 0) ti27 rfl rfl rfl) ?_
 refine emm rfl ?_
 refine ent_o rfl (ok_call (cso_no c y d h) rfl) ?_
 refine emm rfl ?_
 refine ent_o rfl (ok_extract rfl rfl) ?_
 refine ent_o rfl (ok_extract rfl rfl) ?_
 refine emm rfl ?_
 refine enk K2 ?_
 refine ent_seq fun _ K3 => ?_
 refine esr rfl fun _ K4 => ?_
 refine ent_o rfl (ok_neq rfl rfl) ?_
 refine enk K4 ?_
 refine ent_condD rfl (fun h20 => ?_) (fun h20 => ?_)
 ·refine esk rfl ?_
  refine ent_ret ?_
  exact retR2 (.inr rfl) Tryz.results33 (resr_tmp (res_cv rfl (cv_id sub_x))) (resr_tmp (res_cv rfl (cv_int (by exact (prE_op h).symm))))
 ·exact absurd (Classical.not_not.1 h20) h

theorem proved_noB (c : Cod) (ls : List Lab) (y : List Int) (d : Bool) (h : opE c y d = 0) (h2 : ¬ Prv c ls) (h64 : ∀ t ∈ ls, -9223372036854775808 ≤ t.1 ∧ t.1 ≤ 9223372036854775807) : Ctr Tryz.prog 33 [aCod c, aSl 3 true aLab ls, aSl 1 false aInt y, aBool d] (aTup [aEx (.pointer none), aInt (prE c ls y d)]) := by
 have hc0 := (opE_zero h).1
 refine ctr_of Tryz.call33 Tryz.func33 rfl rfl ?_
 intro w O
 refine ent_lenC 0 2 rfl rfl (fun hlen0_2 => ?_)
 refine ent_lenC 0 4 rfl rfl (fun hlen0_4 => ?_)
 refine ent_len 1 rfl (fun hlen1 => ?_)
 refine ent_len 2 rfl (fun hlen2 => ?_)
 refine esr rfl fun _ K1 => ?_
 refine ent_boxS rfl rfl (AllOne.mem ⟨(one_int _), (one_int _), one_sl, (one_int _), one_sl, trivial⟩) (fun b4_1 => ?_)
 refine emm rfl ?_
 refine enk K1 ?_
 refine esr rfl fun _ K2 => ?_
 refine ent_o rfl (ok_loadBS (k := 0) ti27 rfl rfl rfl) ?_
 refine emm rfl ?_
 refine ent_o rfl (ok_call (cso_ok c y d h) rfl) ?_
 refine emm rfl ?_
 refine ent_o rfl (ok_extract rfl rfl) ?_
 refine ent_o rfl (ok_extract rfl rfl) ?_
 refine emm rfl ?_
 refine enk K2 ?_
 refine ent_seq fun _ K3 => ?_
 refine esr rfl fun _ K4 => ?_
 refine ent_o rfl (ok_neq rfl rfl) ?_
 refine enk K4 ?_
 refine ent_condFP rfl (by decide) ?_
 refine esp K3 ?_
 refine ent_seq fun _ K5 => ?_
 refine esr rfl fun _ K6 => ?_
 refine ent_o rfl (ok_call (proves_ok c ls hc0 ‹_›) rfl) ?_
 refine ent_o rfl (ok_notD rfl) ?_
 refine enk K6 ?_
 refine ent_condD rfl (fun h25 => ?_) (fun h25 => ?_)
 ·refine esk rfl ?_
  refine ent_ret ?_
  exact retR2 (.inr rfl) Tryz.results33 (resr_tmp (res_cv rfl (cv_id sub_x))) (resr_tmp (res_cv rfl (cv_int (by exact (prE_no h h2).symm))))
 ·exact absurd (Classical.not_not.1 h25) h2

theorem proved_no (c : Cod) (ls : List Lab) (y : List Int) (d : Bool) (h : prE c ls y d ≠ 0) (h64 : ∀ t ∈ ls, -9223372036854775808 ≤ t.1 ∧ t.1 ≤ 9223372036854775807) : Ctr Tryz.prog 33 [aCod c, aSl 3 true aLab ls, aSl 1 false aInt y, aBool d] (aTup [aEx (.pointer none), aInt (prE c ls y d)]) := by
 by_cases ho : opE c y d = 0
 ·refine proved_noB c ls y d ho (fun hp => h ?_) h64
  unfold prE; rw [if_neg (by simp [ho]), if_pos hp]
 ·exact proved_noA c ls y d ho

theorem cPrf_yes (c : Cod) (ls : List Lab) (h64 : ∀ t ∈ ls, -9223372036854775808 ≤ t.1 ∧ t.1 ≤ 9223372036854775807) (ho : chkL c ls = 0) : Ctr Tryz.prog 11 [aCod c, aSl 3 true aLab ls] (aTup [aSl 1 false aInt (prfL c ls), aInt (chkL c ls)]) := by
 have hcz := chk_zero ho
 have hk := (csE_zero.1 hcz.1).1
 have hpv := hcz.2
 have hn64 := hk.n64
 have hn1 := hk.n1
 have hct := (csE_zero.1 hcz.1).2
 have hlen := hpv.len
 refine ctr_of Tryz.call11 Tryz.func11 rfl rfl ?_
 intro w O
 refine ent_lenC 0 2 rfl rfl (fun hlen0_2 => ?_)
 refine ent_lenC 0 4 rfl rfl (fun hlen0_4 => ?_)
 refine ent_len 1 rfl (fun hlen1 => ?_)
 refine esr rfl fun _ K1 => ?_
 refine ent_boxS rfl rfl (AllOne.mem ⟨(one_int _), (one_int _), one_sl, (one_int _), one_sl, trivial⟩) (fun b2_1 => ?_)
 refine emm rfl ?_
 refine enk K1 ?_
 refine ent_seq fun _ K2 => ?_
 refine esr rfl fun _ K3 => ?_
 refine ent_o rfl (ok_loadBS (k := 0) ti27 rfl rfl rfl) ?_
 refine emm rfl ?_
 refine ent_o rfl (ok_callA (proved_ok c ls [] false ho ‹_›) ⟨arg_a rfl (cv_id sub_refl), arg_a rfl (cv_id sub_refl), arg_a rfl (cv_nil (fun _ => rfl) rfl), arg_a rfl (cv_id sub_refl), trivial⟩) ?_
 refine emm rfl ?_
 refine ent_o rfl (ok_extract rfl rfl) ?_
 refine ent_o rfl (ok_extract rfl rfl) ?_
 refine emm rfl ?_
 refine enk K3 ?_
 refine esr rfl fun _ K4 => ?_
 refine ent_o rfl (ok_neq rfl rfl) ?_
 refine enk K4 ?_
 refine ent_condFP rfl (by decide) ?_
 refine esp K2 ?_
 refine esr rfl fun _ K5 => ?_
 refine ent_o rfl (ok_fieldAddrEx Tryz.runUnderlying27 rfl Tryz.sizeOf3 (by decide) rfl) ?_
 refine ent_o rfl (ok_loadB (k := 0) Tryz.isAgg3 rfl rfl rfl) ?_
 refine ent_o rfl (ok_add rfl rfl (by omega) (by omega)) ?_
 refine ent_make aInt 0 rfl vt22 rfl rfl (by omega) (by omega) (by omega) (fun _ _ => rfl) (AllV.mem ⟨rfl, trivial⟩) (fun b23_2 => ?_)
 refine emm rfl ?_
 refine enk K5 ?_
 refine ent_seq fun _ K6 => ?_
 refine esr rfl fun _ K7 => ?_
 refine ent_o rfl (ok_len rfl Tryz.runUnderlying28 rfl) ?_
 refine emm rfl ?_
 refine enk K7 ?_
 refine ent_block ?_
 refine ent_loop (fun (i : Int) => (⟨[(8, aEx (vec (some b23_2) ((c.N + 1).toNat) ((c.N + 1).toNat))), (24, aSl 3 true aLab ls), (25, aInt (↑ls.length : Int)), (26, aInt i)], [oVec (some b23_2) ((c.N + 1).toNat) 3 1 false aInt (hisTo (c.N + 1) (fun x => (lbl ls x).1) i.toNat), oBox b2_1 27 [aInt c.F.P, aInt c.F.M, aSl 1 false aInt c.F.mod, aInt c.N, aSl 1 false aInts c.Gen]]⟩ : St)) (fun (i : Int) => (0 ≤ i) ∧ (i ≤ ls.length)) (fun (i : Int) => (ls.length - i).toNat) 0 ⟨(by omega), (by omega)⟩ (ent_rep ⟨rfl, rfl, rfl, slot_av (av_int (show 0 = (0 : Int) by rfl)), trivial⟩ (own_cons (own_vec (show hisTo (c.N + 1) (fun x => (lbl ls x).1) (0 : Int).toNat = List.replicate ((c.N + 1).toNat) 0 by rfl)) (rfl))) ?_
 rintro i ⟨h0, h1⟩
 show Ent _ ⟨_, [_, _]⟩ _
 have lh := length_hisTo (c.N + 1) (fun x => (lbl ls x).1) i.toNat
 refine esr rfl fun _ K8 => ?_
 refine ent_o rfl (ok_lss rfl rfl) ?_
 refine enk K8 ?_
 refine ent_seq fun _ K9 => ?_
 refine ent_condD rfl (fun h27 => ?_) (fun h27 => ?_)
 ·have hrg : 0 ≤ (ix (0, 0, 0) ls i).1 ∧ (ix (0, 0, 0) ls i).1 < c.N + 1 := prv_rng hk hpv h0 (by omega)
  have hhb := his_bd (n := c.N + 1) (g := fun x => (lbl ls x).1) (k := i.toNat) (j := (ix (0, 0, 0) ls i).1) (fun z z0 z1 => prv_rng hk hpv z0 (by omega)) hrg.1 hrg.2
  refine esp K9 ?_
  refine ent_seq fun _ K10 => ?_
  refine ent_block ?_
  refine esr rfl fun _ K11 => ?_
  refine ent_o rfl (ok_index (0, 0, 0) sl28 rfl rfl (by omega) (by omega)) ?_
  refine ent_o rfl (ok_load ti45 rfl) ?_
  refine ent_alloc (z := .agg #[.int .i64 0, .int .i64 0, .int .i64 0]) [aInt 0, aInt 0, aInt 0] rfl zv45 rfl zc45 (fun b10_3 => ?_)
  refine ent_storeBS (k := 0) Tryz.sizeOf45 rfl rfl rfl (AllOne.mem ⟨(one_int _), (one_int _), (one_int _), trivial⟩) rfl rfl ?_
  show Ent _ ⟨_, [_, _, _]⟩ _
  refine enk K11 ?_
  refine ent_region ?_
  refine emm rfl ?_
  refine ent_o rfl (ok_fieldAddrEx Tryz.runUnderlying45 rfl Tryz.sizeOf3 (by decide) rfl) ?_
  refine ent_o rfl (ok_loadB (k := 0) Tryz.isAgg3 rfl rfl rfl) ?_
  refine ent_o rfl (ok_indexV sl22 rfl rfl (by omega) (by omega)) ?_
  refine ent_o rfl (ok_loadV (k := 1) 0 ti3 rfl rfl (by omega) (by omega)) ?_
  refine ent_o rfl (ok_add rfl rfl (by omega) (by omega)) ?_
  refine ent_o rfl (ok_indexV sl22 rfl rfl (by omega) (by omega)) ?_
  refine ent_storeV (k := 1) (z := (ix 0 (hisTo (c.N + 1) (fun x => (lbl ls x).1) i.toNat) ((ix (0, 0, 0) ls i).1)) + 1) ti3 rfl rfl rfl (elem_one (one_int _)) (by omega) (by omega) ?_
  refine enk K10 ?_
  refine ent_region ?_
  refine ent_o rfl (ok_add rfl rfl (by omega) (by omega)) ?_
  refine emm rfl ?_
  refine ent_nil ?_
  refine ent_drop 0 ?_
  refine ent_again (s := (i)) (i + 1) ⟨(by omega), ‹_›⟩ (by omega) (ent_rep ⟨rfl, rfl, rfl, rfl, trivial⟩ (own_cons (own_vec (show hisTo (c.N + 1) (fun x => (lbl ls x).1) (i + 1).toNat = List.set (hisTo (c.N + 1) (fun x => (lbl ls x).1) i.toNat) ((ix (0, 0, 0) ls i).1).toNat ((ix 0 (hisTo (c.N + 1) (fun x => (lbl ls x).1) i.toNat) ((ix (0, 0, 0) ls i).1)) + 1) by exact his_step h0)) (rfl)))
 ·refine ent_exit ?_
  refine ent_k K6 ?_
  refine esk rfl ?_
  refine ent_ret ?_
  exact retR2 (.inr rfl) Tryz.results11 (resr_tmp (res_cv rfl (cv_vec (k := 0) (off_x rfl) (by simp) (by unfold prfL; rw [if_pos ho]; congr 1; omega)))) (resr_tmp (res_cv rfl (cv_int (by exact ho.symm))))

theorem cPrf_no (c : Cod) (ls : List Lab) (h64 : ∀ t ∈ ls, -9223372036854775808 ≤ t.1 ∧ t.1 ≤ 9223372036854775807) (ho : chkL c ls ≠ 0) : Ctr Tryz.prog 11 [aCod c, aSl 3 true aLab ls] (aTup [aSl 1 false aInt (prfL c ls), aInt (chkL c ls)]) := by
 refine ctr_of Tryz.call11 Tryz.func11 rfl rfl ?_
 intro w O
 refine ent_lenC 0 2 rfl rfl (fun hlen0_2 => ?_)
 refine ent_lenC 0 4 rfl rfl (fun hlen0_4 => ?_)
 refine ent_len 1 rfl (fun hlen1 => ?_)
 refine esr rfl fun _ K1 => ?_
 refine ent_boxS rfl rfl (AllOne.mem ⟨(one_int _), (one_int _), one_sl, (one_int _), one_sl, trivial⟩) (fun b2_1 => ?_)
 refine emm rfl ?_
 refine enk K1 ?_
 refine ent_seq fun _ K2 => ?_
 refine esr rfl fun _ K3 => ?_
 refine ent_o rfl (ok_loadBS (k := 0) ti27 rfl rfl rfl) ?_
 refine emm rfl ?_
 refine ent_o rfl (ok_callA (proved_no c ls [] false ho ‹_›) ⟨arg_a rfl (cv_id sub_refl), arg_a rfl (cv_id sub_refl), arg_a rfl (cv_nil (fun _ => rfl) rfl), arg_a rfl (cv_id sub_refl), trivial⟩) ?_
 refine emm rfl ?_
 refine ent_o rfl (ok_extract rfl rfl) ?_
 refine ent_o rfl (ok_extract rfl rfl) ?_
 refine emm rfl ?_
 refine enk K3 ?_
 refine esr rfl fun _ K4 => ?_
 refine ent_o rfl (ok_neq rfl rfl) ?_
 refine enk K4 ?_
 refine ent_condD rfl (fun h18 => ?_) (fun h18 => ?_)
 ·refine esk rfl ?_
  refine ent_ret ?_
  exact retR2 (.inr rfl) Tryz.results11 (resr_tmp (res_cv rfl (cv_nil (fun _ => rfl) (by exact (if_neg ho).symm)))) (resr_tmp (res_cv rfl (cv_int rfl)))
 ·exact absurd (Classical.not_not.1 h18) ho

theorem cPrf_ok (c : Cod) (ls : List Lab) (h64 : ∀ t ∈ ls, -9223372036854775808 ≤ t.1 ∧ t.1 ≤ 9223372036854775807) : Ctr Tryz.prog 11 [aCod c, aSl 3 true aLab ls] (aTup [aSl 1 false aInt (prfL c ls), aInt (chkL c ls)]) := by
 by_cases ho : chkL c ls = 0
 ·exact cPrf_yes c ls h64 ho
 ·exact cPrf_no c ls h64 ho

theorem rPrf_ok (c : Cod) (ls : List Lab) (ho : chkL c ls = 0) : Ctr Tryz.prog 14 [aCod c, aSl 3 true aLab ls] (aSl 1 false aInt (prfL c ls)) := by
 have hcz := chk_zero ho
 have hk := (csE_zero.1 hcz.1).1
 have hpv := hcz.2
 have hn64 := hk.n64
 have hn1 := hk.n1
 have hct := (csE_zero.1 hcz.1).2
 have hlen := hpv.len
 refine ctr_of Tryz.call14 Tryz.func14 rfl rfl ?_
 intro w O
 refine ent_lenC 0 2 rfl rfl (fun hlen0_2 => ?_)
 refine ent_lenC 0 4 rfl rfl (fun hlen0_4 => ?_)
 refine ent_len 1 rfl (fun hlen1 => ?_)
 refine esr rfl fun _ K1 => ?_
 refine ent_boxS rfl rfl (AllOne.mem ⟨(one_int _), (one_int _), one_sl, (one_int _), one_sl, trivial⟩) (fun b2_1 => ?_)
 refine emm rfl ?_
 refine enk K1 ?_
 refine esr rfl fun _ K2 => ?_
 refine ent_o rfl (ok_fieldAddrEx Tryz.runUnderlying27 rfl Tryz.sizeOf3 (by decide) rfl) ?_
 refine ent_o rfl (ok_loadB (k := 0) Tryz.isAgg3 rfl rfl rfl) ?_
 refine ent_o rfl (ok_add rfl rfl (by omega) (by omega)) ?_
 refine ent_make aInt 0 rfl vt22 rfl rfl (by omega) (by omega) (by omega) (fun _ _ => rfl) (AllV.mem ⟨rfl, trivial⟩) (fun b10_2 => ?_)
 refine emm rfl ?_
 refine enk K2 ?_
 refine ent_seq fun _ K3 => ?_
 refine esk rfl ?_
 refine ent_block ?_
 refine ent_loop (fun (i : Int) => (⟨[(1, aSl 3 true aLab ls), (5, aEx (vec (some b10_2) ((c.N + 1).toNat) ((c.N + 1).toNat))), (6, aInt i)], [oVec (some b10_2) ((c.N + 1).toNat) 3 1 false aInt (hisTo (c.N + 1) (fun x => (lbl ls x).1) i.toNat), oBox b2_1 27 [aInt c.F.P, aInt c.F.M, aSl 1 false aInt c.F.mod, aInt c.N, aSl 1 false aInts c.Gen]]⟩ : St)) (fun (i : Int) => (0 ≤ i) ∧ (i ≤ ls.length)) (fun (i : Int) => (ls.length - i).toNat) 0 ⟨(by omega), (by omega)⟩ (ent_rep ⟨rfl, rfl, slot_av (av_int (show 0 = (0 : Int) by rfl)), trivial⟩ (own_cons (own_vec (show hisTo (c.N + 1) (fun x => (lbl ls x).1) (0 : Int).toNat = List.replicate ((c.N + 1).toNat) 0 by rfl)) (rfl))) ?_
 rintro i ⟨h0, h1⟩
 show Ent _ ⟨_, [_, _]⟩ _
 have lh := length_hisTo (c.N + 1) (fun x => (lbl ls x).1) i.toNat
 refine ent_seq fun _ K5 => ?_
 refine esr rfl fun _ K6 => ?_
 refine ent_o rfl (ok_len rfl Tryz.runUnderlying28 rfl) ?_
 refine ent_o rfl (ok_lss rfl rfl) ?_
 refine enk K6 ?_
 refine ent_condD rfl (fun h14 => ?_) (fun h14 => ?_)
 ·have hrg : 0 ≤ (ix (0, 0, 0) ls i).1 ∧ (ix (0, 0, 0) ls i).1 < c.N + 1 := prv_rng hk hpv h0 (by omega)
  have hhb := his_bd (n := c.N + 1) (g := fun x => (lbl ls x).1) (k := i.toNat) (j := (ix (0, 0, 0) ls i).1) (fun z z0 z1 => prv_rng hk hpv z0 (by omega)) hrg.1 hrg.2
  refine esp K5 ?_
  refine ent_seq fun _ K7 => ?_
  refine ent_block ?_
  refine ent_region ?_
  refine emm rfl ?_
  refine ent_o rfl (ok_index (0, 0, 0) sl28 rfl rfl (by omega) (by omega)) ?_
  refine ent_o rfl (ok_fieldAddr1 Tryz.runUnderlying45 rfl Tryz.sizeOf3 rfl rfl) ?_
  refine ent_o rfl (ok_load ti3 rfl) ?_
  refine ent_o rfl (ok_indexV sl22 rfl rfl (by omega) (by omega)) ?_
  refine ent_o rfl (ok_loadV (k := 0) 0 ti3 rfl rfl (by omega) (by omega)) ?_
  refine ent_o rfl (ok_add rfl rfl (by omega) (by omega)) ?_
  refine ent_o rfl (ok_indexV sl22 rfl rfl (by omega) (by omega)) ?_
  refine ent_storeV (k := 0) (z := (ix 0 (hisTo (c.N + 1) (fun x => (lbl ls x).1) i.toNat) ((ix (0, 0, 0) ls i).1)) + 1) ti3 rfl rfl rfl (elem_one (one_int _)) (by omega) (by omega) ?_
  refine enk K7 ?_
  refine ent_region ?_
  refine emm rfl ?_
  refine ent_o rfl (ok_add rfl rfl (by omega) (by omega)) ?_
  refine emm rfl ?_
  refine ent_nil ?_
  refine ent_again (s := (i)) (i + 1) ⟨(by omega), ‹_›⟩ (by omega) (ent_rep ⟨rfl, rfl, rfl, trivial⟩ (own_cons (own_vec (show hisTo (c.N + 1) (fun x => (lbl ls x).1) (i + 1).toNat = List.set (hisTo (c.N + 1) (fun x => (lbl ls x).1) i.toNat) ((ix (0, 0, 0) ls i).1).toNat ((ix 0 (hisTo (c.N + 1) (fun x => (lbl ls x).1) i.toNat) ((ix (0, 0, 0) ls i).1)) + 1) by exact his_step h0)) (rfl)))
 ·refine ent_exit ?_
  refine ent_k K3 ?_
  refine esk rfl ?_
  refine ent_ret ?_
  exact retR1 (.inr rfl) Tryz.results14 (resr_tmp (res_cv rfl (cv_vec (k := 0) (off_x rfl) (by simp) (by unfold prfL; rw [if_pos ho]; congr 1; omega))))
end Go.Proofs.YtcilbmggiahciaaGreat

