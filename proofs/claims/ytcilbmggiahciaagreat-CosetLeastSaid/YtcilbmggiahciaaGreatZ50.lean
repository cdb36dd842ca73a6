/-
  Walks of functions of the program and the reference.
-/
import Derived.Test.YtcilbmggiahciaaGreatZ49
open Go Go.Cw
namespace Go.Proofs.YtcilbmggiahciaaGreat
open Tryz
set_option maxRecDepth 100000
set_option linter.unusedVariables false
set_option linter.unusedSimpArgs false
set_option maxHeartbeats 1000000 in
theorem Build_yes (c : Cod) (ho : opE c [] false = 0) : Ctr Tryz.prog 29 [aCod c] (aTup [aSl 3 true aLab (bldL c), aInt (csE c)]) := by
 have hcs := csE_zero.1 (show csE c = 0 from ho)
 have hk := hcs.1
 have hqb := hk.fld.1.bd
 have hq2 := hk.q2
 have hdd := hk.dim_dua
 have hn64 := hk.n64
 have hn1 := hk.n1
 have hct := hcs.2
 have hp1 := pow_pos_of c.F.q hq2 (dua c).Gen.length
 have lW := A_i (dsC c) (c.F.q ^ (dua c).Gen.length)
 refine A_q Tryz.call29 func29 rfl rfl ?_
 intro w O
 refine A_Z 0 2 rfl rfl (fun hlen0_2 => ?_)
 refine A_Z 0 4 rfl rfl (fun hlen0_4 => ?_)
 refine esr rfl fun _ K1 => ?_
 refine A_f rfl rfl (AllOne.mem ⟨(A_D _), (A_D _), A_b, (A_D _), A_b, trivial⟩) (fun b1_1 => ?_)
 refine emm rfl ?_
 refine enk K1 ?_
 refine esr rfl fun _ K2 => ?_
 refine A_A rfl (A_R (k := 0) ti27 rfl rfl rfl) ?_
 refine A_A rfl (ok_callA (cso_ok c [] false ho) ⟨arg_a rfl (cv_id sub_refl), arg_a rfl (cv_nil (fun _ => rfl) rfl), arg_a rfl (cv_id sub_refl), trivial⟩) ?_
 refine emm rfl ?_
 refine A_A rfl (A_P rfl rfl) ?_
 refine A_A rfl (A_P rfl rfl) ?_
 refine emm rfl ?_
 refine enk K2 ?_
 refine A_C fun _ K3 => ?_
 refine esr rfl fun _ K4 => ?_
 refine A_A rfl (ok_neq rfl rfl) ?_
 refine enk K4 ?_
 refine ent_condFP rfl (by decide) ?_
 refine esp K3 ?_
 refine esr rfl fun _ K5 => ?_
 refine A_A rfl (A_S (CtrF.ctr (levels_ok c ho)) rfl) ?_
 refine emm rfl ?_
 refine A_A rfl (A_P rfl rfl) ?_
 refine A_A rfl (A_P rfl rfl) ?_
 refine ent_exi 23 rfl (fun Qo hQo => ?_)
 have hB := hQo
 have hz1 := hB.zero
 have lQd : (List.drop (1 : Int).toNat Qo).length = Qo.length - 1 := List.length_drop
 refine emm rfl ?_
 refine enk K5 ?_
 refine esr rfl fun _ K6 => ?_
 refine A_A rfl (A_k rfl) ?_
 refine A_A rfl (A_a runUnderlying70 rfl sizeOf3 rfl rfl) ?_
 refine A_A rfl (A_U ti3 rfl) ?_
 refine ent_make aLab (0, 0, 0) rfl vt28 rfl rfl (by omega) (by omega) (by omega) (fun h O => zagg45 h O) (AllV.mem ⟨rfl, rfl, rfl, trivial⟩) (fun b28_3 => ?_)
 refine emm rfl ?_
 refine enk K6 ?_
 refine A_C fun _ K7 => ?_
 refine esr rfl fun _ K8 => ?_
 refine A_A rfl (ok_sliceFrom sl22 rfl rfl (by omega) (by omega)) ?_
 refine A_A rfl (ok_len rfl runUnderlying22 rfl) ?_
 refine emm rfl ?_
 refine enk K8 ?_
 refine A_K ?_
 refine A_e (fun (ss : Int × List Lab) => match ss with | (i, Ls) => (⟨[(4, aSp c), (6, aSl 1 false aInt (mapR (dsC c) (c.F.q ^ (dua c).Gen.length))), (8, aEx (vec (some b28_3) ((c.F.q ^ (dua c).Gen.length).toNat) ((c.F.q ^ (dua c).Gen.length).toNat))), (30, aSl 1 false aInt (List.drop (1 : Int).toNat Qo)), (31, aInt (↑(List.drop (1 : Int).toNat Qo).length : Int)), (32, aInt i)], [oVec (some b28_3) ((c.F.q ^ (dua c).Gen.length).toNat) 45 3 true aLab Ls, oBox b1_1 27 [aInt c.F.P, aInt c.F.M, aSl 1 false aInt c.F.mod, aInt c.N, aSl 1 false aInts c.Gen]]⟩ : St)) (fun (ss : Int × List Lab) => match ss with | (i, Ls) => (0 <= i) /\ ((Ls.length : Int) = c.F.q ^ (dua c).Gen.length) /\ (∀ m : Int, 0 <= m -> m <= i -> lbl Ls (ix 0 Qo m) = labB c (ix 0 Qo m))) (fun (ss : Int × List Lab) => match ss with | (i, Ls) => (c.F.q ^ (dua c).Gen.length - i).toNat) (0, List.replicate ((c.F.q ^ (dua c).Gen.length).toNat) (0, 0, 0)) ⟨(by omega), (by simp; omega), (fun m m0 m1 => by rw [show m = 0 by omega, hz1.2, labB_zero hk]; unfold lbl; exact ix_repl2 _ _ (by omega) (by omega))⟩ (A_G ⟨rfl, rfl, rfl, rfl, rfl, A_W (A_j (show 0 = (0 : Int) by rfl)), trivial⟩ rfl) ?_
 rintro ⟨i, Ls⟩ ⟨i0, hLl, hD⟩
 show Ent _ ⟨_, [_, _]⟩ _
 have hfq := hB.few hk
 refine esr rfl fun _ K9 => ?_
 refine A_A rfl (A_p rfl rfl) ?_
 refine enk K9 ?_
 refine A_C fun _ K10 => ?_
 refine A_E rfl (fun h33 => ?_) (fun h33 => ?_)
 ·have hi1 : i + 1 < Qo.length := by rw [lQd] at h33; omega
  have hr := hB.rng (i + 1) (by omega) hi1
  have hxi : ix 0 (List.drop (1 : Int).toNat Qo) i = ix 0 Qo (i + 1) := (ix_drop2 (by omega) i0).trans (by rw [Int.add_comm])
  have hne := hB.inj 0 (i + 1) (by omega) (by omega) hi1
  rw [hz1.2] at hne
  have hlow := hB.low2 hk (Int.le_refl _) i0 hi1 rfl hD
  have hput := hB.put i0 hi1 rfl hLl hD
  rw [<- hxi] at hput
  refine esp K10 ?_
  refine A_C fun _ K11 => ?_
  refine A_K ?_
  refine esr rfl fun _ K12 => ?_
  refine A_A rfl (A_d 0 sl22 rfl rfl (by omega) (by omega)) ?_
  refine A_A rfl (A_U ti3 rfl) ?_
  refine emm rfl ?_
  refine enk K12 ?_
  refine A_F ?_
  refine emm rfl ?_
  refine A_A rfl (ok_callP [0] (by exact pl_agg ⟨pl_ex, pl_ex, pl_ex, trivial⟩) (first_ok c (mapR (dsC c) (c.F.q ^ (dua c).Gen.length)) Ls (ix 0 (List.drop (1 : Int).toNat Qo) i) ho (fun z z0 z1 => ix_mapR _ _ z0 z1) (by rw [lW]; omega) hLl (by rw [hxi]; exact hlow) (by rw [hxi]; omega) (by rw [hxi]; omega)) ⟨arg_a rfl (cv_id (sub_lent _)), arg_a rfl (cv_id (sub_lent _)), arg_a rfl (cv_vec (k := 0) (off_lent rfl (by decide)) (by omega) rfl), arg_a rfl (cv_id (sub_lent _)), trivial⟩) ?_
  refine A_A rfl (A_h sl28 rfl rfl (by omega) (by omega)) ?_
  refine A_w (k := 0) (z := ((labB c (ix 0 (List.drop (1 : Int).toNat Qo) i)).1, (labB c (ix 0 (List.drop (1 : Int).toNat Qo) i)).2.1, (labB c (ix 0 (List.drop (1 : Int).toNat Qo) i)).2.2)) ti45 rfl rfl rfl (elem_agg (AllOne.mem ⟨(A_D _), (A_D _), (A_D _), trivial⟩)) (by omega) (by omega) ?_
  refine enk K11 ?_
  refine A_F ?_
  refine A_A rfl (A_m rfl rfl (by omega) (by omega)) ?_
  refine emm rfl ?_
  refine A_O ?_
  refine A_V (s := (i, Ls)) (i + 1, List.set Ls (ix 0 (List.drop (1 : Int).toNat Qo) i).toNat ((labB c (ix 0 (List.drop (1 : Int).toNat Qo) i)).1, (labB c (ix 0 (List.drop (1 : Int).toNat Qo) i)).2.1, (labB c (ix 0 (List.drop (1 : Int).toNat Qo) i)).2.2)) ⟨(by omega), (by rw [List.length_set]; exact hLl), hput⟩ (by dsimp only; omega) (A_G ⟨rfl, rfl, rfl, rfl, rfl, rfl, trivial⟩ rfl)
 have hfin : Ls = bldL c := hB.last ho (Int.le_refl _) hLl (fun m m0 m1 => hD m m0 (by rw [lQd] at h33; omega))
 refine A_c ?_
 refine A_t K7 ?_
 refine esk rfl ?_
 refine A_Q ?_
 exact retR2 (.inr rfl) results29 (A_H (A_T rfl (cv_vec (k := 0) (off_x rfl) (by omega) (by exact hfin)))) (A_H (A_T rfl (A_Y (by exact ho.symm))))

theorem Build_no (c : Cod) (ho : opE c [] false ≠ 0) : Ctr Tryz.prog 29 [aCod c] (aTup [aSl 3 true aLab (bldL c), aInt (csE c)]) := by
 refine A_q Tryz.call29 func29 rfl rfl ?_
 intro w O
 refine A_Z 0 2 rfl rfl (fun hlen0_2 => ?_)
 refine A_Z 0 4 rfl rfl (fun hlen0_4 => ?_)
 refine esr rfl fun _ K1 => ?_
 refine A_f rfl rfl (AllOne.mem ⟨(A_D _), (A_D _), A_b, (A_D _), A_b, trivial⟩) (fun b1_1 => ?_)
 refine emm rfl ?_
 refine enk K1 ?_
 refine esr rfl fun _ K2 => ?_
 refine A_A rfl (A_R (k := 0) ti27 rfl rfl rfl) ?_
 refine A_A rfl (ok_callA (cso_no c [] false ho) ⟨arg_a rfl (cv_id sub_refl), arg_a rfl (cv_nil (fun _ => rfl) rfl), arg_a rfl (cv_id sub_refl), trivial⟩) ?_
 refine emm rfl ?_
 refine A_A rfl (A_P rfl rfl) ?_
 refine A_A rfl (A_P rfl rfl) ?_
 refine emm rfl ?_
 refine enk K2 ?_
 refine A_C fun _ K3 => ?_
 refine esr rfl fun _ K4 => ?_
 refine A_A rfl (ok_neq rfl rfl) ?_
 refine enk K4 ?_
 refine A_E rfl (fun h17 => ?_) (fun h17 => ?_)
 ·refine esk rfl ?_
  refine A_Q ?_
  exact retR2 (.inr rfl) results29 (A_H (A_T rfl (cv_nil (fun h => by cases h) (by exact (if_neg ho).symm)))) (A_H (A_T rfl (A_Y rfl)))
 exact absurd (Classical.not_not.1 h17) ho

theorem Build_ok (c : Cod) : Ctr Tryz.prog 29 [aCod c] (aTup [aSl 3 true aLab (bldL c), aInt (csE c)]) := by
 by_cases ho : opE c [] false = 0
 ·exact Build_yes c ho
 exact Build_no c ho
end Go.Proofs.YtcilbmggiahciaaGreat

