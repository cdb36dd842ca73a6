/-
  Walks of functions of the program and the reference.
-/
import Derived.Test.YtcilbmggiahciaaGreatZ42
open Go Go.Cw
namespace Go.Proofs.YtcilbmggiahciaaGreat
open Tryz
set_option maxRecDepth 100000
set_option linter.unusedVariables false
set_option linter.unusedSimpArgs false
theorem leader_ok (c : Cod) (ls : List Lab) (s : Int) (hc : csE c = 0) (h : Prv c ls) (s0 : 0 <= s) (s1 : s < c.F.q ^ (dua c).Gen.length) : Ctr Tryz.prog 35 [aSp c, aSl 3 true aLab ls, aInt s] (aSl 1 false aInt (leadW c ls s)) := by
 have hcs := csE_zero.1 hc
 have hk := hcs.1
 have hqb := hk.fld.1.bd
 have hq2 := hk.q2
 have hdd := hk.dim_dua
 have hn64 := hk.n64
 have hn1 := hk.n1
 have hct := hcs.2
 have hlen := h.len
 have ltn := length_turnL (dua c).Gen c.N
 refine A_q Tryz.call35 func35 rfl rfl ?_
 intro w O
 refine ent_lenP 0 5 rfl rfl (fun hlen0_5 => ?_)
 refine A_u 1 rfl (fun hlen1 => ?_)
 refine esk rfl ?_
 refine esr rfl fun _ K2 => ?_
 refine A_A rfl (A_k rfl) ?_
 refine A_A rfl (A_a runUnderlying70 rfl sizeOf3 rfl rfl) ?_
 refine A_A rfl (A_U ti3 rfl) ?_
 refine ent_make aInt 0 rfl vt22 rfl rfl (by omega) (by omega) (by omega) (fun _ _ => rfl) (AllV.mem ⟨rfl, trivial⟩) (fun b13_1 => ?_)
 refine emm rfl ?_
 refine enk K2 ?_
 refine A_C fun _ K3 => ?_
 refine A_K ?_
 refine A_e (fun (ss : Int × List Int) => match ss with | (x, out) => (⟨[(0, aSp c), (1, aSl 3 true aLab ls), (2, aInt x), (7, aEx (vec (some b13_1) ((c.N).toNat) ((c.N).toNat)))], [oVec (some b13_1) ((c.N).toNat) 3 1 false aInt out]⟩ : St)) (fun (ss : Int × List Int) => match ss with | (x, out) => (0 <= x) /\ (x < c.F.q ^ (dua c).Gen.length) /\ (out.length = c.N.toNat) /\ (ldr c ls (lbl ls x).1.toNat x out = leadW c ls s)) (fun (ss : Int × List Int) => match ss with | (x, out) => (lbl ls x).1.toNat) (s, List.replicate ((c.N).toNat) 0) ⟨‹_›, ‹_›, (by simp), rfl⟩ (A_G ⟨rfl, rfl, rfl, rfl, trivial⟩ rfl) ?_
 rintro ⟨x, out⟩ ⟨x0, x1, ho, hl⟩
 show Ent _ ⟨_, [_]⟩ _
 refine A_C fun _ K4 => ?_
 refine esr rfl fun _ K5 => ?_
 refine A_A rfl (ok_neq rfl rfl) ?_
 refine enk K5 ?_
 refine A_E rfl (fun h15 => ?_) (fun h15 => ?_)
 ·have hlb := prv_lab h x0 x1 h15
  have hpj : 0 <= (ix (0, 0, 0) ls x).2.1 /\ (ix (0, 0, 0) ls x).2.1 < c.N /\ 1 <= (ix (0, 0, 0) ls x).2.2 /\ (ix (0, 0, 0) ls x).2.2 < c.F.q := hlb.1
  have hmv := min_dig hk x (ix (0, 0, 0) ls x).2.1 (ix (0, 0, 0) ls x).2.2
  have hst := ldr_step (out := out) hlb
  have hw1 : 1 <= (lbl ls x).1 := hlb.2.1
  have hmw : (lbl ls (minV c x (ix (0, 0, 0) ls x).2.1 (ix (0, 0, 0) ls x).2.2)).1 = (lbl ls x).1 - 1 := hlb.2.2
  refine esp K4 ?_
  refine A_K ?_
  refine esr rfl fun _ K6 => ?_
  refine A_A rfl (A_d (0, 0, 0) sl28 rfl rfl (by omega) (by omega)) ?_
  refine A_A rfl (A_U ti45 rfl) ?_
  refine ent_alloc (z := .agg #[.int .i64 0, .int .i64 0, .int .i64 0]) [aInt 0, aInt 0, aInt 0] rfl zv45 rfl zc45 (fun b8_2 => ?_)
  refine ent_storeBS (k := 0) sizeOf45 rfl rfl rfl (AllOne.mem ⟨(A_D _), (A_D _), (A_D _), trivial⟩) rfl rfl ?_
  show Ent _ ⟨_, [_, _]⟩ _
  refine enk K6 ?_
  refine A_C fun _ K7 => ?_
  refine A_v 16 mixed (by kernel_rfl) (by kernel_rfl) (by kernel_rfl) ?_
  refine dw_o rfl (A_I rfl) ?_
  refine dw_o rfl (A_B runUnderlying45 rfl sizeOf3 (by decide) rfl) ?_
  refine dw_o rfl (A_N (k := 0) isAgg3 rfl rfl rfl) ?_
  refine dw_o rfl (A_I rfl) ?_
  refine dw_o rfl (A_k rfl) ?_
  refine dw_o rfl (A_a runUnderlying70 rfl sizeOf68 rfl rfl) ?_
  refine dw_o rfl (A_U ti68 rfl) ?_
  refine dw_o rfl (A_I rfl) ?_
  refine dw_o rfl (A_B runUnderlying45 rfl sizeOf3 (by decide) rfl) ?_
  refine dw_o rfl (A_N (k := 0) isAgg3 rfl rfl rfl) ?_
  refine dw_o rfl (A_h sl22 rfl rfl (by omega) (by omega)) ?_
  refine dw_o rfl (ok_loadV (k := 1) 0 ti3 rfl rfl (by omega) (by omega)) ?_
  refine dw_o rfl (A_B runUnderlying45 rfl sizeOf3 (by decide) rfl) ?_
  refine dw_o rfl (A_N (k := 0) isAgg3 rfl rfl rfl) ?_
  refine dw_o rfl (A_S (Add_ok c.F (ix 0 out ((ix (0, 0, 0) ls x).2.1)) ((ix (0, 0, 0) ls x).2.2) hk.fld) rfl) ?_
  refine dw_o rfl (A_h sl22 rfl rfl (by omega) (by omega)) ?_
  refine dw_nil ?_
  refine A_w (k := 1) (z := addF c.F (ix 0 out ((ix (0, 0, 0) ls x).2.1)) ((ix (0, 0, 0) ls x).2.2)) ti3 rfl rfl rfl (A_r (A_D _)) (by omega) (by omega) ?_
  refine enk K7 ?_
  refine A_F ?_
  refine emm rfl ?_
  refine A_A rfl (A_B runUnderlying45 rfl sizeOf3 (by decide) rfl) ?_
  refine A_A rfl (A_N (k := 0) isAgg3 rfl rfl rfl) ?_
  refine A_A rfl (A_B runUnderlying45 rfl sizeOf3 (by decide) rfl) ?_
  refine A_A rfl (A_N (k := 0) isAgg3 rfl rfl rfl) ?_
  refine A_A rfl (A_S (minus_ok c x ((ix (0, 0, 0) ls x).2.1) ((ix (0, 0, 0) ls x).2.2) hk hct ‹_› (by omega) (by omega) (by omega)) rfl) ?_
  refine emm rfl ?_
  refine A_O ?_
  refine ent_drop 0 ?_
  refine A_V (s := (x, out)) (minV c x ((ix (0, 0, 0) ls x).2.1) ((ix (0, 0, 0) ls x).2.2), List.set out ((ix (0, 0, 0) ls x).2.1).toNat (addF c.F (ix 0 out ((ix (0, 0, 0) ls x).2.1)) ((ix (0, 0, 0) ls x).2.2))) ⟨(by omega), (by omega), (by simp only [List.length_set]; exact ho), (hst.symm.trans hl)⟩ (by dsimp only; omega) (A_G ⟨rfl, rfl, rfl, rfl, trivial⟩ rfl)
 refine A_c ?_
 refine A_t K3 ?_
 refine esk rfl ?_
 refine A_Q ?_
 exact retR1 (.inr rfl) results35 (A_H (A_T rfl (cv_vec (k := 0) (off_x rfl) (by simp_all) (by rw [<- hl, show x = 0 by omega]; exact (ldr_end h.zero out).symm))))

theorem cLead_yes (c : Cod) (ls : List Lab) (s : Int) (h64 : ∀ t ∈ ls, -9223372036854775808 <= t.1 /\ t.1 <= 9223372036854775807) (ho : chkL c ls = 0) : Ctr Tryz.prog 15 [aCod c, aSl 3 true aLab ls, aInt s] (aTup [aSl 1 false aInt (ldW c ls s), aInt (ldE c ls s)]) := by
 have hcz := chk_zero ho
 have hk := (csE_zero.1 hcz.1).1
 have hpv := hcz.2
 have hn64 := hk.n64
 have hn1 := hk.n1
 have hct := (csE_zero.1 hcz.1).2
 have hlen := hpv.len
 have hp1 := pow_pos_of c.F.q hk.q2 (dua c).Gen.length
 refine A_q Tryz.call15 func15 rfl rfl ?_
 intro w O
 refine A_Z 0 2 rfl rfl (fun hlen0_2 => ?_)
 refine A_Z 0 4 rfl rfl (fun hlen0_4 => ?_)
 refine A_u 1 rfl (fun hlen1 => ?_)
 refine esr rfl fun _ K1 => ?_
 refine A_f rfl rfl (AllOne.mem ⟨(A_D _), (A_D _), A_b, (A_D _), A_b, trivial⟩) (fun b3_1 => ?_)
 refine emm rfl ?_
 refine enk K1 ?_
 refine esr rfl fun _ K2 => ?_
 refine A_A rfl (A_R (k := 0) ti27 rfl rfl rfl) ?_
 refine emm rfl ?_
 refine A_A rfl (ok_callA (proved_ok c ls [] false ho ‹_›) ⟨arg_a rfl (cv_id sub_refl), arg_a rfl (cv_id sub_refl), arg_a rfl (cv_nil (fun _ => rfl) rfl), arg_a rfl (cv_id sub_refl), trivial⟩) ?_
 refine emm rfl ?_
 refine A_A rfl (A_P rfl rfl) ?_
 refine A_A rfl (A_P rfl rfl) ?_
 refine emm rfl ?_
 refine enk K2 ?_
 refine A_C fun _ K3 => ?_
 refine esr rfl fun _ K4 => ?_
 refine A_A rfl (ok_neq rfl rfl) ?_
 refine enk K4 ?_
 refine ent_condFP rfl (by decide) ?_
 refine esp K3 ?_
 refine A_C fun _ K5 => ?_
 refine A_C fun _ K6 => ?_
 refine ent_cut (⟨[(1, aSl 3 true aLab ls), (2, aInt s), (8, aSp c), (28, aBool (decide ((s < 0) \/ ((c.F.q ^ (dua c).Gen.length) <= s))))], [oBox b3_1 27 [aInt c.F.P, aInt c.F.M, aSl 1 false aInt c.F.mod, aInt c.N, aSl 1 false aInts c.Gen]]⟩) ?_ ?_
 ·refine A_F ?_
  refine emm rfl ?_
  refine A_A rfl (A_p rfl rfl) ?_
  refine emm rfl ?_
  refine A_x rfl rfl rfl rfl (fun hg21 => ?_) (fun hg21 => ?_)
  ·refine emm rfl ?_
   refine A_L rfl rfl rfl rfl (decide_eq_false hg21) ?_
   refine emm rfl ?_
   refine A_L rfl rfl rfl rfl (decide_eq_false hg21) ?_
   refine A_A rfl (A_k rfl) ?_
   refine A_L rfl rfl rfl rfl (decide_eq_false hg21) ?_
   refine A_A rfl (A_a runUnderlying70 rfl sizeOf3 rfl rfl) ?_
   refine A_L rfl rfl rfl rfl (decide_eq_false hg21) ?_
   refine A_A rfl (A_U ti3 rfl) ?_
   refine A_L rfl rfl rfl rfl (decide_eq_false hg21) ?_
   refine A_A rfl (ok_geq rfl rfl) ?_
   refine A_A rfl (A_s rfl (decide_eq_false hg21) rfl) ?_
   refine A_O ?_
   exact A_G ⟨rfl, rfl, rfl, A_X (dq_Q ((or_iff_right hg21).trans Iff.rfl)), trivial⟩ rfl
  refine A_J rfl rfl rfl rfl (decide_eq_true hg21) ?_
  refine A_J rfl rfl rfl rfl (decide_eq_true hg21) ?_
  refine A_J rfl rfl rfl rfl (decide_eq_true hg21) ?_
  refine A_J rfl rfl rfl rfl (decide_eq_true hg21) ?_
  refine A_J rfl rfl rfl rfl (decide_eq_true hg21) ?_
  refine A_A rfl (A_n rfl (decide_eq_true hg21) rfl) ?_
  refine A_O ?_
  exact A_G ⟨rfl, rfl, rfl, A_X (dq_T rfl (Or.inl hg21)), trivial⟩ rfl
 refine A_t K6 ?_
 refine A_E rfl (fun h28 => ?_) (fun h28 => ?_)
 ·refine esk rfl ?_
  refine A_Q ?_
  exact retR2 (.inr rfl) results15 (A_H (A_T rfl (cv_nil (fun _ => rfl) (by unfold ldW; rw [if_neg (by rw [ldE_rng ho, if_pos h28]; decide)])))) (A_H (A_T rfl (A_Y (by rw [ldE_rng ho]; first | exact (if_pos h28).symm | exact (if_neg h28).symm))))
 refine esp K5 ?_
 refine esr rfl fun _ K8 => ?_
 refine A_A rfl (A_S (leader_ok c ls s hcz.1 hpv (by omega) (by omega)) rfl) ?_
 refine emm rfl ?_
 refine enk K8 ?_
 refine A_Q ?_
 exact retR2 (.inr rfl) results15 (A_H (A_T rfl (cv_sl sub_x (by unfold ldW; rw [if_pos (by rw [ldE_rng ho, if_neg h28])])))) (A_H (A_T rfl (A_Y (by rw [ldE_rng ho]; first | exact (if_pos h28).symm | exact (if_neg h28).symm))))

theorem cLead_no (c : Cod) (ls : List Lab) (s : Int) (h64 : ∀ t ∈ ls, -9223372036854775808 <= t.1 /\ t.1 <= 9223372036854775807) (ho : chkL c ls ≠ 0) : Ctr Tryz.prog 15 [aCod c, aSl 3 true aLab ls, aInt s] (aTup [aSl 1 false aInt (ldW c ls s), aInt (ldE c ls s)]) := by
 refine A_q Tryz.call15 func15 rfl rfl ?_
 intro w O
 refine A_Z 0 2 rfl rfl (fun hlen0_2 => ?_)
 refine A_Z 0 4 rfl rfl (fun hlen0_4 => ?_)
 refine A_u 1 rfl (fun hlen1 => ?_)
 refine esr rfl fun _ K1 => ?_
 refine A_f rfl rfl (AllOne.mem ⟨(A_D _), (A_D _), A_b, (A_D _), A_b, trivial⟩) (fun b3_1 => ?_)
 refine emm rfl ?_
 refine enk K1 ?_
 refine esr rfl fun _ K2 => ?_
 refine A_A rfl (A_R (k := 0) ti27 rfl rfl rfl) ?_
 refine emm rfl ?_
 refine A_A rfl (ok_callA (proved_no c ls [] false ho ‹_›) ⟨arg_a rfl (cv_id sub_refl), arg_a rfl (cv_id sub_refl), arg_a rfl (cv_nil (fun _ => rfl) rfl), arg_a rfl (cv_id sub_refl), trivial⟩) ?_
 refine emm rfl ?_
 refine A_A rfl (A_P rfl rfl) ?_
 refine A_A rfl (A_P rfl rfl) ?_
 refine emm rfl ?_
 refine enk K2 ?_
 refine A_C fun _ K3 => ?_
 refine esr rfl fun _ K4 => ?_
 refine A_A rfl (ok_neq rfl rfl) ?_
 refine enk K4 ?_
 refine A_E rfl (fun h17 => ?_) (fun h17 => ?_)
 ·refine esk rfl ?_
  refine A_Q ?_
  exact retR2 (.inr rfl) results15 (A_H (A_T rfl (cv_nil (fun _ => rfl) (by unfold ldW; rw [if_neg (by rw [ldE_chk ho]; exact ho)])))) (A_H (A_T rfl (A_Y (by exact (ldE_chk ho).symm))))
 exact absurd (Classical.not_not.1 h17) ho

theorem cLead_ok (c : Cod) (ls : List Lab) (s : Int) (h64 : ∀ t ∈ ls, -9223372036854775808 <= t.1 /\ t.1 <= 9223372036854775807) : Ctr Tryz.prog 15 [aCod c, aSl 3 true aLab ls, aInt s] (aTup [aSl 1 false aInt (ldW c ls s), aInt (ldE c ls s)]) := by
 by_cases ho : chkL c ls = 0
 ·exact cLead_yes c ls s h64 ho
 exact cLead_no c ls s h64 ho
end Go.Proofs.YtcilbmggiahciaaGreat

