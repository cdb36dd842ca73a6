/-
  Walks of functions of the program and the reference.
-/
import Derived.Test.YtcilbmggiahciaaGreatZ37
open Go Go.Cw
namespace Go.Proofs.YtcilbmggiahciaaGreat
open Tryz
set_option maxRecDepth 100000
set_option linter.unusedVariables false
set_option linter.unusedSimpArgs false

abbrev aLab (t : Lab) : AV := aAgg [aInt t.1, aInt t.2.1, aInt t.2.2]

theorem proves_ok (c : Cod) (ls : List Lab) (hc : csE c = 0) (h64 : ∀ t ∈ ls, -9223372036854775808 <= t.1 /\ t.1 <= 9223372036854775807) : Ctr Tryz.prog 58 [aSp c, aSl 3 true aLab ls] (aBool (decide (Prv c ls))) := by
 have hcs := csE_zero.1 hc
 have hk := hcs.1
 have hqb := hk.fld.1.bd
 have hq2 := hk.q2
 have hdd := hk.dim_dua
 have hn64 := hk.n64
 have hn1 := hk.n1
 have hp1 := pow_pos_of c.F.q hq2 (dua c).Gen.length
 have hct := hcs.2
 have ltn := length_turnL (dua c).Gen c.N
 refine A_q Tryz.call58 func58 rfl rfl ?_
 intro w O
 refine ent_lenP 0 5 rfl rfl (fun hlen0_5 => ?_)
 refine A_u 1 rfl (fun hlen1 => ?_)
 refine esk rfl ?_
 refine A_C fun _ K2 => ?_
 refine A_C fun _ K3 => ?_
 refine ent_cut (⟨[(0, aSp c), (1, aSl 3 true aLab ls), (26, aBool (decide (((↑ls.length : Int) ≠ (c.F.q ^ (dua c).Gen.length)) \/ ([(ix (0, 0, 0) ls 0).1, (ix (0, 0, 0) ls 0).2.1, (ix (0, 0, 0) ls 0).2.2] ≠ [0, 0, 0]))))], []⟩) ?_ ?_
 ·refine A_F ?_
  refine emm rfl ?_
  refine A_A rfl (ok_len rfl runUnderlying28 rfl) ?_
  refine emm rfl ?_
  refine A_A rfl (A_k rfl) ?_
  refine A_A rfl (A_a runUnderlying70 rfl sizeOf3 rfl rfl) ?_
  refine A_A rfl (A_U ti3 rfl) ?_
  refine A_A rfl (ok_neq rfl rfl) ?_
  refine emm rfl ?_
  refine A_x rfl rfl rfl rfl (fun hg20 => ?_) (fun hg20 => ?_)
  ·refine emm rfl ?_
   refine A_L rfl rfl rfl rfl (decide_eq_false hg20) ?_
   refine A_A rfl (A_d (0, 0, 0) sl28 rfl rfl (by omega) (by omega)) ?_
   refine A_L rfl rfl rfl rfl (decide_eq_false hg20) ?_
   refine A_A rfl (A_U ti45 rfl) ?_
   refine A_L rfl rfl rfl rfl (decide_eq_false hg20) ?_
   refine A_A rfl (ok_build st45 (As := [aInt 0, aInt 0, aInt 0]) z45 (rfl)) ?_
   refine A_L rfl rfl rfl rfl (decide_eq_false hg20) ?_
   refine A_A rfl (ok_neqIs (ms := [(ix (0, 0, 0) ls 0).1, (ix (0, 0, 0) ls 0).2.1, (ix (0, 0, 0) ls 0).2.2]) (ns := [0, 0, 0]) is45 rfl rfl rfl rfl) ?_
   refine A_A rfl (A_s rfl (decide_eq_false hg20) rfl) ?_
   refine A_O ?_
   exact A_G ⟨rfl, rfl, A_X (dq_Q ((or_iff_right hg20).trans Iff.rfl)), trivial⟩ rfl
  refine A_J rfl rfl rfl rfl (decide_eq_true hg20) ?_
  refine A_J rfl rfl rfl rfl (decide_eq_true hg20) ?_
  refine A_J rfl rfl rfl rfl (decide_eq_true hg20) ?_
  refine A_J rfl rfl rfl rfl (decide_eq_true hg20) ?_
  refine A_A rfl (A_n rfl (decide_eq_true hg20) rfl) ?_
  refine A_O ?_
  exact A_G ⟨rfl, rfl, A_X (dq_T rfl (Or.inl hg20)), trivial⟩ rfl
 refine A_t K3 ?_
 refine A_E rfl (fun h26 => ?_) (fun h26 => ?_)
 ·refine esk rfl ?_
  refine A_Q ?_
  exact retR1 (.inr rfl) results58 (A_H (A_T rfl (cv_bool (by refine (decide_eq_false (fun h => ?_)).symm; exact h26.elim (fun g => g h.len) (fun g => lab_neq g h.zero)))))
 have hlen : (ls.length : Int) = c.F.q ^ (dua c).Gen.length := Classical.not_not.1 fun h => h26 (.inl h)
 have hz0 : ix (0, 0, 0) ls 0 = (0, 0, 0) := lab_zero (fun h => h26 (.inr h))
 refine esp K2 ?_
 refine A_C fun _ K5 => ?_
 refine esr rfl fun _ K6 => ?_
 refine A_A rfl (ok_len rfl runUnderlying28 rfl) ?_
 refine emm rfl ?_
 refine enk K6 ?_
 refine A_K ?_
 refine A_e (fun (x : Int) => (⟨[(0, aSp c), (1, aSl 3 true aLab ls), (27, aSl 3 true aLab ls), (28, aInt (↑ls.length : Int)), (29, aInt x)], []⟩ : St)) (fun (x : Int) => (0 <= x) /\ (x <= ls.length) /\ (∀ z : Int, 1 <= z -> z < x -> LabOk c ls z)) (fun (x : Int) => (ls.length - x).toNat) 0 ⟨(by omega), (by omega), (fun z z0 z1 => by omega)⟩ (A_G ⟨rfl, rfl, rfl, rfl, A_W (A_j (show 0 = (0 : Int) by rfl)), trivial⟩ rfl) ?_
 rintro x ⟨x0, x1, h2⟩
 show Ent _ ⟨_, []⟩ _
 refine esr rfl fun _ K7 => ?_
 refine A_A rfl (A_p rfl rfl) ?_
 refine enk K7 ?_
 refine A_C fun _ K8 => ?_
 refine A_E rfl (fun h30 => ?_) (fun h30 => ?_)
 ·refine esp K8 ?_
  refine A_C fun _ K9 => ?_
  refine A_K ?_
  refine esr rfl fun _ K10 => ?_
  refine A_A rfl (A_d (0, 0, 0) sl28 rfl rfl (by omega) (by omega)) ?_
  refine A_A rfl (A_U ti45 rfl) ?_
  refine ent_alloc (z := .agg #[.int .i64 0, .int .i64 0, .int .i64 0]) [aInt 0, aInt 0, aInt 0] rfl zv45 rfl zc45 (fun b6_1 => ?_)
  refine emm rfl ?_
  refine ent_storeBS (k := 0) sizeOf45 rfl rfl rfl (AllOne.mem ⟨(A_D _), (A_D _), (A_D _), trivial⟩) rfl rfl ?_
  show Ent _ ⟨_, [_]⟩ _
  refine enk K10 ?_
  refine esr rfl fun _ K11 => ?_
  refine A_A rfl (ok_gtr rfl rfl) ?_
  refine enk K11 ?_
  refine A_E rfl (fun h35 => ?_) (fun h35 => ?_)
  ·refine A_C fun _ K12 => ?_
   refine A_C fun _ K13 => ?_
   refine ent_cut (⟨[(0, aSp c), (1, aSl 3 true aLab ls), (5, aInt x), (6, aEx (.pointer (some ⟨b6_1, 0, none⟩))), (27, aSl 3 true aLab ls), (28, aInt (↑ls.length : Int)), (29, aInt x), (61, aBool (decide ((((((ix (0, 0, 0) ls x).2.1) < 0) \/ (c.N <= ((ix (0, 0, 0) ls x).2.1))) \/ (((ix (0, 0, 0) ls x).2.2) < 1)) \/ (c.F.q <= ((ix (0, 0, 0) ls x).2.2)))))], [oBox b6_1 45 [aInt ((ix (0, 0, 0) ls x).1), aInt ((ix (0, 0, 0) ls x).2.1), aInt ((ix (0, 0, 0) ls x).2.2)]]⟩) ?_ ?_
   ·refine A_v 26 mixed (by kernel_rfl) (drawQ_F (by kernel_rfl)) (by kernel_rfl) ?_
    refine dw_o rfl (A_B runUnderlying45 rfl sizeOf3 (by decide) rfl) ?_
    refine dw_o rfl (A_N (k := 0) isAgg3 rfl rfl rfl) ?_
    refine dw_o rfl (A_p rfl rfl) ?_
    refine dw_o rfl (A_I rfl) ?_
    refine dw_guardDf rfl rfl rfl rfl (fun hg39 => ?_) (fun hg39 => ?_)
    ·refine dw_o rfl (A_B runUnderlying45 rfl sizeOf3 (by decide) rfl) ?_
     refine A_l rfl rfl rfl rfl (decide_eq_false hg39) ?_
     refine dw_o rfl (A_N (k := 0) isAgg3 rfl rfl rfl) ?_
     refine A_l rfl rfl rfl rfl (decide_eq_false hg39) ?_
     refine dw_o rfl (A_I rfl) ?_
     refine A_l rfl rfl rfl rfl (decide_eq_false hg39) ?_
     refine dw_o rfl (A_k rfl) ?_
     refine A_l rfl rfl rfl rfl (decide_eq_false hg39) ?_
     refine dw_o rfl (A_a runUnderlying70 rfl sizeOf3 rfl rfl) ?_
     refine A_l rfl rfl rfl rfl (decide_eq_false hg39) ?_
     refine dw_o rfl (A_U ti3 rfl) ?_
     refine A_l rfl rfl rfl rfl (decide_eq_false hg39) ?_
     refine dw_o rfl (ok_geq rfl rfl) ?_
     refine dw_o rfl (A_s rfl (decide_eq_false hg39) rfl) ?_
     refine dw_o rfl (A_I rfl) ?_
     refine dw_guardDf rfl rfl rfl rfl (fun hg48 => ?_) (fun hg48 => ?_)
     ·refine dw_o rfl (A_B runUnderlying45 rfl sizeOf3 (by decide) rfl) ?_
      refine A_l rfl rfl rfl rfl (decide_eq_false hg48) ?_
      refine dw_o rfl (A_N (k := 0) isAgg3 rfl rfl rfl) ?_
      refine A_l rfl rfl rfl rfl (decide_eq_false hg48) ?_
      refine dw_o rfl (A_p rfl rfl) ?_
      refine dw_o rfl (A_s rfl (decide_eq_false hg48) rfl) ?_
      refine dw_o rfl (A_I rfl) ?_
      refine dw_guardDf rfl rfl rfl rfl (fun hg53 => ?_) (fun hg53 => ?_)
      ·refine dw_o rfl (A_B runUnderlying45 rfl sizeOf3 (by decide) rfl) ?_
       refine A_l rfl rfl rfl rfl (decide_eq_false hg53) ?_
       refine dw_o rfl (A_N (k := 0) isAgg3 rfl rfl rfl) ?_
       refine A_l rfl rfl rfl rfl (decide_eq_false hg53) ?_
       refine dw_o rfl (A_I rfl) ?_
       refine A_l rfl rfl rfl rfl (decide_eq_false hg53) ?_
       refine dw_o rfl (A_k rfl) ?_
       refine A_l rfl rfl rfl rfl (decide_eq_false hg53) ?_
       refine dw_o rfl (A_a runUnderlying70 rfl sizeOf3 rfl rfl) ?_
       refine A_l rfl rfl rfl rfl (decide_eq_false hg53) ?_
       refine dw_o rfl (A_U ti3 rfl) ?_
       refine A_l rfl rfl rfl rfl (decide_eq_false hg53) ?_
       refine dw_o rfl (ok_geq rfl rfl) ?_
       refine dw_o rfl (A_s rfl (decide_eq_false hg53) rfl) ?_
       refine dw_nil ?_
       refine A_O ?_
       exact A_G ⟨rfl, rfl, rfl, rfl, rfl, rfl, rfl, A_X (dq_Q ((or_iff_right (fun h => h.elim (fun h => h.elim hg39 hg48) hg53)).trans Iff.rfl)), trivial⟩ rfl
      refine A_g rfl rfl rfl rfl (decide_eq_true hg53) ?_
      refine A_g rfl rfl rfl rfl (decide_eq_true hg53) ?_
      refine A_g rfl rfl rfl rfl (decide_eq_true hg53) ?_
      refine A_g rfl rfl rfl rfl (decide_eq_true hg53) ?_
      refine A_g rfl rfl rfl rfl (decide_eq_true hg53) ?_
      refine A_g rfl rfl rfl rfl (decide_eq_true hg53) ?_
      refine dw_o rfl (A_n rfl (decide_eq_true hg53) rfl) ?_
      refine dw_nil ?_
      refine A_O ?_
      exact A_G ⟨rfl, rfl, rfl, rfl, rfl, rfl, rfl, A_X (dq_T rfl (Or.inl (Or.inr hg53))), trivial⟩ rfl
     refine A_g rfl rfl rfl rfl (decide_eq_true hg48) ?_
     refine A_g rfl rfl rfl rfl (decide_eq_true hg48) ?_
     refine dw_o rfl (A_n rfl (decide_eq_true hg48) rfl) ?_
     refine dw_o rfl (A_I rfl) ?_
     refine A_g rfl rfl rfl rfl rfl ?_
     refine A_g rfl rfl rfl rfl rfl ?_
     refine A_g rfl rfl rfl rfl rfl ?_
     refine A_g rfl rfl rfl rfl rfl ?_
     refine A_g rfl rfl rfl rfl rfl ?_
     refine A_g rfl rfl rfl rfl rfl ?_
     refine A_g rfl rfl rfl rfl rfl ?_
     refine dw_o rfl (A_n rfl rfl rfl) ?_
     refine dw_nil ?_
     refine A_O ?_
     exact A_G ⟨rfl, rfl, rfl, rfl, rfl, rfl, rfl, A_X (dq_T rfl (Or.inl (Or.inl (Or.inr hg48)))), trivial⟩ rfl
    refine A_g rfl rfl rfl rfl (decide_eq_true hg39) ?_
    refine A_g rfl rfl rfl rfl (decide_eq_true hg39) ?_
    refine A_g rfl rfl rfl rfl (decide_eq_true hg39) ?_
    refine A_g rfl rfl rfl rfl (decide_eq_true hg39) ?_
    refine A_g rfl rfl rfl rfl (decide_eq_true hg39) ?_
    refine A_g rfl rfl rfl rfl (decide_eq_true hg39) ?_
    refine dw_o rfl (A_n rfl (decide_eq_true hg39) rfl) ?_
    refine dw_o rfl (A_I rfl) ?_
    refine A_g rfl rfl rfl rfl rfl ?_
    refine A_g rfl rfl rfl rfl rfl ?_
    refine A_g rfl rfl rfl rfl rfl ?_
    refine dw_o rfl (A_n rfl rfl rfl) ?_
    refine dw_o rfl (A_I rfl) ?_
    refine A_g rfl rfl rfl rfl rfl ?_
    refine A_g rfl rfl rfl rfl rfl ?_
    refine A_g rfl rfl rfl rfl rfl ?_
    refine A_g rfl rfl rfl rfl rfl ?_
    refine A_g rfl rfl rfl rfl rfl ?_
    refine A_g rfl rfl rfl rfl rfl ?_
    refine A_g rfl rfl rfl rfl rfl ?_
    refine dw_o rfl (A_n rfl rfl rfl) ?_
    refine dw_nil ?_
    refine A_O ?_
    exact A_G ⟨rfl, rfl, rfl, rfl, rfl, rfl, rfl, A_X (dq_T rfl (Or.inl (Or.inl (Or.inl hg39)))), trivial⟩ rfl
   refine A_t K13 ?_
   refine A_E rfl (fun h61 => ?_) (fun h61 => ?_)
   ·refine esk rfl ?_
    refine A_Q ?_
    exact retR1 (.inr rfl) results58 (A_H (A_T rfl (cv_bool (by refine (decide_eq_false (fun h => ?_)).symm; have hl := h.two x (by omega) (by omega); unfold LabOk lbl at hl; omega))))
   have hpj : 0 <= (ix (0, 0, 0) ls x).2.1 /\ (ix (0, 0, 0) ls x).2.1 < c.N /\ 1 <= (ix (0, 0, 0) ls x).2.2 /\ (ix (0, 0, 0) ls x).2.2 < c.F.q := by omega
   refine esp K12 ?_
   refine esr rfl fun _ K15 => ?_
   refine A_A rfl (A_B runUnderlying45 rfl sizeOf3 (by decide) rfl) ?_
   refine A_A rfl (A_N (k := 0) isAgg3 rfl rfl rfl) ?_
   refine A_A rfl (A_B runUnderlying45 rfl sizeOf3 (by decide) rfl) ?_
   refine A_A rfl (A_N (k := 0) isAgg3 rfl rfl rfl) ?_
   refine A_A rfl (A_S (minus_ok c x ((ix (0, 0, 0) ls x).2.1) ((ix (0, 0, 0) ls x).2.2) hk hct ‹_› (by omega) (by omega) (by omega)) rfl) ?_
   refine emm rfl ?_
   refine enk K15 ?_
   refine A_C fun _ K16 => ?_
   refine ent_cut (⟨[(0, aSp c), (1, aSl 3 true aLab ls), (27, aSl 3 true aLab ls), (28, aInt (↑ls.length : Int)), (29, aInt x), (82, aBool (decide ((((ix (0, 0, 0) ls x).1) < 1) \/ (((ix (0, 0, 0) ls (minV c x ((ix (0, 0, 0) ls x).2.1) ((ix (0, 0, 0) ls x).2.2))).1) ≠ (((ix (0, 0, 0) ls x).1) - 1)))))], [oBox b6_1 45 [aInt ((ix (0, 0, 0) ls x).1), aInt ((ix (0, 0, 0) ls x).2.1), aInt ((ix (0, 0, 0) ls x).2.2)]]⟩) ?_ ?_
   ·have hw64 := h64 _ (ix_mem (0, 0, 0) ls x0 (by omega))
    have hmv := min_dig hk x (ix (0, 0, 0) ls x).2.1 (ix (0, 0, 0) ls x).2.2
    refine A_v 14 mixed (by kernel_rfl) (by kernel_rfl) (by kernel_rfl) ?_
    refine dw_o rfl (A_B runUnderlying45 rfl sizeOf3 (by decide) rfl) ?_
    refine dw_o rfl (A_N (k := 0) isAgg3 rfl rfl rfl) ?_
    refine dw_o rfl (A_p rfl rfl) ?_
    refine dw_o rfl (A_I rfl) ?_
    refine dw_guardDf rfl rfl rfl rfl (fun hg72 => ?_) (fun hg72 => ?_)
    ·refine dw_o rfl (A_I rfl) ?_
     refine A_l rfl rfl rfl rfl (decide_eq_false hg72) ?_
     refine dw_o rfl (A_I rfl) ?_
     refine A_l rfl rfl rfl rfl (decide_eq_false hg72) ?_
     refine dw_o rfl (A_d (0, 0, 0) sl28 rfl rfl (by omega) (by omega)) ?_
     refine A_l rfl rfl rfl rfl (decide_eq_false hg72) ?_
     refine dw_o rfl (A_a runUnderlying45 rfl sizeOf3 rfl rfl) ?_
     refine A_l rfl rfl rfl rfl (decide_eq_false hg72) ?_
     refine dw_o rfl (A_U ti3 rfl) ?_
     refine A_l rfl rfl rfl rfl (decide_eq_false hg72) ?_
     refine dw_o rfl (A_B runUnderlying45 rfl sizeOf3 (by decide) rfl) ?_
     refine A_l rfl rfl rfl rfl (decide_eq_false hg72) ?_
     refine dw_o rfl (A_N (k := 0) isAgg3 rfl rfl rfl) ?_
     refine A_l rfl rfl rfl rfl (decide_eq_false hg72) ?_
     refine dw_o rfl (ok_sub rfl rfl (by omega) (by omega)) ?_
     refine A_l rfl rfl rfl rfl (decide_eq_false hg72) ?_
     refine dw_o rfl (ok_neq rfl rfl) ?_
     refine dw_o rfl (A_s rfl (decide_eq_false hg72) rfl) ?_
     refine dw_nil ?_
     refine A_O ?_
     exact A_G ⟨rfl, rfl, rfl, rfl, rfl, A_X (dq_Q ((or_iff_right hg72).trans Iff.rfl)), trivial⟩ rfl
    refine A_g rfl rfl rfl rfl (decide_eq_true hg72) ?_
    refine A_g rfl rfl rfl rfl (decide_eq_true hg72) ?_
    refine A_g rfl rfl rfl rfl (decide_eq_true hg72) ?_
    refine A_g rfl rfl rfl rfl (decide_eq_true hg72) ?_
    refine A_g rfl rfl rfl rfl (decide_eq_true hg72) ?_
    refine A_g rfl rfl rfl rfl (decide_eq_true hg72) ?_
    refine A_g rfl rfl rfl rfl (decide_eq_true hg72) ?_
    refine A_g rfl rfl rfl rfl (decide_eq_true hg72) ?_
    refine dw_o rfl (A_n rfl (decide_eq_true hg72) rfl) ?_
    refine dw_nil ?_
    refine A_O ?_
    exact A_G ⟨rfl, rfl, rfl, rfl, rfl, A_X (dq_T rfl (Or.inl hg72)), trivial⟩ rfl
   refine A_t K16 ?_
   refine A_E rfl (fun h82 => ?_) (fun h82 => ?_)
   ·refine esk rfl ?_
    refine A_Q ?_
    exact retR1 (.inr rfl) results58 (A_H (A_T rfl (cv_bool (by refine (decide_eq_false (fun h => ?_)).symm; have hl := h.two x (by omega) (by omega); unfold LabOk lbl at hl; omega))))
   have hlx : LabOk c ls x := by unfold LabOk lbl; omega
   refine esp K9 ?_
   refine A_F ?_
   refine A_A rfl (A_m rfl rfl (by omega) (by omega)) ?_
   refine emm rfl ?_
   refine A_O ?_
   refine ent_drop 0 ?_
   refine A_V (s := (x)) (x + 1) ⟨(by omega), ‹_›, (fun z z0 z1 => by by_cases hz : z = x; (rw [hz]; first | exact hlx | omega); exact h2 z z0 (by omega))⟩ (by omega) (A_G ⟨rfl, rfl, rfl, rfl, rfl, trivial⟩ rfl)
  refine esp K9 ?_
  refine A_F ?_
  refine A_A rfl (A_m rfl rfl (by omega) (by omega)) ?_
  refine emm rfl ?_
  refine A_O ?_
  refine ent_drop 0 ?_
  refine A_V (s := (x)) (x + 1) ⟨(by omega), ‹_›, (fun z z0 z1 => by by_cases hz : z = x; (rw [hz]; first | exact hlx | omega); exact h2 z z0 (by omega))⟩ (by omega) (A_G ⟨rfl, rfl, rfl, rfl, rfl, trivial⟩ rfl)
 refine A_c ?_
 refine A_t K5 ?_
 refine A_C fun _ K18 => ?_
 refine A_C fun _ K19 => ?_
 have htwo : ∀ z : Int, 1 <= z -> z < c.F.q ^ (dua c).Gen.length -> LabOk c ls z := fun z z0 z1 => h2 z z0 (by omega)
 refine A_F ?_
 refine emm rfl ?_
 refine A_A rfl (ok_len rfl runUnderlying28 rfl) ?_
 refine emm rfl ?_
 refine enk K19 ?_
 refine A_K ?_
 refine A_e (fun (u : Int) => (⟨[(0, aSp c), (1, aSl 3 true aLab ls), (84, aSl 3 true aLab ls), (85, aInt (↑ls.length : Int)), (86, aInt u)], []⟩ : St)) (fun (u : Int) => (0 <= u) /\ (u <= ls.length) /\ (∀ z j2 a2 : Int, 0 <= z -> z < u -> 0 <= j2 -> j2 < c.N -> 1 <= a2 -> a2 < c.F.q -> Step3 c ls z j2 a2)) (fun (u : Int) => (ls.length - u).toNat) 0 ⟨(by omega), (by omega), (fun z j2 a2 z0 z1 => by omega)⟩ (A_G ⟨rfl, rfl, rfl, rfl, A_W (A_j (show 0 = (0 : Int) by rfl)), trivial⟩ rfl) ?_
 rintro u ⟨u0, u1, h3⟩
 show Ent _ ⟨_, []⟩ _
 refine esr rfl fun _ K20 => ?_
 refine A_A rfl (A_p rfl rfl) ?_
 refine enk K20 ?_
 refine A_C fun _ K21 => ?_
 refine A_E rfl (fun h87 => ?_) (fun h87 => ?_)
 ·refine esp K21 ?_
  refine A_C fun _ K22 => ?_
  refine A_K ?_
  refine esr rfl fun _ K23 => ?_
  refine A_A rfl (A_d (0, 0, 0) sl28 rfl rfl (by omega) (by omega)) ?_
  refine A_A rfl (A_U ti45 rfl) ?_
  refine ent_alloc (z := .agg #[.int .i64 0, .int .i64 0, .int .i64 0]) [aInt 0, aInt 0, aInt 0] rfl zv45 rfl zc45 (fun b9_2 => ?_)
  refine emm rfl ?_
  refine ent_storeBS (k := 0) sizeOf45 rfl rfl rfl (AllOne.mem ⟨(A_D _), (A_D _), (A_D _), trivial⟩) rfl rfl ?_
  show Ent _ ⟨_, [_]⟩ _
  refine enk K23 ?_
  refine esr rfl fun _ K24 => ?_
  refine A_A rfl (A_k rfl) ?_
  refine A_A rfl (A_a runUnderlying70 rfl sizeOf25 rfl rfl) ?_
  refine A_A rfl (A_U ti25 rfl) ?_
  refine A_A rfl (ok_len rfl runUnderlying25 rfl) ?_
  refine emm rfl ?_
  refine enk K24 ?_
  refine A_K ?_
  refine A_e (fun (j : Int) => (⟨[(0, aSp c), (1, aSl 3 true aLab ls), (8, aInt u), (9, aEx (.pointer (some ⟨b9_2, 0, none⟩))), (84, aSl 3 true aLab ls), (85, aInt (↑ls.length : Int)), (86, aInt u), (95, aInt (↑(turnL (dua c).Gen c.N).length : Int)), (96, aInt j)], [oBox b9_2 45 [aInt ((ix (0, 0, 0) ls u).1), aInt ((ix (0, 0, 0) ls u).2.1), aInt ((ix (0, 0, 0) ls u).2.2)]]⟩ : St)) (fun (j : Int) => (0 <= j) /\ (j <= c.N) /\ (∀ j2 a2 : Int, 0 <= j2 -> j2 < j -> 1 <= a2 -> a2 < c.F.q -> Step3 c ls u j2 a2)) (fun (j : Int) => (c.N - j).toNat) 0 ⟨(by omega), (by omega), (fun j2 a2 z0 z1 => by omega)⟩ (A_G ⟨rfl, rfl, rfl, rfl, rfl, rfl, rfl, rfl, A_W (A_j (show 0 = (0 : Int) by rfl)), trivial⟩ rfl) ?_
  rintro j ⟨j0, j1, h4⟩
  show Ent _ ⟨_, [_]⟩ _
  refine esr rfl fun _ K25 => ?_
  refine A_A rfl (A_p rfl rfl) ?_
  refine enk K25 ?_
  refine A_C fun _ K26 => ?_
  refine A_E rfl (fun h97 => ?_) (fun h97 => ?_)
  ·refine esp K26 ?_
   refine A_C fun _ K27 => ?_
   refine A_K ?_
   refine esk rfl ?_
   refine esk rfl ?_
   refine A_K ?_
   refine A_e (fun (a : Int) => (⟨[(0, aSp c), (1, aSl 3 true aLab ls), (8, aInt u), (9, aEx (.pointer (some ⟨b9_2, 0, none⟩))), (10, aInt j), (11, aInt a), (84, aSl 3 true aLab ls), (85, aInt (↑ls.length : Int)), (86, aInt u), (95, aInt (↑(turnL (dua c).Gen c.N).length : Int)), (96, aInt j)], [oBox b9_2 45 [aInt ((ix (0, 0, 0) ls u).1), aInt ((ix (0, 0, 0) ls u).2.1), aInt ((ix (0, 0, 0) ls u).2.2)]]⟩ : St)) (fun (a : Int) => (1 <= a) /\ (a <= c.F.q) /\ (∀ a2 : Int, 1 <= a2 -> a2 < a -> Step3 c ls u j a2)) (fun (a : Int) => (c.F.q - a).toNat) 1 ⟨(by omega), (by omega), (fun a2 z0 z1 => by omega)⟩ (A_G ⟨rfl, rfl, rfl, rfl, rfl, A_W (A_j (show 1 = (1 : Int) by rfl)), rfl, rfl, rfl, rfl, rfl, trivial⟩ rfl) ?_
   rintro a ⟨a0, a1, h5⟩
   show Ent _ ⟨_, [_]⟩ _
   refine A_C fun _ K30 => ?_
   refine esr rfl fun _ K31 => ?_
   refine A_A rfl (A_k rfl) ?_
   refine A_A rfl (A_a runUnderlying70 rfl sizeOf3 rfl rfl) ?_
   refine A_A rfl (A_U ti3 rfl) ?_
   refine A_A rfl (A_p rfl rfl) ?_
   refine enk K31 ?_
   refine A_E rfl (fun h104 => ?_) (fun h104 => ?_)
   ·have hmu := min_dig hk u j a
    have hbu : 0 <= (ix (0, 0, 0) ls u).1 /\ (ix (0, 0, 0) ls u).1 < c.F.q ^ (dua c).Gen.length := two_bd hk hz0 htwo u0 (by omega)
    refine esp K30 ?_
    refine A_C fun _ K32 => ?_
    refine A_K ?_
    refine esr rfl fun _ K33 => ?_
    refine A_A rfl (A_S (minus_ok c u j a hk hct ‹_› (by omega) ‹_› (by omega)) rfl) ?_
    refine A_A rfl (A_d (0, 0, 0) sl28 rfl rfl (by omega) (by omega)) ?_
    refine A_A rfl (A_a runUnderlying45 rfl sizeOf3 rfl rfl) ?_
    refine A_A rfl (A_U ti3 rfl) ?_
    refine emm rfl ?_
    refine enk K33 ?_
    refine A_C fun _ K34 => ?_
    refine ent_cut (⟨[(0, aSp c), (1, aSl 3 true aLab ls), (8, aInt u), (9, aEx (.pointer (some ⟨b9_2, 0, none⟩))), (10, aInt j), (11, aInt a), (84, aSl 3 true aLab ls), (85, aInt (↑ls.length : Int)), (86, aInt u), (95, aInt (↑(turnL (dua c).Gen c.N).length : Int)), (96, aInt j), (127, aBool (decide (((((ix (0, 0, 0) ls u).1) + 1) < ((ix (0, 0, 0) ls (minV c u j a)).1)) \/ (((ix (0, 0, 0) ls (minV c u j a)).1) < (((ix (0, 0, 0) ls u).1) - 1)))))], [oBox b9_2 45 [aInt ((ix (0, 0, 0) ls u).1), aInt ((ix (0, 0, 0) ls u).2.1), aInt ((ix (0, 0, 0) ls u).2.2)]]⟩) ?_ ?_
    ·refine A_F ?_
     refine emm rfl ?_
     refine A_A rfl (A_B runUnderlying45 rfl sizeOf3 (by decide) rfl) ?_
     refine A_A rfl (A_N (k := 0) isAgg3 rfl rfl rfl) ?_
     refine A_A rfl (A_m rfl rfl (by omega) (by omega)) ?_
     refine A_A rfl (ok_gtr rfl rfl) ?_
     refine emm rfl ?_
     refine A_x rfl rfl rfl rfl (fun hg121 => ?_) (fun hg121 => ?_)
     ·refine emm rfl ?_
      refine A_L rfl rfl rfl rfl (decide_eq_false hg121) ?_
      refine A_A rfl (A_B runUnderlying45 rfl sizeOf3 (by decide) rfl) ?_
      refine A_L rfl rfl rfl rfl (decide_eq_false hg121) ?_
      refine A_A rfl (A_N (k := 0) isAgg3 rfl rfl rfl) ?_
      refine A_L rfl rfl rfl rfl (decide_eq_false hg121) ?_
      refine A_A rfl (ok_sub rfl rfl (by omega) (by omega)) ?_
      refine A_L rfl rfl rfl rfl (decide_eq_false hg121) ?_
      refine A_A rfl (A_p rfl rfl) ?_
      refine A_A rfl (A_s rfl (decide_eq_false hg121) rfl) ?_
      refine A_O ?_
      exact A_G ⟨rfl, rfl, rfl, rfl, rfl, rfl, rfl, rfl, rfl, rfl, rfl, A_X (dq_Q ((or_iff_right hg121).trans Iff.rfl)), trivial⟩ rfl
     refine A_J rfl rfl rfl rfl (decide_eq_true hg121) ?_
     refine A_J rfl rfl rfl rfl (decide_eq_true hg121) ?_
     refine A_J rfl rfl rfl rfl (decide_eq_true hg121) ?_
     refine A_J rfl rfl rfl rfl (decide_eq_true hg121) ?_
     refine A_A rfl (A_n rfl (decide_eq_true hg121) rfl) ?_
     refine A_O ?_
     exact A_G ⟨rfl, rfl, rfl, rfl, rfl, rfl, rfl, rfl, rfl, rfl, rfl, A_X (dq_T rfl (Or.inl hg121)), trivial⟩ rfl
    refine A_t K34 ?_
    refine A_E rfl (fun h127 => ?_) (fun h127 => ?_)
    ·refine esk rfl ?_
     refine A_Q ?_
     exact retR1 (.inr rfl) results58 (A_H (A_T rfl (cv_bool (by refine (decide_eq_false (fun h => ?_)).symm; exact h.three u j a u0 (by omega) j0 (by omega) a0 (by omega) h127))))
    refine esp K32 ?_
    refine A_F ?_
    refine emm rfl ?_
    refine A_A rfl (A_m rfl rfl (by omega) (by omega)) ?_
    refine emm rfl ?_
    refine A_O ?_
    refine A_V (s := (a)) (a + 1) ⟨(by omega), ‹_›, (fun a2 b0 b1 => by by_cases hz : a2 = a; (rw [hz]; exact h127); exact h5 a2 b0 (by omega))⟩ (by omega) (A_G ⟨rfl, rfl, rfl, rfl, rfl, rfl, rfl, rfl, rfl, rfl, rfl, trivial⟩ rfl)
   refine A_c ?_
   refine A_t K27 ?_
   refine A_F ?_
   refine A_A rfl (A_m rfl rfl (by omega) (by omega)) ?_
   refine emm rfl ?_
   refine A_O ?_
   refine A_V (s := (j)) (j + 1) ⟨(by omega), (by omega), (fun j2 a2 b0 b1 c0 c1 => by by_cases hz : j2 = j; (rw [hz]; exact h5 a2 c0 (by omega)); exact h4 j2 a2 b0 (by omega) c0 c1)⟩ (by omega) (A_G ⟨rfl, rfl, rfl, rfl, rfl, rfl, rfl, rfl, rfl, trivial⟩ rfl)
  refine A_c ?_
  refine A_t K22 ?_
  refine A_F ?_
  refine A_A rfl (A_m rfl rfl (by omega) (by omega)) ?_
  refine emm rfl ?_
  refine A_O ?_
  refine ent_drop 0 ?_
  refine A_V (s := (u)) (u + 1) ⟨(by omega), ‹_›, (fun z j2 a2 z0 z1 b0 b1 c0 c1 => by by_cases hz : z = u; (rw [hz]; exact h4 j2 a2 b0 (by omega) c0 c1); exact h3 z j2 a2 z0 (by omega) b0 b1 c0 c1)⟩ (by omega) (A_G ⟨rfl, rfl, rfl, rfl, rfl, trivial⟩ rfl)
 refine A_c ?_
 refine A_t K18 ?_
 refine esk rfl ?_
 refine A_Q ?_
 exact retR1 (.inr rfl) results58 (A_H (A_T rfl (cv_bool (by exact (decide_eq_true (⟨hlen, hz0, htwo, fun z j2 a2 z0 z1 b0 b1 c0 c1 => h3 z j2 a2 z0 (by omega) b0 b1 c0 c1⟩ : Prv c ls)).symm))))

end Go.Proofs.YtcilbmggiahciaaGreat

