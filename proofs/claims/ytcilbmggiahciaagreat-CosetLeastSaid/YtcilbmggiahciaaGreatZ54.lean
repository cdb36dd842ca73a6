/-
  Facts for the law CosetLeast.
-/
import Derived.Test.YtcilbmggiahciaaGreatZ50
open Go Go.Cw
namespace Go.Proofs.YtcilbmggiahciaaGreat
open Tryz
set_option maxRecDepth 100000
set_option linter.unusedVariables false
set_option linter.unusedSimpArgs false
theorem CosetLeast_walk (c : Cod) (y : List Int)  : Ctr Tryz.prog 8 [aCod c, aSl 1 false aInt y] (aBool true) := by
 refine A_q Tryz.call8 func8 rfl rfl ?_
 intro w O
 refine A_Z 0 2 rfl rfl (fun hlen0_2 => ?_)
 refine A_Z 0 4 rfl rfl (fun hlen0_4 => ?_)
 refine A_u 1 rfl (fun hlen1 => ?_)
 refine esr rfl fun _ K1 => ?_
 refine A_f rfl rfl (AllOne.mem ⟨(A_D _), (A_D _), A_b, (A_D _), A_b, trivial⟩) (fun b2_1 => ?_)
 refine emm rfl ?_
 refine enk K1 ?_
 refine A_C fun _ K2 => ?_
 refine esr rfl fun _ K3 => ?_
 refine A_A rfl (A_S alive_ok rfl) ?_
 refine A_A rfl (ok_not rfl) ?_
 refine enk K3 ?_
 refine ent_condF rfl ?_
 refine esp K2 ?_
 refine esr rfl fun _ K4 => ?_
 refine A_A rfl (A_R (k := 0) ti27 rfl rfl rfl) ?_
 refine emm rfl ?_
 refine A_A rfl (A_S (rSyn28_ok c y) rfl) ?_
 refine emm rfl ?_
 refine A_A rfl (A_P rfl rfl) ?_
 refine A_A rfl (A_P rfl rfl) ?_
 refine emm rfl ?_
 refine enk K4 ?_
 refine A_C fun _ K5 => ?_
 refine A_C fun _ K6 => ?_
 refine ent_cut (⟨[(1, aSl 1 false aInt y), (2, aEx (.pointer (some ⟨b2_1, 0, none⟩))), (5, aInt (syV c y)), (27, aBool (decide (((wsE c y) ≠ 0) \/ (¬ (csE c ≠ 0 \/ csV c <= 1024)))))], [oBox b2_1 27 [aInt c.F.P, aInt c.F.M, aSl 1 false aInt c.F.mod, aInt c.N, aSl 1 false aInts c.Gen]]⟩) ?_ ?_
 ·refine A_F ?_
  refine emm rfl ?_
  refine A_A rfl (ok_neq rfl rfl) ?_
  refine emm rfl ?_
  refine A_x rfl rfl rfl rfl (fun hg23 => ?_) (fun hg23 => ?_)
  ·refine A_A rfl (A_R (k := 0) ti27 rfl rfl rfl) ?_
   refine A_L rfl rfl rfl rfl (decide_eq_false hg23) ?_
   refine A_A rfl (A_S (small_ok c) rfl) ?_
   refine A_L rfl rfl rfl rfl (decide_eq_false hg23) ?_
   refine A_A rfl (ok_notD rfl) ?_
   refine A_A rfl (A_s rfl (decide_eq_false hg23) rfl) ?_
   refine A_O ?_
   exact A_G ⟨rfl, rfl, rfl, A_X (dq_Q ((or_iff_right hg23).trans Iff.rfl)), trivial⟩ rfl
  refine A_J rfl rfl rfl rfl (decide_eq_true hg23) ?_
  refine A_J rfl rfl rfl rfl (decide_eq_true hg23) ?_
  refine A_A rfl (A_n rfl (decide_eq_true hg23) rfl) ?_
  refine A_O ?_
  exact A_G ⟨rfl, rfl, rfl, A_X (dq_T rfl (Or.inl hg23)), trivial⟩ rfl
 refine A_t K6 ?_
 refine A_E rfl (fun h27 => ?_) (fun h27 => ?_)
 ·refine esk rfl ?_
  refine A_Q ?_
  exact retR1 (.inr rfl) results8 (A_H (A_T rfl (cv_bool rfl)))
 have hws : wsE c y = 0 := Classical.byContradiction fun h => h27 (.inl h)
 have hcs := ws_cs hws
 have hkk := csE_zero.1 hcs
 have hk := hkk.1
 have hsr := syV_rng hws
 have hpv := bld_prv hcs
 have hck : chkL c (bldL c) = 0 := chkL_yes hcs hpv
 have hle : ldE c (bldL c) (syV c y) = 0 := by rw [ldE_rng hck, if_neg (by omega)]
 have hlw : ldW c (bldL c) (syV c y) = leadW c (bldL c) (syV c y) := if_pos hle
 have hlf := lead_facts hk hpv hcs hsr.1 hsr.2
 have hyl := (wrdE_zero.1 (ws_word hws)).2
 refine esp K5 ?_
 refine esr rfl fun _ K8 => ?_
 refine A_A rfl (A_R (k := 0) ti27 rfl rfl rfl) ?_
 refine A_A rfl (A_S (Build_ok c) rfl) ?_
 refine emm rfl ?_
 refine A_A rfl (A_P rfl rfl) ?_
 refine A_A rfl (A_P rfl rfl) ?_
 refine emm rfl ?_
 refine enk K8 ?_
 refine esr rfl fun _ K9 => ?_
 refine A_A rfl (A_R (k := 0) ti27 rfl rfl rfl) ?_
 refine emm rfl ?_
 refine A_A rfl (A_S (cLead_ok c (bldL c) (syV c y) (bld_64 c)) rfl) ?_
 refine emm rfl ?_
 refine A_A rfl (A_P rfl rfl) ?_
 refine A_A rfl (A_P rfl rfl) ?_
 refine emm rfl ?_
 refine enk K9 ?_
 refine A_C fun _ K10 => ?_
 refine A_C fun _ K11 => ?_
 refine ent_cut (⟨[(1, aSl 1 false aInt y), (2, aEx (.pointer (some ⟨b2_1, 0, none⟩))), (9, aSl 1 false aInt (ldW c (bldL c) (syV c y))), (52, aBool (decide ((((csE c) ≠ 0) \/ ((ldE c (bldL c) (syV c y)) ≠ 0)) \/ ((↑(ldW c (bldL c) (syV c y)).length : Int) ≠ c.N))))], [oBox b2_1 27 [aInt c.F.P, aInt c.F.M, aSl 1 false aInt c.F.mod, aInt c.N, aSl 1 false aInts c.Gen]]⟩) ?_ ?_
 ·refine A_F ?_
  refine emm rfl ?_
  refine A_A rfl (ok_neq rfl rfl) ?_
  refine emm rfl ?_
  refine A_x rfl rfl rfl rfl (fun hg42 => ?_) (fun hg42 => ?_)
  ·refine emm rfl ?_
   refine A_L rfl rfl rfl rfl (decide_eq_false hg42) ?_
   refine A_A rfl (ok_neq rfl rfl) ?_
   refine A_A rfl (A_s rfl (decide_eq_false hg42) rfl) ?_
   refine emm rfl ?_
   refine A_x rfl rfl rfl rfl (fun hg46 => ?_) (fun hg46 => ?_)
   ·refine emm rfl ?_
    refine A_L rfl rfl rfl rfl (decide_eq_false hg46) ?_
    refine A_A rfl (ok_len rfl runUnderlying22 rfl) ?_
    refine A_L rfl rfl rfl rfl (decide_eq_false hg46) ?_
    refine A_A rfl (A_B runUnderlying27 rfl sizeOf3 (by decide) rfl) ?_
    refine A_L rfl rfl rfl rfl (decide_eq_false hg46) ?_
    refine A_A rfl (A_N (k := 0) isAgg3 rfl rfl rfl) ?_
    refine A_L rfl rfl rfl rfl (decide_eq_false hg46) ?_
    refine A_A rfl (ok_neq rfl rfl) ?_
    refine A_A rfl (A_s rfl (decide_eq_false hg46) rfl) ?_
    refine A_O ?_
    exact A_G ⟨rfl, rfl, rfl, A_X (dq_Q ((or_iff_right (fun h => h.elim hg42 hg46)).trans Iff.rfl)), trivial⟩ rfl
   refine A_J rfl rfl rfl rfl (decide_eq_true hg46) ?_
   refine A_J rfl rfl rfl rfl (decide_eq_true hg46) ?_
   refine A_J rfl rfl rfl rfl (decide_eq_true hg46) ?_
   refine A_J rfl rfl rfl rfl (decide_eq_true hg46) ?_
   refine A_A rfl (A_n rfl (decide_eq_true hg46) rfl) ?_
   refine A_O ?_
   exact A_G ⟨rfl, rfl, rfl, A_X (dq_T rfl (Or.inl (Or.inr hg46))), trivial⟩ rfl
  refine A_J rfl rfl rfl rfl (decide_eq_true hg42) ?_
  refine A_A rfl (A_n rfl (decide_eq_true hg42) rfl) ?_
  refine emm rfl ?_
  refine A_J rfl rfl rfl rfl rfl ?_
  refine A_J rfl rfl rfl rfl rfl ?_
  refine A_J rfl rfl rfl rfl rfl ?_
  refine A_J rfl rfl rfl rfl rfl ?_
  refine A_J rfl rfl rfl rfl rfl ?_
  refine A_A rfl (A_n rfl rfl rfl) ?_
  refine A_O ?_
  exact A_G ⟨rfl, rfl, rfl, A_X (dq_T rfl (Or.inl (Or.inl hg42))), trivial⟩ rfl
 refine A_t K11 ?_
 refine A_E rfl (fun h52 => ?_) (fun h52 => ?_)
 ·refine absurd h52 ?_; rw [hcs, hle, hlw, hlf.2.2.2.2]; simp
 refine esp K10 ?_
 refine esr rfl fun _ K12 => ?_
 refine A_A rfl (A_B runUnderlying27 rfl sizeOf24 (by decide) rfl) ?_
 refine A_A rfl (A_R (k := 0) ti24 rfl rfl rfl) ?_
 refine emm rfl ?_
 refine A_A rfl (A_S (rWeight_ok c.F (ldW c (bldL c) (syV c y)) (by rw [hlw]; have := hlf.2.2.2.2; have := hk.n64; omega) (by rw [hlw]; exact hlf.2.2.2.1)) rfl) ?_
 refine emm rfl ?_
 refine enk K12 ?_
 refine esr rfl fun _ K13 => ?_
 refine A_A rfl (A_B runUnderlying27 rfl sizeOf24 (by decide) rfl) ?_
 refine A_A rfl (A_R (k := 0) ti24 rfl rfl rfl) ?_
 refine emm rfl ?_
 refine A_A rfl (A_S (rWeight_ok c.F y (by have := hyl.1; have := hk.n64; omega) hyl.2) rfl) ?_
 refine emm rfl ?_
 refine enk K13 ?_
 refine A_C fun _ K14 => ?_
 refine ent_cut (⟨[(4, aBool (decide (((wt (ldW c (bldL c) (syV c y))) < (wt y)) \/ (((wt (ldW c (bldL c) (syV c y))) = (wt y)) /\ ((cmpL (ldW c (bldL c) (syV c y)) y) <= 0)))))], [oBox b2_1 27 [aInt c.F.P, aInt c.F.M, aSl 1 false aInt c.F.mod, aInt c.N, aSl 1 false aInts c.Gen]]⟩) ?_ ?_
 ·refine A_F ?_
  refine emm rfl ?_
  refine A_A rfl (A_p rfl rfl) ?_
  refine emm rfl ?_
  refine A_x rfl rfl rfl rfl (fun hg64 => ?_) (fun hg64 => ?_)
  ·refine emm rfl ?_
   refine A_L rfl rfl rfl rfl (decide_eq_false hg64) ?_
   refine emm rfl ?_
   refine A_L rfl rfl rfl rfl (decide_eq_false hg64) ?_
   refine A_A rfl (ok_eql rfl rfl) ?_
   refine A_L rfl rfl rfl rfl (decide_eq_false hg64) ?_
   refine emm rfl ?_
   refine ent_guardXDt rfl rfl rfl rfl (fun hg68 => ?_) (fun hg68 => ?_)
   ·refine emm rfl ?_
    refine A_L rfl rfl rfl rfl (decide_eq_true hg68) ?_
    refine emm rfl ?_
    refine A_L rfl rfl rfl rfl (decide_eq_true hg68) ?_
    refine A_A rfl (A_S (rCompare_ok (ldW c (bldL c) (syV c y)) y) rfl) ?_
    refine A_L rfl rfl rfl rfl (decide_eq_true hg68) ?_
    refine A_A rfl (ok_leq rfl rfl) ?_
    refine A_L rfl rfl rfl rfl (decide_eq_false hg64) ?_
    refine A_A rfl (A_n rfl (decide_eq_true hg68) rfl) ?_
    refine A_A rfl (A_s rfl (decide_eq_false hg64) rfl) ?_
    refine emm rfl ?_
    refine A_O ?_
    exact A_G ⟨A_X (dq_Q ((or_iff_right hg64).trans ((and_iff_right hg68).trans Iff.rfl))), trivial⟩ rfl
   refine A_J rfl rfl rfl rfl (decide_eq_false hg68) ?_
   refine A_J rfl rfl rfl rfl (decide_eq_false hg68) ?_
   refine A_J rfl rfl rfl rfl (decide_eq_false hg68) ?_
   refine A_L rfl rfl rfl rfl (decide_eq_false hg64) ?_
   refine A_A rfl (A_s rfl (decide_eq_false hg68) rfl) ?_
   refine A_A rfl (A_s rfl (decide_eq_false hg64) rfl) ?_
   refine emm rfl ?_
   refine A_O ?_
   exact A_G ⟨A_X (dq_F rfl (fun h => h.elim hg64 (fun h => hg68 h.1))), trivial⟩ rfl
  refine A_J rfl rfl rfl rfl (decide_eq_true hg64) ?_
  refine A_J rfl rfl rfl rfl (decide_eq_true hg64) ?_
  refine A_J rfl rfl rfl rfl (decide_eq_true hg64) ?_
  refine ent_guardU rfl rfl rfl rfl ?_
  refine ent_guardU rfl rfl rfl rfl ?_
  refine ent_guardU rfl rfl rfl rfl ?_
  refine ent_guardU rfl rfl rfl rfl ?_
  refine A_J rfl rfl rfl rfl (decide_eq_true hg64) ?_
  refine A_A rfl (A_n rfl (decide_eq_true hg64) rfl) ?_
  refine emm rfl ?_
  refine A_O ?_
  exact A_G ⟨A_X (dq_T rfl (Or.inl hg64)), trivial⟩ rfl
 refine A_t K14 ?_
 refine A_Q ?_
 exact retR1 (.inr rfl) results8 (A_H (A_T rfl (cv_bool (by refine decide_eq_true ?_; rw [hlw]; exact least_or hk hcs hws))))
end Go.Proofs.YtcilbmggiahciaaGreat
