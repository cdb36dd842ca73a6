/-
  Facts for the law ConvInverses.
-/
import Derived.Test.YtfjhbdfgbpcchaaQ16
open Go Go.Cw
namespace Go.Proofs.Ytfjhbdfgbpcchaa
open Try
set_option maxRecDepth 100000
set_option linter.unusedVariables false
set_option linter.unusedSimpArgs false
theorem ConvInverses_ok (c : Cnv)  : Ctr Try.prog 13 [aCnv c] (aBool true) := by
 have hik : c.k = (c.Gen.length : Int) := rfl
 have hen : c.n = ((ix [] c.Gen 0).length : Int) := rfl
 refine ctr_of Try.call13 func13 rfl rfl ?_
 intro w O
 refine ent_lenC 0 2 rfl rfl (fun hlen0_2 => ?_)
 refine ent_lenC 0 3 rfl rfl (fun hlen0_3 => ?_)
 refine esr rfl fun _ K1 => ?_
 refine ent_boxS rfl rfl (AllOne.mem ⟨(one_int _), (one_int _), one_sl, one_sl, trivial⟩) (fun b1_1 => ?_)
 refine emm rfl ?_
 refine enk K1 ?_
 refine ent_seq fun _ K2 => ?_
 refine ent_seq fun _ K3 => ?_
 refine ent_cut (⟨[(1, aEx (.pointer (some ⟨b1_1, 0, none⟩))), (28, aBool (decide ((((¬ c.Short) ∨ (c.err ≠ 0)) ∨ (6 < (↑(ix [] c.Gen 0).length : Int))) ∨ (3 < (↑c.Gen.length : Int)))))], [oBox b1_1 27 [aInt c.F.P, aInt c.F.M, aSl 1 false aInt c.F.mod, aSl 1 false aRows c.Gen]]⟩) ?_ ?_
 ·refine ent_region ?_
  refine ent_o rfl (ok_loadBS (k := 0) ti27 rfl rfl rfl) ?_
  refine ent_o rfl (ok_call (few_ok c) rfl) ?_
  refine ent_o rfl (ok_notD rfl) ?_
  refine emm rfl ?_
  refine ent_guardXDf rfl rfl rfl rfl (fun hg10 => ?_) (fun hg10 => ?_)
  ·refine ent_o rfl (ok_loadBS (k := 0) ti27 rfl rfl rfl) ?_
   refine ent_guardXT rfl rfl rfl rfl (decide_eq_false hg10) ?_
   refine ent_o rfl (ok_call (rCnvCheck_ok c (Classical.not_not.1 hg10).1) rfl) ?_
   refine ent_guardXT rfl rfl rfl rfl (decide_eq_false hg10) ?_
   refine ent_o rfl (ok_neq rfl rfl) ?_
   refine ent_o rfl (ok_pickF rfl (decide_eq_false hg10) rfl) ?_
   refine emm rfl ?_
   refine ent_guardXDf rfl rfl rfl rfl (fun hg15 => ?_) (fun hg15 => ?_)
   ·refine ent_o rfl (ok_fieldAddrEx runUnderlying27 rfl sizeOf25 (by decide) rfl) ?_
    refine ent_guardXT rfl rfl rfl rfl (decide_eq_false hg15) ?_
    refine ent_o rfl (ok_loadB (k := 0) isAgg25 rfl rfl rfl) ?_
    refine ent_guardXT rfl rfl rfl rfl (decide_eq_false hg15) ?_
    refine ent_o rfl (ok_index [] sl25 rfl rfl (by have := (Cnv.err_zero.1 (Classical.not_not.1 hg15)).kn; omega) (by have := (Cnv.err_zero.1 (Classical.not_not.1 hg15)).kn; omega)) ?_
    refine ent_guardXT rfl rfl rfl rfl (decide_eq_false hg15) ?_
    refine ent_o rfl (ok_load ti42 rfl) ?_
    refine ent_guardXT rfl rfl rfl rfl (decide_eq_false hg15) ?_
    refine ent_o rfl (ok_len rfl runUnderlying42 rfl) ?_
    refine ent_guardXT rfl rfl rfl rfl (decide_eq_false hg15) ?_
    refine ent_o rfl (ok_gtr rfl rfl) ?_
    refine ent_o rfl (ok_pickF rfl (decide_eq_false hg15) rfl) ?_
    refine emm rfl ?_
    refine ent_guardXDf rfl rfl rfl rfl (fun hg23 => ?_) (fun hg23 => ?_)
    ·refine ent_o rfl (ok_fieldAddrEx runUnderlying27 rfl sizeOf25 (by decide) rfl) ?_
     refine ent_guardXT rfl rfl rfl rfl (decide_eq_false hg23) ?_
     refine ent_o rfl (ok_loadB (k := 0) isAgg25 rfl rfl rfl) ?_
     refine ent_guardXT rfl rfl rfl rfl (decide_eq_false hg23) ?_
     refine ent_o rfl (ok_len rfl runUnderlying25 rfl) ?_
     refine ent_guardXT rfl rfl rfl rfl (decide_eq_false hg23) ?_
     refine ent_o rfl (ok_gtr rfl rfl) ?_
     refine ent_o rfl (ok_pickF rfl (decide_eq_false hg23) rfl) ?_
     refine ent_nil ?_
     exact ent_rep ⟨rfl, slot_bool (dq_Q ((or_iff_right (fun h => h.elim (fun h => h.elim hg10 hg15) hg23)).trans Iff.rfl)), trivial⟩ rfl
    refine ent_guardXF rfl rfl rfl rfl (decide_eq_true hg23) ?_
    refine ent_guardXF rfl rfl rfl rfl (decide_eq_true hg23) ?_
    refine ent_guardXF rfl rfl rfl rfl (decide_eq_true hg23) ?_
    refine ent_o rfl (ok_pickT rfl (decide_eq_true hg23) rfl) ?_
    refine ent_nil ?_
    exact ent_rep ⟨rfl, slot_bool (dq_T rfl (Or.inl (Or.inr hg23))), trivial⟩ rfl
   refine ent_guardXF rfl rfl rfl rfl (decide_eq_true hg15) ?_
   refine ent_guardXF rfl rfl rfl rfl (decide_eq_true hg15) ?_
   refine ent_guardXF rfl rfl rfl rfl (decide_eq_true hg15) ?_
   refine ent_guardXF rfl rfl rfl rfl (decide_eq_true hg15) ?_
   refine ent_guardXF rfl rfl rfl rfl (decide_eq_true hg15) ?_
   refine ent_o rfl (ok_pickT rfl (decide_eq_true hg15) rfl) ?_
   refine emm rfl ?_
   refine ent_guardXF rfl rfl rfl rfl rfl ?_
   refine ent_guardXF rfl rfl rfl rfl rfl ?_
   refine ent_guardXF rfl rfl rfl rfl rfl ?_
   refine ent_guardXF rfl rfl rfl rfl rfl ?_
   refine ent_o rfl (ok_pickT rfl rfl rfl) ?_
   refine ent_nil ?_
   exact ent_rep ⟨rfl, slot_bool (dq_T rfl (Or.inl (Or.inl (Or.inr hg15)))), trivial⟩ rfl
  refine ent_guardXF rfl rfl rfl rfl (decide_eq_true hg10) ?_
  refine ent_guardXF rfl rfl rfl rfl (decide_eq_true hg10) ?_
  refine ent_o rfl (ok_pickT rfl (decide_eq_true hg10) rfl) ?_
  refine emm rfl ?_
  refine ent_guardXF rfl rfl rfl rfl rfl ?_
  refine ent_guardXF rfl rfl rfl rfl rfl ?_
  refine ent_guardXF rfl rfl rfl rfl rfl ?_
  refine ent_guardXF rfl rfl rfl rfl rfl ?_
  refine ent_guardXF rfl rfl rfl rfl rfl ?_
  refine ent_guardXF rfl rfl rfl rfl rfl ?_
  refine ent_o rfl (ok_pickT rfl rfl rfl) ?_
  refine emm rfl ?_
  refine ent_guardXF rfl rfl rfl rfl rfl ?_
  refine ent_guardXF rfl rfl rfl rfl rfl ?_
  refine ent_guardXF rfl rfl rfl rfl rfl ?_
  refine ent_guardXF rfl rfl rfl rfl rfl ?_
  refine ent_o rfl (ok_pickT rfl rfl rfl) ?_
  refine ent_nil ?_
  exact ent_rep ⟨rfl, slot_bool (dq_T rfl (Or.inl (Or.inl (Or.inl hg10)))), trivial⟩ rfl
 refine ent_k K3 ?_
 refine ent_condD rfl (fun h28 => ?_) (fun h28 => ?_)
 ·refine esk rfl ?_
  refine ent_ret ?_
  exact retR1 (.inr rfl) results13 (resr_tmp (res_cv rfl (cv_bool rfl)))
 have hFew : c.Few := (Classical.not_not.1 (fun h => h28 (.inl (.inl (.inl h))))).1
 have hOk := Cnv.err_zero.1 (Classical.not_not.1 (fun h => h28 (.inl (.inl (.inr h)))))
 have hF := hOk.fld
 have hkn := hOk.kn
 have hs : c.Ok → c.k ≤ 3 ∧ c.n ≤ 6 := fun _ => by omega
 have hmo := Cnv.minL_one hFew hOk
 refine esp K2 ?_
 refine esr rfl fun _ K5 => ?_
 refine ent_o rfl (ok_loadBS (k := 0) ti27 rfl rfl rfl) ?_
 refine ent_o rfl (ok_call (Basic_ok c ‹_› hs hOk) rfl) ?_
 refine emm rfl ?_
 refine ent_o rfl (ok_extract rfl rfl) ?_
 refine ent_o rfl (ok_extract rfl rfl) ?_
 refine emm rfl ?_
 refine enk K5 ?_
 refine esr rfl fun _ K6 => ?_
 refine ent_o rfl (ok_loadBS (k := 0) ti27 rfl rfl rfl) ?_
 rcases Classical.em (c.minL.length = 1) with hB | hB
 ·refine ent_o rfl (ok_call (Inverse_ok c ‹_› ‹_› hF (hs hOk).1 (hs hOk).2 hB) rfl) ?_
  refine ent_exiT 36 rfl (fun R_2 hR_2 => ?_)
  have hT := hR_2
  refine emm rfl ?_
  refine ent_o rfl (ok_extract rfl rfl) ?_
  refine ent_o rfl (ok_extract rfl rfl) ?_
  refine emm rfl ?_
  refine enk K6 ?_
  refine ent_seq fun _ K7 => ?_
  refine esr rfl fun _ K8 => ?_
  refine ent_o rfl (ok_neq rfl rfl) ?_
  refine emm rfl ?_
  refine ent_guardXT rfl rfl rfl rfl (by decide) ?_
  refine emm rfl ?_
  refine ent_guardXT rfl rfl rfl rfl (by decide) ?_
  refine ent_o rfl (ok_loadBS (k := 0) ti27 rfl rfl rfl) ?_
  refine ent_guardXT rfl rfl rfl rfl (by decide) ?_
  refine ent_o rfl (ok_call (rMinorsL_ok c ‹_› hOk) rfl) ?_
  refine ent_guardXT rfl rfl rfl rfl (by decide) ?_
  refine ent_buildN aInt [1] rfl vt22 (by decide) (⟨0, 1, rfl, .inl ⟨rfl, _, rfl, (one_int _), rfl, rfl⟩⟩) rfl (fun b45_3 => ?_)
  refine ent_guardXT rfl rfl rfl rfl (by decide) ?_
  refine ent_o rfl (ok_callP [0] (by exact pl_ex) (SameInts_ok c.minL [1]) ⟨arg_a rfl (cv_id (sub_lent _)), arg_a rfl (cv_vec (k := 0) (off_lent rfl (by decide)) rfl rfl), trivial⟩) ?_
  refine ent_guardXT rfl rfl rfl rfl (by decide) ?_
  refine ent_o rfl (ok_neqB underlying4 rfl rfl) ?_
  refine ent_o rfl (ok_pickF rfl (by decide) rfl) ?_
  refine enk K8 ?_
  refine ent_cond rfl (fun h48 => ?_) (fun h48 => ?_)
  ·refine esk rfl ?_
   refine ent_ret ?_
   exact retR1 (.inr rfl) results13 (resr_tmp (res_cv rfl (cv_bool (by exact absurd h48 (by rw [show decide (c.minL.length = 1) = decide (c.minL = [1]) from decide_eq_decide.2 hmo]; simp)))))
  refine esp K7 ?_
  refine ent_seq fun _ K10 => ?_
  refine esr rfl fun _ K11 => ?_
  refine ent_o rfl (ok_notD rfl) ?_
  refine enk K11 ?_
  refine ent_condD rfl (fun h50 => ?_) (fun h50 => ?_)
  ·refine esr rfl fun _ K12 => ?_
   refine ent_o rfl (ok_eql rfl rfl) ?_
   refine emm rfl ?_
   refine ent_guardXF rfl rfl rfl rfl (by decide) ?_
   refine ent_guardXF rfl rfl rfl rfl (by decide) ?_
   refine ent_guardXF rfl rfl rfl rfl (by decide) ?_
   refine ent_o rfl (ok_pickF rfl (by decide) rfl) ?_
   refine emm rfl ?_
   refine enk K12 ?_
   refine ent_ret ?_
   exact retR1 (.inr rfl) results13 (resr_tmp (res_cv rfl (cv_bool (by exact absurd hB h50))))
  refine esp K10 ?_
  refine esr rfl fun _ K13 => ?_
  refine ent_o rfl (ok_eql rfl rfl) ?_
  refine emm rfl ?_
  refine ent_guardXT rfl rfl rfl rfl (by decide) ?_
  refine ent_o rfl (ok_loadBS (k := 1) ti27 rfl rfl rfl) ?_
  refine ent_guardXT rfl rfl rfl rfl (by decide) ?_
  refine emm rfl ?_
  refine ent_guardXT rfl rfl rfl rfl (by decide) ?_
  refine ent_o rfl (ok_call (rRight_ok c R_2 ‹_› ‹_› hF hT) rfl) ?_
  refine ent_o rfl (ok_pickT rfl (by decide) rfl) ?_
  refine emm rfl ?_
  refine enk K13 ?_
  refine ent_ret ?_
  exact retR1 (.inr rfl) results13 (resr_tmp (res_cv rfl (cv_bool rfl)))
 refine ent_o rfl (ok_call (Inverse_no c ‹_› ‹_› hF (hs hOk).1 (hs hOk).2 hB) rfl) ?_
 refine emm rfl ?_
 refine ent_o rfl (ok_extract rfl rfl) ?_
 refine ent_o rfl (ok_extract rfl rfl) ?_
 refine emm rfl ?_
 refine enk K6 ?_
 refine ent_seq fun _ K14 => ?_
 refine esr rfl fun _ K15 => ?_
 refine ent_o rfl (ok_neq rfl rfl) ?_
 refine emm rfl ?_
 refine ent_guardXT rfl rfl rfl rfl (by decide) ?_
 refine emm rfl ?_
 refine ent_guardXT rfl rfl rfl rfl (by decide) ?_
 refine ent_o rfl (ok_loadBS (k := 0) ti27 rfl rfl rfl) ?_
 refine ent_guardXT rfl rfl rfl rfl (by decide) ?_
 refine ent_o rfl (ok_call (rMinorsL_ok c ‹_› hOk) rfl) ?_
 refine ent_guardXT rfl rfl rfl rfl (by decide) ?_
 refine ent_buildN aInt [1] rfl vt22 (by decide) (⟨0, 1, rfl, .inl ⟨rfl, _, rfl, (one_int _), rfl, rfl⟩⟩) rfl (fun b45_4 => ?_)
 refine ent_guardXT rfl rfl rfl rfl (by decide) ?_
 refine ent_o rfl (ok_callP [0] (by exact pl_ex) (SameInts_ok c.minL [1]) ⟨arg_a rfl (cv_id (sub_lent _)), arg_a rfl (cv_vec (k := 0) (off_lent rfl (by decide)) rfl rfl), trivial⟩) ?_
 refine ent_guardXT rfl rfl rfl rfl (by decide) ?_
 refine ent_o rfl (ok_neqB underlying4 rfl rfl) ?_
 refine ent_o rfl (ok_pickF rfl (by decide) rfl) ?_
 refine enk K15 ?_
 refine ent_cond rfl (fun h48 => ?_) (fun h48 => ?_)
 ·refine esk rfl ?_
  refine ent_ret ?_
  exact retR1 (.inr rfl) results13 (resr_tmp (res_cv rfl (cv_bool (by exact absurd h48 (by rw [show decide (c.minL.length = 1) = decide (c.minL = [1]) from decide_eq_decide.2 hmo]; simp)))))
 refine esp K14 ?_
 refine ent_seq fun _ K17 => ?_
 refine esr rfl fun _ K18 => ?_
 refine ent_o rfl (ok_notD rfl) ?_
 refine enk K18 ?_
 refine ent_condD rfl (fun h50 => ?_) (fun h50 => ?_)
 ·refine esr rfl fun _ K19 => ?_
  refine ent_o rfl (ok_eql rfl rfl) ?_
  refine emm rfl ?_
  refine ent_guardXT rfl rfl rfl rfl (by decide) ?_
  refine emm rfl ?_
  refine ent_guardXT rfl rfl rfl rfl (by decide) ?_
  refine ent_o rfl (ok_len rfl runUnderlying25 rfl) ?_
  refine ent_guardXT rfl rfl rfl rfl (by decide) ?_
  refine ent_o rfl (ok_eql rfl rfl) ?_
  refine ent_o rfl (ok_pickT rfl (by decide) rfl) ?_
  refine emm rfl ?_
  refine enk K19 ?_
  refine ent_ret ?_
  exact retR1 (.inr rfl) results13 (resr_tmp (res_cv rfl (cv_bool rfl)))
 refine esp K17 ?_
 refine esr rfl fun _ K20 => ?_
 refine ent_o rfl (ok_eql rfl rfl) ?_
 refine emm rfl ?_
 refine ent_guardXF rfl rfl rfl rfl (by decide) ?_
 refine ent_guardXF rfl rfl rfl rfl (by decide) ?_
 refine ent_guardXF rfl rfl rfl rfl (by decide) ?_
 refine ent_o rfl (ok_pickF rfl (by decide) rfl) ?_
 refine emm rfl ?_
 refine enk K20 ?_
 refine ent_ret ?_
 exact retR1 (.inr rfl) results13 (resr_tmp (res_cv rfl (cv_bool (by exact absurd hB h50))))
end Go.Proofs.Ytfjhbdfgbpcchaa
