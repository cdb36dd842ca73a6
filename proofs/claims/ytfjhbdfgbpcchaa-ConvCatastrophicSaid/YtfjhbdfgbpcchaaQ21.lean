/-
  Facts for the law ConvCatastrophic.
-/
import Derived.Test.YtfjhbdfgbpcchaaQ20
open Go Go.Cw
namespace Go.Proofs.Ytfjhbdfgbpcchaa
open Try
set_option maxRecDepth 100000
set_option linter.unusedVariables false
set_option linter.unusedSimpArgs false
theorem ConvCatastrophic_ok (c : Cnv)  : Ctr Try.prog 10 [aCnv c] (aBool true) := by
 have hik : c.k = (c.Gen.length : Int) := rfl
 have hen : c.n = ((ix [] c.Gen 0).length : Int) := rfl
 refine ctr_of Try.call10 func10 rfl rfl ?_
 intro w O
 refine ent_lenC 0 2 rfl rfl (fun hlen0_2 => ?_)
 refine ent_lenC 0 3 rfl rfl (fun hlen0_3 => ?_)
 refine esr rfl fun _ K1 => ?_
 refine ent_boxS rfl rfl (AllOne.mem ⟨(one_int _), (one_int _), one_sl, one_sl, trivial⟩) (fun b1_1 => ?_)
 refine emm rfl ?_
 refine enk K1 ?_
 refine ent_seq fun _ K2 => ?_
 refine ent_seq fun _ K3 => ?_
 refine ent_cut (⟨[(1, aEx (.pointer (some ⟨b1_1, 0, none⟩))), (27, aBool (decide ((((¬ c.Short) ∨ (c.err ≠ 0)) ∨ (3 < (↑c.Gen.length : Int))) ∨ (¬ (c.states * c.ins ≤ 256 ∧ c.n ≤ 6)))))], [oBox b1_1 27 [aInt c.F.P, aInt c.F.M, aSl 1 false aInt c.F.mod, aSl 1 false aRows c.Gen]]⟩) ?_ ?_
 ·refine ent_region ?_
  refine ent_o rfl (ok_loadBS (k := 0) ti27 rfl rfl rfl) ?_
  refine ent_o rfl (ok_call (few_ok c) rfl) ?_
  refine ent_o rfl (ok_notD rfl) ?_
  refine emm rfl ?_
  refine ent_guardXDf rfl rfl rfl rfl (fun hg12 => ?_) (fun hg12 => ?_)
  ·refine ent_o rfl (ok_loadBS (k := 0) ti27 rfl rfl rfl) ?_
   refine ent_guardXT rfl rfl rfl rfl (decide_eq_false hg12) ?_
   refine ent_o rfl (ok_call (rCnvCheck_ok c (Classical.not_not.1 hg12).1) rfl) ?_
   refine ent_guardXT rfl rfl rfl rfl (decide_eq_false hg12) ?_
   refine ent_o rfl (ok_neq rfl rfl) ?_
   refine ent_o rfl (ok_pickF rfl (decide_eq_false hg12) rfl) ?_
   refine emm rfl ?_
   refine ent_guardXDf rfl rfl rfl rfl (fun hg17 => ?_) (fun hg17 => ?_)
   ·refine ent_o rfl (ok_fieldAddrEx runUnderlying27 rfl sizeOf25 (by decide) rfl) ?_
    refine ent_guardXT rfl rfl rfl rfl (decide_eq_false hg17) ?_
    refine ent_o rfl (ok_loadB (k := 0) isAgg25 rfl rfl rfl) ?_
    refine ent_guardXT rfl rfl rfl rfl (decide_eq_false hg17) ?_
    refine ent_o rfl (ok_len rfl runUnderlying25 rfl) ?_
    refine ent_guardXT rfl rfl rfl rfl (decide_eq_false hg17) ?_
    refine ent_o rfl (ok_gtr rfl rfl) ?_
    refine ent_o rfl (ok_pickF rfl (decide_eq_false hg17) rfl) ?_
    refine emm rfl ?_
    refine ent_guardXDf rfl rfl rfl rfl (fun hg23 => ?_) (fun hg23 => ?_)
    ·refine ent_o rfl (ok_loadBS (k := 0) ti27 rfl rfl rfl) ?_
     refine ent_guardXT rfl rfl rfl rfl (decide_eq_false hg23) ?_
     refine ent_o rfl (ok_call (rSmall_ok c 256 (Classical.not_not.1 hg12).1 (Cnv.err_zero.1 (Classical.not_not.1 hg17))) rfl) ?_
     refine ent_guardXT rfl rfl rfl rfl (decide_eq_false hg23) ?_
     refine ent_o rfl (ok_notD rfl) ?_
     refine ent_o rfl (ok_pickF rfl (decide_eq_false hg23) rfl) ?_
     refine ent_nil ?_
     exact ent_rep ⟨rfl, slot_bool (dq_Q ((or_iff_right (fun h => h.elim (fun h => h.elim hg12 hg17) hg23)).trans Iff.rfl)), trivial⟩ rfl
    refine ent_guardXF rfl rfl rfl rfl (decide_eq_true hg23) ?_
    refine ent_guardXF rfl rfl rfl rfl (decide_eq_true hg23) ?_
    refine ent_o rfl (ok_pickT rfl (decide_eq_true hg23) rfl) ?_
    refine ent_nil ?_
    exact ent_rep ⟨rfl, slot_bool (dq_T rfl (Or.inl (Or.inr hg23))), trivial⟩ rfl
   refine ent_guardXF rfl rfl rfl rfl (decide_eq_true hg17) ?_
   refine ent_guardXF rfl rfl rfl rfl (decide_eq_true hg17) ?_
   refine ent_guardXF rfl rfl rfl rfl (decide_eq_true hg17) ?_
   refine ent_o rfl (ok_pickT rfl (decide_eq_true hg17) rfl) ?_
   refine emm rfl ?_
   refine ent_guardXF rfl rfl rfl rfl rfl ?_
   refine ent_guardXF rfl rfl rfl rfl rfl ?_
   refine ent_guardXF rfl rfl rfl rfl rfl ?_
   refine ent_o rfl (ok_pickT rfl rfl rfl) ?_
   refine ent_nil ?_
   exact ent_rep ⟨rfl, slot_bool (dq_T rfl (Or.inl (Or.inl (Or.inr hg17)))), trivial⟩ rfl
  refine ent_guardXF rfl rfl rfl rfl (decide_eq_true hg12) ?_
  refine ent_guardXF rfl rfl rfl rfl (decide_eq_true hg12) ?_
  refine ent_o rfl (ok_pickT rfl (decide_eq_true hg12) rfl) ?_
  refine emm rfl ?_
  refine ent_guardXF rfl rfl rfl rfl rfl ?_
  refine ent_guardXF rfl rfl rfl rfl rfl ?_
  refine ent_guardXF rfl rfl rfl rfl rfl ?_
  refine ent_guardXF rfl rfl rfl rfl rfl ?_
  refine ent_o rfl (ok_pickT rfl rfl rfl) ?_
  refine emm rfl ?_
  refine ent_guardXF rfl rfl rfl rfl rfl ?_
  refine ent_guardXF rfl rfl rfl rfl rfl ?_
  refine ent_guardXF rfl rfl rfl rfl rfl ?_
  refine ent_o rfl (ok_pickT rfl rfl rfl) ?_
  refine ent_nil ?_
  exact ent_rep ⟨rfl, slot_bool (dq_T rfl (Or.inl (Or.inl (Or.inl hg12)))), trivial⟩ rfl
 refine ent_k K3 ?_
 refine ent_condD rfl (fun h27 => ?_) (fun h27 => ?_)
 ·refine esk rfl ?_
  refine ent_ret ?_
  exact retR1 (.inr rfl) results10 (resr_tmp (res_cv rfl (cv_bool rfl)))
 have hFew : c.Few := (Classical.not_not.1 (fun h => h27 (.inl (.inl (.inl h))))).1
 have hOk := Cnv.err_zero.1 (Classical.not_not.1 (fun h => h27 (.inl (.inl (.inr h)))))
 have hF := hOk.fld
 have hkn := hOk.kn
 have hs : c.Ok → c.k ≤ 3 ∧ c.n ≤ 6 := fun _ => by omega
 have hfA : (Cnv.pairC c.F [1] [1, 1]).Few := Cnv.pair_few (by simp) (by simp)
 have hfB : (Cnv.pairC c.F [1, 1] [1, 1]).Few := Cnv.pair_few (by simp) (by simp)
 have hoA : (Cnv.pairC c.F [1] [1, 1]).Ok := Cnv.pair_ok hF (by simp) (by simp) (cn_one hF.1).1 (Cnv.cn_oneone hF.1).1
 have hoB : (Cnv.pairC c.F [1, 1] [1, 1]).Ok := Cnv.pair_ok hF (by simp) (by simp) (Cnv.cn_oneone hF.1).1 (Cnv.cn_oneone hF.1).1
 have hpw := Cnv.pow_iff (Cnv.minL_last hFew hOk)
 have hct := Cnv.cat_iff hFew hOk (hs hOk).1 (hs hOk).2
 have hcA := Cnv.pairA_cat hF
 have hcB := Cnv.pairB_cat hF
 refine esp K2 ?_
 refine esr rfl fun _ K5 => ?_
 refine ent_o rfl (ok_loadBS (k := 0) ti27 rfl rfl rfl) ?_
 refine ent_o rfl (ok_call (Catastrophic_ok c ‹_› hs hOk) rfl) ?_
 refine emm rfl ?_
 refine ent_o rfl (ok_extract rfl rfl) ?_
 refine ent_o rfl (ok_extract rfl rfl) ?_
 refine emm rfl ?_
 refine enk K5 ?_
 refine esr rfl fun _ K6 => ?_
 refine ent_o rfl (ok_fieldAddrEx runUnderlying27 rfl sizeOf24 (by decide) rfl) ?_
 refine ent_o rfl (ok_loadBS (k := 0) ti24 rfl rfl rfl) ?_
 refine ent_buildN aInt [1] rfl vt22 (by decide) (⟨0, 1, rfl, .inl ⟨rfl, _, rfl, (one_int _), rfl, rfl⟩⟩) rfl (fun b36_2 => ?_)
 refine ent_buildN aInt [1, 1] rfl vt22 (by decide) (⟨0, 1, rfl, .inl ⟨rfl, _, rfl, (one_int _), rfl, ⟨1, 1, rfl, .inl ⟨rfl, _, rfl, (one_int _), rfl, rfl⟩⟩⟩⟩) rfl (fun b37_3 => ?_)
 refine ent_give 1 36 rfl (cv_vec (k := 1) (off_erase rfl) rfl rfl) ?_
 refine ent_give 0 37 rfl (cv_vec (k := 0) (off_erase rfl) rfl rfl) ?_
 refine ent_buildN aInts [[1], [1, 1]] rfl vt42 (by decide) (⟨0, 1, rfl, .inl ⟨rfl, _, rfl, one_sl, rfl, ⟨1, 1, rfl, .inl ⟨rfl, _, rfl, one_sl, rfl, rfl⟩⟩⟩⟩) rfl (fun b38_4 => ?_)
 refine ent_give 0 38 rfl (cv_vec (k := 0) (off_erase rfl) rfl rfl) ?_
 refine ent_buildN aRows [[[1], [1, 1]]] rfl vt25 (by decide) (⟨0, 1, rfl, .inl ⟨rfl, _, rfl, one_sl, rfl, rfl⟩⟩) rfl (fun b39_5 => ?_)
 refine ent_o rfl (ok_build st27 (As := [aInt 0, aInt 0, aEx (.slice none 0 0), aEx (.slice none 0 0)]) z27 (⟨0, 3, rfl, .inr ⟨_, rfl, rfl, rfl, ⟨3, 1, rfl, .inl ⟨rfl, _, rfl, (one_ex rfl), rfl, rfl⟩⟩⟩⟩)) ?_
 refine ent_o rfl (ok_callP [0] (by exact pl_tup ⟨pl_ex, pl_ex, trivial⟩) (Catastrophic_ok (Cnv.pairC c.F [1] [1, 1]) hfA (fun _ => ⟨by show ((1 : Nat) : Int) ≤ 3; decide, by show ((2 : Nat) : Int) ≤ 6; decide⟩) hoA) ⟨arg_a rfl (cv_agg ⟨cv_int rfl, cv_int rfl, cv_sl (sub_lent _) rfl, cv_vec (k := 0) (off_lent rfl (by decide)) rfl rfl, trivial⟩), trivial⟩) ?_
 refine emm rfl ?_
 refine ent_o rfl (ok_extract rfl rfl) ?_
 refine ent_o rfl (ok_extract rfl rfl) ?_
 refine emm rfl ?_
 refine enk K6 ?_
 refine esr rfl fun _ K7 => ?_
 refine ent_o rfl (ok_fieldAddrEx runUnderlying27 rfl sizeOf24 (by decide) rfl) ?_
 refine ent_o rfl (ok_loadBS (k := 1) ti24 rfl rfl rfl) ?_
 refine ent_buildN aInt [1, 1] rfl vt22 (by decide) (⟨0, 1, rfl, .inl ⟨rfl, _, rfl, (one_int _), rfl, ⟨1, 1, rfl, .inl ⟨rfl, _, rfl, (one_int _), rfl, rfl⟩⟩⟩⟩) rfl (fun b47_6 => ?_)
 refine ent_buildN aInt [1, 1] rfl vt22 (by decide) (⟨0, 1, rfl, .inl ⟨rfl, _, rfl, (one_int _), rfl, ⟨1, 1, rfl, .inl ⟨rfl, _, rfl, (one_int _), rfl, rfl⟩⟩⟩⟩) rfl (fun b48_7 => ?_)
 refine ent_give 1 47 rfl (cv_vec (k := 1) (off_erase rfl) rfl rfl) ?_
 refine ent_give 0 48 rfl (cv_vec (k := 0) (off_erase rfl) rfl rfl) ?_
 refine ent_buildN aInts [[1, 1], [1, 1]] rfl vt42 (by decide) (⟨0, 1, rfl, .inl ⟨rfl, _, rfl, one_sl, rfl, ⟨1, 1, rfl, .inl ⟨rfl, _, rfl, one_sl, rfl, rfl⟩⟩⟩⟩) rfl (fun b49_8 => ?_)
 refine ent_give 0 49 rfl (cv_vec (k := 0) (off_erase rfl) rfl rfl) ?_
 refine ent_buildN aRows [[[1, 1], [1, 1]]] rfl vt25 (by decide) (⟨0, 1, rfl, .inl ⟨rfl, _, rfl, one_sl, rfl, rfl⟩⟩) rfl (fun b50_9 => ?_)
 refine ent_o rfl (ok_build st27 (As := [aInt 0, aInt 0, aEx (.slice none 0 0), aEx (.slice none 0 0)]) z27 (⟨0, 3, rfl, .inr ⟨_, rfl, rfl, rfl, ⟨3, 1, rfl, .inl ⟨rfl, _, rfl, (one_ex rfl), rfl, rfl⟩⟩⟩⟩)) ?_
 refine ent_o rfl (ok_callP [0] (by exact pl_tup ⟨pl_ex, pl_ex, trivial⟩) (Catastrophic_ok (Cnv.pairC c.F [1, 1] [1, 1]) hfB (fun _ => ⟨by show ((1 : Nat) : Int) ≤ 3; decide, by show ((2 : Nat) : Int) ≤ 6; decide⟩) hoB) ⟨arg_a rfl (cv_agg ⟨cv_int rfl, cv_int rfl, cv_sl (sub_lent _) rfl, cv_vec (k := 0) (off_lent rfl (by decide)) rfl rfl, trivial⟩), trivial⟩) ?_
 refine emm rfl ?_
 refine ent_o rfl (ok_extract rfl rfl) ?_
 refine ent_o rfl (ok_extract rfl rfl) ?_
 refine emm rfl ?_
 refine enk K7 ?_
 refine ent_seq fun _ K8 => ?_
 refine ent_cut (⟨[(2, aBool (decide ((((¬ (Cnv.catP (Cnv.pairC c.F [1] [1, 1]).minL)) ∧ (Cnv.catP (Cnv.pairC c.F [1, 1] [1, 1]).minL)) ∧ (((decide (Cnv.catP c.minL)) == (decide (¬ (Cnv.powP c.minL)))) = true)) ∧ (((decide (Cnv.catP c.minL)) == (decide c.cirP)) = true))))], [oVec (some b50_9) 1 42 1 false aRows [[[1, 1], [1, 1]]], oVec (some b39_5) 1 42 1 false aRows [[[1], [1, 1]]], oBox b1_1 27 [aInt c.F.P, aInt c.F.M, aSl 1 false aInt c.F.mod, aSl 1 false aRows c.Gen]]⟩) ?_ ?_
 ·refine ent_region ?_
  refine emm rfl ?_
  refine ent_o rfl (ok_eql rfl rfl) ?_
  refine emm rfl ?_
  refine ent_guardXT rfl rfl rfl rfl (by decide) ?_
  refine emm rfl ?_
  refine ent_guardXT rfl rfl rfl rfl (by decide) ?_
  refine ent_o rfl (ok_eql rfl rfl) ?_
  refine ent_o rfl (ok_pickT rfl (by decide) rfl) ?_
  refine emm rfl ?_
  refine ent_guardXT rfl rfl rfl rfl (by decide) ?_
  refine emm rfl ?_
  refine ent_guardXT rfl rfl rfl rfl (by decide) ?_
  refine ent_o rfl (ok_eql rfl rfl) ?_
  refine ent_o rfl (ok_pickT rfl (by decide) rfl) ?_
  refine emm rfl ?_
  refine ent_guardXT rfl rfl rfl rfl (by decide) ?_
  refine emm rfl ?_
  refine ent_guardXT rfl rfl rfl rfl (by decide) ?_
  refine ent_o rfl (ok_notD rfl) ?_
  refine ent_o rfl (ok_pickT rfl (by decide) rfl) ?_
  refine emm rfl ?_
  refine ent_guardXDt rfl rfl rfl rfl (fun hg69 => ?_) (fun hg69 => ?_)
  ·refine emm rfl ?_
   refine ent_o rfl (ok_pickT rfl (decide_eq_true hg69) rfl) ?_
   refine emm rfl ?_
   refine ent_guardXDt rfl rfl rfl rfl (fun hg72 => ?_) (fun hg72 => ?_)
   ·refine emm rfl ?_
    refine ent_guardXT rfl rfl rfl rfl (decide_eq_true hg72) ?_
    refine ent_o rfl (ok_loadBS (k := 2) ti27 rfl rfl rfl) ?_
    refine ent_guardXT rfl rfl rfl rfl (decide_eq_true hg72) ?_
    refine ent_o rfl (ok_call (rMinorsL_ok c ‹_› hOk) rfl) ?_
    refine ent_guardXT rfl rfl rfl rfl (decide_eq_true hg72) ?_
    refine ent_o rfl (ok_call (rPower2_ok c.minL (by have := Cnv.minL_len hFew; omega)) rfl) ?_
    refine ent_guardXT rfl rfl rfl rfl (decide_eq_true hg72) ?_
    refine ent_o rfl (ok_notD rfl) ?_
    refine ent_guardXT rfl rfl rfl rfl (decide_eq_true hg72) ?_
    refine ent_o rfl (ok_eqlB underlying4 rfl rfl) ?_
    refine ent_o rfl (ok_pickT rfl (decide_eq_true hg72) rfl) ?_
    refine emm rfl ?_
    refine ent_guardX rfl rfl rfl rfl (fun hg80 => ?_) (fun hg80 => ?_)
    ·refine emm rfl ?_
     refine ent_guardXT rfl rfl rfl rfl hg80 ?_
     refine ent_o rfl (ok_loadBS (k := 2) ti27 rfl rfl rfl) ?_
     refine ent_guardXT rfl rfl rfl rfl hg80 ?_
     refine ent_o rfl (ok_call (rCircle_ok c ‹_› hOk) rfl) ?_
     refine ent_guardXT rfl rfl rfl rfl hg80 ?_
     refine ent_o rfl (ok_eqlB underlying4 rfl rfl) ?_
     refine ent_o rfl (ok_pickT rfl hg80 rfl) ?_
     refine emm rfl ?_
     refine ent_nil ?_
     exact ent_rep ⟨slot_bool (dq_B ((and_iff_right ⟨⟨hg69, hg72⟩, hg80⟩).trans Iff.rfl)), trivial⟩ rfl
    refine ent_guardXF rfl rfl rfl rfl hg80 ?_
    refine ent_guardXF rfl rfl rfl rfl hg80 ?_
    refine ent_guardXF rfl rfl rfl rfl hg80 ?_
    refine ent_o rfl (ok_pickF rfl hg80 rfl) ?_
    refine emm rfl ?_
    refine ent_nil ?_
    exact ent_rep ⟨slot_bool (dq_F rfl (fun h => (fun h => (nt_of hg80) h.2) h.1)), trivial⟩ rfl
   refine ent_guardXF rfl rfl rfl rfl (decide_eq_false hg72) ?_
   refine ent_guardXF rfl rfl rfl rfl (decide_eq_false hg72) ?_
   refine ent_guardXF rfl rfl rfl rfl (decide_eq_false hg72) ?_
   refine ent_guardXF rfl rfl rfl rfl (decide_eq_false hg72) ?_
   refine ent_guardXF rfl rfl rfl rfl (decide_eq_false hg72) ?_
   refine ent_o rfl (ok_pickF rfl (decide_eq_false hg72) rfl) ?_
   refine emm rfl ?_
   refine ent_guardXF rfl rfl rfl rfl rfl ?_
   refine ent_guardXF rfl rfl rfl rfl rfl ?_
   refine ent_guardXF rfl rfl rfl rfl rfl ?_
   refine ent_guardXF rfl rfl rfl rfl rfl ?_
   refine ent_o rfl (ok_pickF rfl rfl rfl) ?_
   refine emm rfl ?_
   refine ent_nil ?_
   exact ent_rep ⟨slot_bool (dq_F rfl (fun h => (fun h => (fun h => hg72 h.2) h.1) h.1)), trivial⟩ rfl
  refine ent_o rfl (ok_pickF rfl (decide_eq_false hg69) rfl) ?_
  refine emm rfl ?_
  refine ent_guardXF rfl rfl rfl rfl rfl ?_
  refine ent_guardXF rfl rfl rfl rfl rfl ?_
  refine ent_guardXF rfl rfl rfl rfl rfl ?_
  refine ent_guardXF rfl rfl rfl rfl rfl ?_
  refine ent_guardXF rfl rfl rfl rfl rfl ?_
  refine ent_guardXF rfl rfl rfl rfl rfl ?_
  refine ent_o rfl (ok_pickF rfl rfl rfl) ?_
  refine emm rfl ?_
  refine ent_guardXF rfl rfl rfl rfl rfl ?_
  refine ent_guardXF rfl rfl rfl rfl rfl ?_
  refine ent_guardXF rfl rfl rfl rfl rfl ?_
  refine ent_guardXF rfl rfl rfl rfl rfl ?_
  refine ent_o rfl (ok_pickF rfl rfl rfl) ?_
  refine emm rfl ?_
  refine ent_nil ?_
  exact ent_rep ⟨slot_bool (dq_F rfl (fun h => (fun h => (fun h => hg69 h.1) h.1) h.1)), trivial⟩ rfl
 refine ent_k K8 ?_
 refine ent_ret ?_
 exact retR1 (.inr rfl) results10 (resr_tmp (res_cv rfl (cv_bool (by exact decide_eq_true ⟨⟨⟨hcA, hcB⟩, beq_iff_eq.2 (decide_eq_decide.2 ((not_congr hpw).trans Classical.not_not).symm)⟩, beq_iff_eq.2 (decide_eq_decide.2 hct)⟩))))
end Go.Proofs.Ytfjhbdfgbpcchaa
