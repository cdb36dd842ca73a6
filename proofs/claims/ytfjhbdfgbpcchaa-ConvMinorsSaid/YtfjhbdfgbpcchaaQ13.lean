/-
  Facts for the law ConvMinors.
-/
import Derived.Test.YtfjhbdfgbpcchaaQ12
open Go Go.Cw
namespace Go.Proofs.Ytfjhbdfgbpcchaa
open Try
set_option maxRecDepth 100000
set_option linter.unusedVariables false
set_option linter.unusedSimpArgs false
theorem ConvMinors_ok (c : Cnv)  : Ctr Try.prog 9 [aCnv c] (aBool true) := by
 have hik : c.k = (c.Gen.length : Int) := rfl
 have hen : c.n = ((ix [] c.Gen 0).length : Int) := rfl
 refine ctr_of Try.call9 func9 rfl rfl ?_
 intro w O
 refine ent_lenC 0 2 rfl rfl (fun hlen0_2 => ?_)
 refine ent_lenC 0 3 rfl rfl (fun hlen0_3 => ?_)
 refine esr rfl fun _ K1 => ?_
 refine ent_boxS rfl rfl (AllOne.mem ⟨(one_int _), (one_int _), one_sl, one_sl, trivial⟩) (fun b1_1 => ?_)
 refine emm rfl ?_
 refine enk K1 ?_
 refine ent_seq fun _ K2 => ?_
 refine ent_seq fun _ K3 => ?_
 refine ent_cut (⟨[(1, aEx (.pointer (some ⟨b1_1, 0, none⟩))), (25, aBool (decide ((c.Short ∧ (c.err = 0)) ∧ ((6 < (↑(ix [] c.Gen 0).length : Int)) ∨ (3 < (↑c.Gen.length : Int))))))], [oBox b1_1 27 [aInt c.F.P, aInt c.F.M, aSl 1 false aInt c.F.mod, aSl 1 false aRows c.Gen]]⟩) ?_ ?_
 ·refine ent_region ?_
  refine ent_o rfl (ok_loadBS (k := 0) ti27 rfl rfl rfl) ?_
  refine ent_o rfl (ok_call (few_ok c) rfl) ?_
  refine emm rfl ?_
  refine ent_guardXDt rfl rfl rfl rfl (fun hg7 => ?_) (fun hg7 => ?_)
  ·refine ent_o rfl (ok_loadBS (k := 0) ti27 rfl rfl rfl) ?_
   refine ent_guardXT rfl rfl rfl rfl (decide_eq_true hg7) ?_
   refine ent_o rfl (ok_call (rCnvCheck_ok c hg7.1) rfl) ?_
   refine ent_guardXT rfl rfl rfl rfl (decide_eq_true hg7) ?_
   refine ent_o rfl (ok_eql rfl rfl) ?_
   refine ent_o rfl (ok_pickT rfl (decide_eq_true hg7) rfl) ?_
   refine emm rfl ?_
   refine ent_guardXDt rfl rfl rfl rfl (fun hg12 => ?_) (fun hg12 => ?_)
   ·refine ent_o rfl (ok_fieldAddrEx runUnderlying27 rfl sizeOf25 (by decide) rfl) ?_
    refine ent_guardXT rfl rfl rfl rfl (decide_eq_true hg12) ?_
    refine ent_o rfl (ok_loadB (k := 0) isAgg25 rfl rfl rfl) ?_
    refine ent_guardXT rfl rfl rfl rfl (decide_eq_true hg12) ?_
    refine ent_o rfl (ok_index [] sl25 rfl rfl (by have := (Cnv.err_zero.1 hg12).kn; omega) (by have := (Cnv.err_zero.1 hg12).kn; omega)) ?_
    refine ent_guardXT rfl rfl rfl rfl (decide_eq_true hg12) ?_
    refine ent_o rfl (ok_load ti42 rfl) ?_
    refine ent_guardXT rfl rfl rfl rfl (decide_eq_true hg12) ?_
    refine ent_o rfl (ok_len rfl runUnderlying42 rfl) ?_
    refine ent_guardXT rfl rfl rfl rfl (decide_eq_true hg12) ?_
    refine ent_o rfl (ok_gtr rfl rfl) ?_
    refine ent_guardXT rfl rfl rfl rfl (decide_eq_true hg12) ?_
    refine emm rfl ?_
    refine ent_guardXDf rfl rfl rfl rfl (fun hg19 => ?_) (fun hg19 => ?_)
    ·refine ent_o rfl (ok_fieldAddrEx runUnderlying27 rfl sizeOf25 (by decide) rfl) ?_
     refine ent_guardXT rfl rfl rfl rfl (decide_eq_false hg19) ?_
     refine ent_o rfl (ok_loadB (k := 0) isAgg25 rfl rfl rfl) ?_
     refine ent_guardXT rfl rfl rfl rfl (decide_eq_false hg19) ?_
     refine ent_o rfl (ok_len rfl runUnderlying25 rfl) ?_
     refine ent_guardXT rfl rfl rfl rfl (decide_eq_false hg19) ?_
     refine ent_o rfl (ok_gtr rfl rfl) ?_
     refine ent_guardXT rfl rfl rfl rfl (decide_eq_true hg12) ?_
     refine ent_o rfl (ok_pickF rfl (decide_eq_false hg19) rfl) ?_
     refine ent_o rfl (ok_pickT rfl (decide_eq_true hg12) rfl) ?_
     refine ent_nil ?_
     exact ent_rep ⟨rfl, slot_bool (dq_Q ((and_iff_right ⟨hg7, hg12⟩).trans ((or_iff_right hg19).trans Iff.rfl))), trivial⟩ rfl
    refine ent_guardXF rfl rfl rfl rfl (decide_eq_true hg19) ?_
    refine ent_guardXF rfl rfl rfl rfl (decide_eq_true hg19) ?_
    refine ent_guardXF rfl rfl rfl rfl (decide_eq_true hg19) ?_
    refine ent_guardXT rfl rfl rfl rfl (decide_eq_true hg12) ?_
    refine ent_o rfl (ok_pickT rfl (decide_eq_true hg19) rfl) ?_
    refine ent_o rfl (ok_pickT rfl (decide_eq_true hg12) rfl) ?_
    refine ent_nil ?_
    exact ent_rep ⟨rfl, slot_bool (dq_T rfl ⟨⟨hg7, hg12⟩, (Or.inl hg19)⟩), trivial⟩ rfl
   refine ent_guardXF rfl rfl rfl rfl (decide_eq_false hg12) ?_
   refine ent_guardXF rfl rfl rfl rfl (decide_eq_false hg12) ?_
   refine ent_guardXF rfl rfl rfl rfl (decide_eq_false hg12) ?_
   refine ent_guardXF rfl rfl rfl rfl (decide_eq_false hg12) ?_
   refine ent_guardXF rfl rfl rfl rfl (decide_eq_false hg12) ?_
   refine ent_guardXF rfl rfl rfl rfl (decide_eq_false hg12) ?_
   refine ent_guardU rfl rfl rfl rfl ?_
   refine ent_guardU rfl rfl rfl rfl ?_
   refine ent_guardU rfl rfl rfl rfl ?_
   refine ent_guardU rfl rfl rfl rfl ?_
   refine ent_guardXF rfl rfl rfl rfl (decide_eq_false hg12) ?_
   refine ent_o rfl (ok_pickF rfl (decide_eq_false hg12) rfl) ?_
   refine ent_nil ?_
   exact ent_rep ⟨rfl, slot_bool (dq_F rfl (fun h => (fun h => hg12 h.2) h.1)), trivial⟩ rfl
  refine ent_guardXF rfl rfl rfl rfl (decide_eq_false hg7) ?_
  refine ent_guardXF rfl rfl rfl rfl (decide_eq_false hg7) ?_
  refine ent_o rfl (ok_pickF rfl (decide_eq_false hg7) rfl) ?_
  refine emm rfl ?_
  refine ent_guardXF rfl rfl rfl rfl rfl ?_
  refine ent_guardXF rfl rfl rfl rfl rfl ?_
  refine ent_guardXF rfl rfl rfl rfl rfl ?_
  refine ent_guardXF rfl rfl rfl rfl rfl ?_
  refine ent_guardXF rfl rfl rfl rfl rfl ?_
  refine ent_guardXF rfl rfl rfl rfl rfl ?_
  refine ent_guardXF rfl rfl rfl rfl rfl ?_
  refine ent_guardU rfl rfl rfl rfl ?_
  refine ent_guardU rfl rfl rfl rfl ?_
  refine ent_guardU rfl rfl rfl rfl ?_
  refine ent_guardU rfl rfl rfl rfl ?_
  refine ent_guardXF rfl rfl rfl rfl rfl ?_
  refine ent_o rfl (ok_pickF rfl rfl rfl) ?_
  refine ent_nil ?_
  exact ent_rep ⟨rfl, slot_bool (dq_F rfl (fun h => (fun h => hg7 h.1) h.1)), trivial⟩ rfl
 refine ent_k K3 ?_
 refine ent_condD rfl (fun h25 => ?_) (fun h25 => ?_)
 ·refine esk rfl ?_
  refine ent_ret ?_
  exact retR1 (.inr rfl) results9 (resr_tmp (res_cv rfl (cv_bool rfl)))
 refine esp K2 ?_
 refine ent_seq fun _ K5 => ?_
 refine esr rfl fun _ K6 => ?_
 refine ent_o rfl (ok_loadBS (k := 0) ti27 rfl rfl rfl) ?_
 refine ent_o rfl (ok_call (few_ok c) rfl) ?_
 refine ent_o rfl (ok_notD rfl) ?_
 refine enk K6 ?_
 refine ent_condD rfl (fun h28 => ?_) (fun h28 => ?_)
 ·refine esk rfl ?_
  refine ent_ret ?_
  exact retR1 (.inr rfl) results9 (resr_tmp (res_cv rfl (cv_bool rfl)))
 have hFew := (Classical.not_not.1 h28).1
 have hs : c.Ok → c.k ≤ 3 ∧ c.n ≤ 6 := fun hOk => by have he := Cnv.err_zero.2 hOk; have hsh := Classical.not_not.1 h28; have h2 : ¬ (6 < ((ix [] c.Gen 0).length : Int) ∨ 3 < (c.Gen.length : Int)) := fun h => h25 ⟨⟨hsh, he⟩, h⟩; omega
 refine esp K5 ?_
 refine esr rfl fun _ K8 => ?_
 refine ent_o rfl (ok_loadBS (k := 0) ti27 rfl rfl rfl) ?_
 refine ent_o rfl (ok_call (Minors_ok c ‹_› hs) rfl) ?_
 refine emm rfl ?_
 refine ent_o rfl (ok_extract rfl rfl) ?_
 refine ent_o rfl (ok_extract rfl rfl) ?_
 refine emm rfl ?_
 refine enk K8 ?_
 refine ent_seq fun _ K9 => ?_
 refine esr rfl fun _ K10 => ?_
 refine ent_o rfl (ok_loadBS (k := 0) ti27 rfl rfl rfl) ?_
 refine ent_o rfl (ok_call (rCnvCheck_ok c ‹_›) rfl) ?_
 refine ent_o rfl (ok_neq rfl rfl) ?_
 refine enk K10 ?_
 refine ent_condD rfl (fun h36 => ?_) (fun h36 => ?_)
 ·refine esr rfl fun _ K11 => ?_
  refine ent_o rfl (ok_loadBS (k := 0) ti27 rfl rfl rfl) ?_
  refine ent_o rfl (ok_call (rCnvCheck_ok c ‹_›) rfl) ?_
  refine ent_o rfl (ok_eql rfl rfl) ?_
  refine emm rfl ?_
  refine ent_guardXT rfl rfl rfl rfl (decide_eq_true rfl) ?_
  refine emm rfl ?_
  refine ent_guardXT rfl rfl rfl rfl (decide_eq_true rfl) ?_
  refine ent_o rfl (ok_len rfl runUnderlying22 rfl) ?_
  refine ent_guardXT rfl rfl rfl rfl (decide_eq_true rfl) ?_
  refine ent_o rfl (ok_eql rfl rfl) ?_
  refine ent_o rfl (ok_pickT rfl (decide_eq_true rfl) rfl) ?_
  refine emm rfl ?_
  refine enk K11 ?_
  refine ent_ret ?_
  exact retR1 (.inr rfl) results9 (resr_tmp (res_cv rfl (cv_bool (by exact decide_eq_true (by rw [Cnv.minL_no (fun h => h36 (Cnv.err_zero.2 h))]; rfl)))))
 have hOk := Cnv.err_zero.1 (Classical.not_not.1 h36)
 have hkn := hOk.kn
 refine esp K9 ?_
 refine ent_seq fun _ K12 => ?_
 refine ent_cut (⟨[(2, aBool (decide (((6 < (↑(ix [] c.Gen 0).length : Int)) ∨ (3 < (↑c.Gen.length : Int))) ∨ ((c.err = 0) ∧ True))))], [oBox b1_1 27 [aInt c.F.P, aInt c.F.M, aSl 1 false aInt c.F.mod, aSl 1 false aRows c.Gen]]⟩) ?_ ?_
 ·refine ent_region ?_
  refine ent_o rfl (ok_fieldAddrEx runUnderlying27 rfl sizeOf25 (by decide) rfl) ?_
  refine ent_o rfl (ok_loadB (k := 0) isAgg25 rfl rfl rfl) ?_
  refine ent_o rfl (ok_index [] sl25 rfl rfl (by omega) (by omega)) ?_
  refine ent_o rfl (ok_load ti42 rfl) ?_
  refine ent_o rfl (ok_len rfl runUnderlying42 rfl) ?_
  refine ent_o rfl (ok_gtr rfl rfl) ?_
  refine emm rfl ?_
  refine ent_guardXDf rfl rfl rfl rfl (fun hg52 => ?_) (fun hg52 => ?_)
  ·refine ent_o rfl (ok_fieldAddrEx runUnderlying27 rfl sizeOf25 (by decide) rfl) ?_
   refine ent_guardXT rfl rfl rfl rfl (decide_eq_false hg52) ?_
   refine ent_o rfl (ok_loadB (k := 0) isAgg25 rfl rfl rfl) ?_
   refine ent_guardXT rfl rfl rfl rfl (decide_eq_false hg52) ?_
   refine ent_o rfl (ok_len rfl runUnderlying25 rfl) ?_
   refine ent_guardXT rfl rfl rfl rfl (decide_eq_false hg52) ?_
   refine ent_o rfl (ok_gtr rfl rfl) ?_
   refine ent_o rfl (ok_pickF rfl (decide_eq_false hg52) rfl) ?_
   refine emm rfl ?_
   refine ent_guardXDf rfl rfl rfl rfl (fun hg58 => ?_) (fun hg58 => ?_)
   ·refine emm rfl ?_
    refine ent_guardXT rfl rfl rfl rfl (decide_eq_false hg58) ?_
    refine ent_o rfl (ok_eql rfl rfl) ?_
    refine ent_guardXT rfl rfl rfl rfl (decide_eq_false hg58) ?_
    refine emm rfl ?_
    refine ent_guardXDt rfl rfl rfl rfl (fun hg61 => ?_) (fun hg61 => ?_)
    ·refine emm rfl ?_
     refine ent_guardXT rfl rfl rfl rfl (decide_eq_true hg61) ?_
     refine ent_o rfl (ok_loadBS (k := 0) ti27 rfl rfl rfl) ?_
     refine ent_guardXT rfl rfl rfl rfl (decide_eq_true hg61) ?_
     refine ent_o rfl (ok_call (rMinorsL_ok c ‹_› hOk) rfl) ?_
     refine ent_guardXT rfl rfl rfl rfl (decide_eq_true hg61) ?_
     refine ent_o rfl (ok_call (SameInts_ok c.minL c.minL) rfl) ?_
     refine ent_guardXT rfl rfl rfl rfl (decide_eq_false hg58) ?_
     refine ent_o rfl (ok_pickT rfl (decide_eq_true hg61) rfl) ?_
     refine ent_o rfl (ok_pickF rfl (decide_eq_false hg58) rfl) ?_
     refine emm rfl ?_
     refine ent_nil ?_
     exact ent_rep ⟨slot_bool (dq_T (decide_eq_true rfl) (Or.inr ⟨hg61, trivial⟩)), trivial⟩ rfl
    refine ent_guardXF rfl rfl rfl rfl (decide_eq_false hg61) ?_
    refine ent_guardXF rfl rfl rfl rfl (decide_eq_false hg61) ?_
    refine ent_guardXF rfl rfl rfl rfl (decide_eq_false hg61) ?_
    refine ent_guardXT rfl rfl rfl rfl (decide_eq_false hg58) ?_
    refine ent_o rfl (ok_pickF rfl (decide_eq_false hg61) rfl) ?_
    refine ent_o rfl (ok_pickF rfl (decide_eq_false hg58) rfl) ?_
    refine emm rfl ?_
    refine ent_nil ?_
    exact ent_rep ⟨slot_bool (dq_F rfl (fun h => h.elim (fun h => h.elim hg52 hg58) (fun h => hg61 h.1))), trivial⟩ rfl
   refine ent_guardXF rfl rfl rfl rfl (decide_eq_true hg58) ?_
   refine ent_guardXF rfl rfl rfl rfl (decide_eq_true hg58) ?_
   refine ent_guardU rfl rfl rfl rfl ?_
   refine ent_guardU rfl rfl rfl rfl ?_
   refine ent_guardU rfl rfl rfl rfl ?_
   refine ent_guardU rfl rfl rfl rfl ?_
   refine ent_guardXF rfl rfl rfl rfl (decide_eq_true hg58) ?_
   refine ent_o rfl (ok_pickT rfl (decide_eq_true hg58) rfl) ?_
   refine emm rfl ?_
   refine ent_nil ?_
   exact ent_rep ⟨slot_bool (dq_T rfl (Or.inl (Or.inr hg58))), trivial⟩ rfl
  refine ent_guardXF rfl rfl rfl rfl (decide_eq_true hg52) ?_
  refine ent_guardXF rfl rfl rfl rfl (decide_eq_true hg52) ?_
  refine ent_guardXF rfl rfl rfl rfl (decide_eq_true hg52) ?_
  refine ent_o rfl (ok_pickT rfl (decide_eq_true hg52) rfl) ?_
  refine emm rfl ?_
  refine ent_guardXF rfl rfl rfl rfl rfl ?_
  refine ent_guardXF rfl rfl rfl rfl rfl ?_
  refine ent_guardXF rfl rfl rfl rfl rfl ?_
  refine ent_guardU rfl rfl rfl rfl ?_
  refine ent_guardU rfl rfl rfl rfl ?_
  refine ent_guardU rfl rfl rfl rfl ?_
  refine ent_guardU rfl rfl rfl rfl ?_
  refine ent_guardXF rfl rfl rfl rfl rfl ?_
  refine ent_o rfl (ok_pickT rfl rfl rfl) ?_
  refine emm rfl ?_
  refine ent_nil ?_
  exact ent_rep ⟨slot_bool (dq_T rfl (Or.inl (Or.inl hg52))), trivial⟩ rfl
 refine ent_k K12 ?_
 refine ent_ret ?_
 exact retR1 (.inr rfl) results9 (resr_tmp (res_cv rfl (cv_bool (by exact decide_eq_true (.inr ⟨Classical.not_not.1 h36, trivial⟩)))))
end Go.Proofs.Ytfjhbdfgbpcchaa
