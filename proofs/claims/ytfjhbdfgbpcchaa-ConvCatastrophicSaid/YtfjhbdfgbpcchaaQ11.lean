/-
  Walks of functions of the program and the reference.
-/
import Derived.Test.YtfjhbdfgbpcchaaQ10
open Go Go.Cw
namespace Go.Proofs.Ytfjhbdfgbpcchaa
open Try
set_option maxRecDepth 100000
set_option linter.unusedVariables false
set_option linter.unusedSimpArgs false

theorem Catastrophic_ok (c : Cnv) (hFew : c.Few) (hs : c.Ok → c.k ≤ 3 ∧ c.n ≤ 6) (hOk : c.Ok) : Ctr Try.prog 41 [aCnv c] (aTup [aBool (decide (Cnv.catP c.minL)), aInt 0]) := by
 have hml := Cnv.minL_len hFew
 refine ctr_of Try.call41 func41 rfl rfl ?_
 intro w O
 refine ent_lenC 0 2 rfl rfl (fun hlen0_2 => ?_)
 refine ent_lenC 0 3 rfl rfl (fun hlen0_3 => ?_)
 refine esr rfl fun _ K1 => ?_
 refine ent_boxS rfl rfl (AllOne.mem ⟨(one_int _), (one_int _), one_sl, one_sl, trivial⟩) (fun b1_1 => ?_)
 refine emm rfl ?_
 refine enk K1 ?_
 refine esr rfl fun _ K2 => ?_
 refine ent_o rfl (ok_loadBS (k := 0) ti27 rfl rfl rfl) ?_
 refine ent_o rfl (ok_call (build_ok c ‹_› hOk) rfl) ?_
 refine emm rfl ?_
 refine ent_o rfl (ok_extract rfl rfl) ?_
 refine ent_o rfl (ok_extract rfl rfl) ?_
 refine emm rfl ?_
 refine enk K2 ?_
 refine ent_seq fun _ K3 => ?_
 refine esr rfl fun _ K4 => ?_
 refine ent_o rfl (ok_neq rfl rfl) ?_
 refine enk K4 ?_
 refine ent_condFP rfl (by decide) ?_
 refine esp K3 ?_
 refine esr rfl fun _ K5 => ?_
 refine ent_o rfl (ok_call (minors_ok c ‹_› hOk hOk.fld (hs hOk).1 (hs hOk).2) rfl) ?_
 refine emm rfl ?_
 refine enk K5 ?_
 refine ent_seq fun _ K6 => ?_
 refine esr rfl fun _ K7 => ?_
 refine ent_o rfl (ok_len rfl runUnderlying22 rfl) ?_
 refine emm rfl ?_
 refine enk K7 ?_
 refine ent_block ?_
 refine ent_loop (fun (i : Int) => (⟨[(6, aSl 1 false aInt c.minL), (19, aSl 1 false aInt c.minL), (20, aInt (↑c.minL.length : Int)), (21, aInt i)], [oBox b1_1 27 [aInt c.F.P, aInt c.F.M, aSl 1 false aInt c.F.mod, aSl 1 false aRows c.Gen]]⟩ : St)) (fun (i : Int) => (0 ≤ i) ∧ (i ≤ c.minL.length) ∧ (Cnv.CatI c.minL i)) (fun (i : Int) => (c.minL.length - i).toNat) 0 ⟨(by omega), (by omega), (Cnv.CatI.zero _)⟩ (ent_rep ⟨rfl, rfl, rfl, slot_av (av_int (show 0 = (0 : Int) by rfl)), trivial⟩ rfl) ?_
 rintro i ⟨i0, i1, C⟩
 show Ent _ ⟨_, [_]⟩ _
 refine esr rfl fun _ K8 => ?_
 refine ent_o rfl (ok_lss rfl rfl) ?_
 refine enk K8 ?_
 refine ent_seq fun _ K9 => ?_
 refine ent_condD rfl (fun h22 => ?_) (fun h22 => ?_)
 ·refine esp K9 ?_
  refine ent_seq fun _ K10 => ?_
  refine ent_block ?_
  refine esr rfl fun _ K11 => ?_
  refine ent_o rfl (ok_index 0 sl22 rfl rfl (by omega) (by omega)) ?_
  refine ent_o rfl (ok_load ti3 rfl) ?_
  refine emm rfl ?_
  refine enk K11 ?_
  refine ent_seq fun _ K12 => ?_
  refine ent_cut (⟨[(6, aSl 1 false aInt c.minL), (19, aSl 1 false aInt c.minL), (20, aInt (↑c.minL.length : Int)), (21, aInt i), (34, aBool (decide (((ix 0 c.minL i) ≠ 0) ∧ (i < ((↑c.minL.length : Int) - 1)))))], [oBox b1_1 27 [aInt c.F.P, aInt c.F.M, aSl 1 false aInt c.F.mod, aSl 1 false aRows c.Gen]]⟩) ?_ ?_
  ·refine ent_region ?_
   refine emm rfl ?_
   refine ent_o rfl (ok_neq rfl rfl) ?_
   refine emm rfl ?_
   refine ent_guardXDt rfl rfl rfl rfl (fun hg28 => ?_) (fun hg28 => ?_)
   ·refine emm rfl ?_
    refine ent_guardXT rfl rfl rfl rfl (decide_eq_true hg28) ?_
    refine emm rfl ?_
    refine ent_guardXT rfl rfl rfl rfl (decide_eq_true hg28) ?_
    refine ent_o rfl (ok_len rfl runUnderlying22 rfl) ?_
    refine ent_guardXT rfl rfl rfl rfl (decide_eq_true hg28) ?_
    refine ent_o rfl (ok_sub rfl rfl (by omega) (by omega)) ?_
    refine ent_guardXT rfl rfl rfl rfl (decide_eq_true hg28) ?_
    refine ent_o rfl (ok_lss rfl rfl) ?_
    refine ent_o rfl (ok_pickT rfl (decide_eq_true hg28) rfl) ?_
    refine ent_nil ?_
    exact ent_rep ⟨rfl, rfl, rfl, rfl, slot_bool (dq_Q ((and_iff_right hg28).trans Iff.rfl)), trivial⟩ rfl
   refine ent_guardXF rfl rfl rfl rfl (decide_eq_false hg28) ?_
   refine ent_guardXF rfl rfl rfl rfl (decide_eq_false hg28) ?_
   refine ent_guardXF rfl rfl rfl rfl (decide_eq_false hg28) ?_
   refine ent_guardXF rfl rfl rfl rfl (decide_eq_false hg28) ?_
   refine ent_o rfl (ok_pickF rfl (decide_eq_false hg28) rfl) ?_
   refine ent_nil ?_
   exact ent_rep ⟨rfl, rfl, rfl, rfl, slot_bool (dq_F rfl (fun h => hg28 h.1)), trivial⟩ rfl
  refine ent_k K12 ?_
  refine ent_condD rfl (fun h34 => ?_) (fun h34 => ?_)
  ·refine esk rfl ?_
   refine ent_ret ?_
   exact retR2 (.inr rfl) results41 (resr_tmp (res_cv rfl (cv_bool (by exact (Cnv.catP_yes i0 h34.1 h34.2).symm)))) (resr_tmp (res_cv rfl (cv_int rfl)))
  refine esp K10 ?_
  refine ent_region ?_
  refine ent_o rfl (ok_add rfl rfl (by omega) (by omega)) ?_
  refine emm rfl ?_
  refine ent_nil ?_
  refine ent_again (s := (i)) (i + 1) ⟨(by omega), ‹_›, (C.next h34)⟩ (by omega) (ent_rep ⟨rfl, rfl, rfl, rfl, trivial⟩ rfl)
 refine ent_exit ?_
 refine ent_k K6 ?_
 refine esr rfl fun _ K14 => ?_
 refine ent_o rfl (ok_len rfl runUnderlying22 rfl) ?_
 refine ent_o rfl (ok_eql rfl rfl) ?_
 refine emm rfl ?_
 refine enk K14 ?_
 refine ent_ret ?_
 exact retR2 (.inr rfl) results41 (resr_tmp (res_cv rfl (cv_bool (by rw [C.done (by omega)]; exact decide_eq_decide.2 ⟨fun h => by omega, fun h => by omega⟩)))) (resr_tmp (res_cv rfl (cv_int rfl)))
end Go.Proofs.Ytfjhbdfgbpcchaa

