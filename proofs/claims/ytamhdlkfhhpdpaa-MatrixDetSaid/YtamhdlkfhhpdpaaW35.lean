/-
  Facts for the law MatrixDet.
-/
import Derived.Test.YtamhdlkfhhpdpaaProg
import Derived.Test.YtamhdlkfhhpdpaaWTab
import Derived.Test.YtamhdlkfhhpdpaaPlainDv
import Derived.Test.YtamhdlkfhhpdpaaCzLib
import Derived.Test.YtamhdlkfhhpdpaaW1
import Derived.Test.YtamhdlkfhhpdpaaW4
import Derived.Test.YtamhdlkfhhpdpaaW5
import Derived.Test.YtamhdlkfhhpdpaaW6
import Derived.Test.YtamhdlkfhhpdpaaW9
import Derived.Test.YtamhdlkfhhpdpaaW10
import Derived.Test.YtamhdlkfhhpdpaaW11
import Derived.Test.YtamhdlkfhhpdpaaW12
import Derived.Test.YtamhdlkfhhpdpaaW13
import Derived.Test.YtamhdlkfhhpdpaaW14
import Derived.Test.YtamhdlkfhhpdpaaW15
import Derived.Test.YtamhdlkfhhpdpaaW16
import Derived.Test.YtamhdlkfhhpdpaaW17
import Derived.Test.YtamhdlkfhhpdpaaW18
import Derived.Test.YtamhdlkfhhpdpaaW19
import Derived.Test.YtamhdlkfhhpdpaaW20
import Derived.Test.YtamhdlkfhhpdpaaW21
import Derived.Test.YtamhdlkfhhpdpaaW23
import Derived.Test.YtamhdlkfhhpdpaaW31
open Go Go.Cw
namespace Go.Proofs.Ytamhdlkfhhpdpaa
set_option maxRecDepth 100000
set_option linter.unusedVariables false
set_option linter.unusedSimpArgs false
theorem MatrixDet_walk (f : Fld) (a b : Mat)  : Ctr Try.prog 12 [aFld f, aMat a, aMat b] (aBool true) := by
 refine ctr_of Try.call12 Try.func12 rfl rfl ?_
 intro w O
 refine ent_lenC 0 2 rfl rfl (fun hlen0_2 => ?_)
 refine ent_lenC 1 1 rfl rfl (fun hlen1_1 => ?_)
 refine ent_lenC 2 1 rfl rfl (fun hlen2_1 => ?_)
 refine esr rfl fun _ K1 => ?_
 refine ent_boxS rfl rfl (AllOne.mem ⟨(one_int _), (one_int _), one_sl, trivial⟩) (fun b3_1 => ?_)
 refine ent_boxS rfl rfl (AllOne.mem ⟨(one_int _), one_sl, trivial⟩) (fun b4_2 => ?_)
 refine ent_boxS rfl rfl (AllOne.mem ⟨(one_int _), one_sl, trivial⟩) (fun b5_3 => ?_)
 refine emm rfl ?_
 refine enk K1 ?_
 refine ent_seq fun _ K2 => ?_
 refine ent_seq fun _ K3 => ?_
 refine ent_cut (⟨[(3, aEx (.pointer (some ⟨b3_1, 0, none⟩))), (4, aEx (.pointer (some ⟨b4_2, 0, none⟩))), (5, aEx (.pointer (some ⟨b5_3, 0, none⟩))), (28, aBool (decide ((¬ (few a 150 = true)) ∨ (¬ (few b 150 = true)))))], [oBox b5_3 27 [aInt b.cols, aSl 1 false aInts b.rows], oBox b4_2 27 [aInt a.cols, aSl 1 false aInts a.rows], oBox b3_1 24 [aInt f.P, aInt f.M, aSl 1 false aInt f.mod]]⟩) ?_ ?_
 ·refine ent_region ?_
  refine ent_o rfl (ok_call awake_ok rfl) ?_
  refine ent_o rfl (ok_not rfl) ?_
  refine emm rfl ?_
  refine ent_guardXT rfl rfl rfl rfl rfl ?_
  refine ent_o rfl (ok_loadBS (k := 1) ti27 rfl rfl rfl) ?_
  refine ent_guardXT rfl rfl rfl rfl rfl ?_
  refine ent_o rfl (ok_call (rFew_ok a 150 (by first | rfl | assumption | omega | (simp_all; done) | grind) (by first | rfl | assumption | omega | (simp_all; done) | grind)) rfl) ?_
  refine ent_guardXT rfl rfl rfl rfl rfl ?_
  refine ent_o rfl (ok_notD rfl) ?_
  refine ent_o rfl (ok_pickF rfl rfl rfl) ?_
  refine emm rfl ?_
  refine ent_guardXDf rfl rfl rfl rfl (fun hg24 => ?_) (fun hg24 => ?_)
  ·refine ent_o rfl (ok_loadBS (k := 0) ti27 rfl rfl rfl) ?_
   refine ent_guardXT rfl rfl rfl rfl (decide_eq_false hg24) ?_
   refine ent_o rfl (ok_call (rFew_ok b 150 (by first | rfl | assumption | omega | (simp_all; done) | grind) (by first | rfl | assumption | omega | (simp_all; done) | grind)) rfl) ?_
   refine ent_guardXT rfl rfl rfl rfl (decide_eq_false hg24) ?_
   refine ent_o rfl (ok_notD rfl) ?_
   refine ent_o rfl (ok_pickF rfl (decide_eq_false hg24) rfl) ?_
   refine ent_nil ?_
   exact ent_rep ⟨rfl, rfl, rfl, slot_bool (dq_Q ((or_iff_right hg24).trans Iff.rfl)), trivial⟩ rfl
  ·refine ent_guardXF rfl rfl rfl rfl (decide_eq_true hg24) ?_
   refine ent_guardXF rfl rfl rfl rfl (decide_eq_true hg24) ?_
   refine ent_o rfl (ok_pickT rfl (decide_eq_true hg24) rfl) ?_
   refine ent_nil ?_
   exact ent_rep ⟨rfl, rfl, rfl, slot_bool (dq_T rfl (Or.inl hg24)), trivial⟩ rfl
 refine ent_k K3 ?_
 refine ent_condD rfl (fun h28 => ?_) (fun h28 => ?_)
 ·refine esr rfl fun _ K4 => ?_
  refine ent_o rfl (ok_call awake_ok rfl) ?_
  refine emm rfl ?_
  refine enk K4 ?_
  refine ent_ret ?_
  exact retR1 (.inr rfl) Try.results12 (resr_tmp (res_cv rfl (cv_bool (by first | rfl | exact decide_eq_true ⟨dq, dv⟩ | simp [dq, dv]))))
 ·refine esp K2 ?_
  refine ent_seq fun _ K5 => ?_
  refine ent_seq fun _ K6 => ?_
  refine ent_cut (⟨[(3, aEx (.pointer (some ⟨b3_1, 0, none⟩))), (4, aEx (.pointer (some ⟨b4_2, 0, none⟩))), (5, aEx (.pointer (some ⟨b5_3, 0, none⟩))), (62, aBool (decide ((((((mErr f a) ≠ 0) ∨ ((mErr f b) ≠ 0)) ∨ ((↑a.rows.length : Int) ≠ a.cols)) ∨ ((↑b.rows.length : Int) ≠ b.cols)) ∨ (a.cols ≠ b.cols))))], [oBox b5_3 27 [aInt b.cols, aSl 1 false aInts b.rows], oBox b4_2 27 [aInt a.cols, aSl 1 false aInts a.rows], oBox b3_1 24 [aInt f.P, aInt f.M, aSl 1 false aInt f.mod]]⟩) ?_ ?_
  ·refine ent_region ?_
   refine ent_o rfl (ok_loadBS (k := 2) ti24 rfl rfl rfl) ?_
   refine ent_o rfl (ok_loadBS (k := 1) ti27 rfl rfl rfl) ?_
   refine ent_o rfl (ok_call (rMCheck_ok f a) rfl) ?_
   refine ent_o rfl (ok_neq rfl rfl) ?_
   refine emm rfl ?_
   refine ent_guardXDf rfl rfl rfl rfl (fun hg34 => ?_) (fun hg34 => ?_)
   ·refine ent_o rfl (ok_loadBS (k := 2) ti24 rfl rfl rfl) ?_
    refine ent_guardXT rfl rfl rfl rfl (decide_eq_false hg34) ?_
    refine ent_o rfl (ok_loadBS (k := 0) ti27 rfl rfl rfl) ?_
    refine ent_guardXT rfl rfl rfl rfl (decide_eq_false hg34) ?_
    refine ent_o rfl (ok_call (rMCheck_ok f b) rfl) ?_
    refine ent_guardXT rfl rfl rfl rfl (decide_eq_false hg34) ?_
    refine ent_o rfl (ok_neq rfl rfl) ?_
    refine ent_o rfl (ok_pickF rfl (decide_eq_false hg34) rfl) ?_
    refine emm rfl ?_
    refine ent_guardXDf rfl rfl rfl rfl (fun hg40 => ?_) (fun hg40 => ?_)
    ·refine ent_o rfl (ok_fieldAddrEx Try.runUnderlying27 rfl Try.sizeOf25 (by decide) rfl) ?_
     refine ent_guardXT rfl rfl rfl rfl (decide_eq_false hg40) ?_
     refine ent_o rfl (ok_loadB (k := 1) Try.isAgg25 rfl rfl rfl) ?_
     refine ent_guardXT rfl rfl rfl rfl (decide_eq_false hg40) ?_
     refine ent_o rfl (ok_len rfl Try.runUnderlying25 rfl) ?_
     refine ent_guardXT rfl rfl rfl rfl (decide_eq_false hg40) ?_
     refine ent_o rfl (ok_fieldAddrEx Try.runUnderlying27 rfl Try.sizeOf3 (by decide) rfl) ?_
     refine ent_guardXT rfl rfl rfl rfl (decide_eq_false hg40) ?_
     refine ent_o rfl (ok_loadB (k := 1) Try.isAgg3 rfl rfl rfl) ?_
     refine ent_guardXT rfl rfl rfl rfl (decide_eq_false hg40) ?_
     refine ent_o rfl (ok_neq rfl rfl) ?_
     refine ent_o rfl (ok_pickF rfl (decide_eq_false hg40) rfl) ?_
     refine emm rfl ?_
     refine ent_guardXDf rfl rfl rfl rfl (fun hg48 => ?_) (fun hg48 => ?_)
     ·refine ent_o rfl (ok_fieldAddrEx Try.runUnderlying27 rfl Try.sizeOf25 (by decide) rfl) ?_
      refine ent_guardXT rfl rfl rfl rfl (decide_eq_false hg48) ?_
      refine ent_o rfl (ok_loadB (k := 0) Try.isAgg25 rfl rfl rfl) ?_
      refine ent_guardXT rfl rfl rfl rfl (decide_eq_false hg48) ?_
      refine ent_o rfl (ok_len rfl Try.runUnderlying25 rfl) ?_
      refine ent_guardXT rfl rfl rfl rfl (decide_eq_false hg48) ?_
      refine ent_o rfl (ok_fieldAddrEx Try.runUnderlying27 rfl Try.sizeOf3 (by decide) rfl) ?_
      refine ent_guardXT rfl rfl rfl rfl (decide_eq_false hg48) ?_
      refine ent_o rfl (ok_loadB (k := 0) Try.isAgg3 rfl rfl rfl) ?_
      refine ent_guardXT rfl rfl rfl rfl (decide_eq_false hg48) ?_
      refine ent_o rfl (ok_neq rfl rfl) ?_
      refine ent_o rfl (ok_pickF rfl (decide_eq_false hg48) rfl) ?_
      refine emm rfl ?_
      refine ent_guardXDf rfl rfl rfl rfl (fun hg56 => ?_) (fun hg56 => ?_)
      ·refine ent_o rfl (ok_fieldAddrEx Try.runUnderlying27 rfl Try.sizeOf3 (by decide) rfl) ?_
       refine ent_guardXT rfl rfl rfl rfl (decide_eq_false hg56) ?_
       refine ent_o rfl (ok_loadB (k := 1) Try.isAgg3 rfl rfl rfl) ?_
       refine ent_guardXT rfl rfl rfl rfl (decide_eq_false hg56) ?_
       refine ent_o rfl (ok_fieldAddrEx Try.runUnderlying27 rfl Try.sizeOf3 (by decide) rfl) ?_
       refine ent_guardXT rfl rfl rfl rfl (decide_eq_false hg56) ?_
       refine ent_o rfl (ok_loadB (k := 0) Try.isAgg3 rfl rfl rfl) ?_
       refine ent_guardXT rfl rfl rfl rfl (decide_eq_false hg56) ?_
       refine ent_o rfl (ok_neq rfl rfl) ?_
       refine ent_o rfl (ok_pickF rfl (decide_eq_false hg56) rfl) ?_
       refine ent_nil ?_
       exact ent_rep ⟨rfl, rfl, rfl, slot_bool (dq_Q ((or_iff_right (fun h => h.elim (fun h => h.elim (fun h => h.elim hg34 hg40) hg48) hg56)).trans Iff.rfl)), trivial⟩ rfl
      ·refine ent_guardXF rfl rfl rfl rfl (decide_eq_true hg56) ?_
       refine ent_guardXF rfl rfl rfl rfl (decide_eq_true hg56) ?_
       refine ent_guardXF rfl rfl rfl rfl (decide_eq_true hg56) ?_
       refine ent_guardXF rfl rfl rfl rfl (decide_eq_true hg56) ?_
       refine ent_o rfl (ok_pickT rfl (decide_eq_true hg56) rfl) ?_
       refine ent_nil ?_
       exact ent_rep ⟨rfl, rfl, rfl, slot_bool (dq_T rfl (Or.inl (Or.inr hg56))), trivial⟩ rfl
     ·refine ent_guardXF rfl rfl rfl rfl (decide_eq_true hg48) ?_
      refine ent_guardXF rfl rfl rfl rfl (decide_eq_true hg48) ?_
      refine ent_guardXF rfl rfl rfl rfl (decide_eq_true hg48) ?_
      refine ent_guardXF rfl rfl rfl rfl (decide_eq_true hg48) ?_
      refine ent_guardXF rfl rfl rfl rfl (decide_eq_true hg48) ?_
      refine ent_o rfl (ok_pickT rfl (decide_eq_true hg48) rfl) ?_
      refine emm rfl ?_
      refine ent_guardXF rfl rfl rfl rfl rfl ?_
      refine ent_guardXF rfl rfl rfl rfl rfl ?_
      refine ent_guardXF rfl rfl rfl rfl rfl ?_
      refine ent_guardXF rfl rfl rfl rfl rfl ?_
      refine ent_guardXF rfl rfl rfl rfl rfl ?_
      refine ent_o rfl (ok_pickT rfl rfl rfl) ?_
      refine ent_nil ?_
      exact ent_rep ⟨rfl, rfl, rfl, slot_bool (dq_T rfl (Or.inl (Or.inl (Or.inr hg48)))), trivial⟩ rfl
    ·refine ent_guardXF rfl rfl rfl rfl (decide_eq_true hg40) ?_
     refine ent_guardXF rfl rfl rfl rfl (decide_eq_true hg40) ?_
     refine ent_guardXF rfl rfl rfl rfl (decide_eq_true hg40) ?_
     refine ent_guardXF rfl rfl rfl rfl (decide_eq_true hg40) ?_
     refine ent_guardXF rfl rfl rfl rfl (decide_eq_true hg40) ?_
     refine ent_o rfl (ok_pickT rfl (decide_eq_true hg40) rfl) ?_
     refine emm rfl ?_
     refine ent_guardXF rfl rfl rfl rfl rfl ?_
     refine ent_guardXF rfl rfl rfl rfl rfl ?_
     refine ent_guardXF rfl rfl rfl rfl rfl ?_
     refine ent_guardXF rfl rfl rfl rfl rfl ?_
     refine ent_guardXF rfl rfl rfl rfl rfl ?_
     refine ent_guardXF rfl rfl rfl rfl rfl ?_
     refine ent_o rfl (ok_pickT rfl rfl rfl) ?_
     refine emm rfl ?_
     refine ent_guardXF rfl rfl rfl rfl rfl ?_
     refine ent_guardXF rfl rfl rfl rfl rfl ?_
     refine ent_guardXF rfl rfl rfl rfl rfl ?_
     refine ent_guardXF rfl rfl rfl rfl rfl ?_
     refine ent_guardXF rfl rfl rfl rfl rfl ?_
     refine ent_o rfl (ok_pickT rfl rfl rfl) ?_
     refine ent_nil ?_
     exact ent_rep ⟨rfl, rfl, rfl, slot_bool (dq_T rfl (Or.inl (Or.inl (Or.inl (Or.inr hg40))))), trivial⟩ rfl
   ·refine ent_guardXF rfl rfl rfl rfl (decide_eq_true hg34) ?_
    refine ent_guardXF rfl rfl rfl rfl (decide_eq_true hg34) ?_
    refine ent_guardXF rfl rfl rfl rfl (decide_eq_true hg34) ?_
    refine ent_o rfl (ok_pickT rfl (decide_eq_true hg34) rfl) ?_
    refine emm rfl ?_
    refine ent_guardXF rfl rfl rfl rfl rfl ?_
    refine ent_guardXF rfl rfl rfl rfl rfl ?_
    refine ent_guardXF rfl rfl rfl rfl rfl ?_
    refine ent_guardXF rfl rfl rfl rfl rfl ?_
    refine ent_guardXF rfl rfl rfl rfl rfl ?_
    refine ent_guardXF rfl rfl rfl rfl rfl ?_
    refine ent_o rfl (ok_pickT rfl rfl rfl) ?_
    refine emm rfl ?_
    refine ent_guardXF rfl rfl rfl rfl rfl ?_
    refine ent_guardXF rfl rfl rfl rfl rfl ?_
    refine ent_guardXF rfl rfl rfl rfl rfl ?_
    refine ent_guardXF rfl rfl rfl rfl rfl ?_
    refine ent_guardXF rfl rfl rfl rfl rfl ?_
    refine ent_guardXF rfl rfl rfl rfl rfl ?_
    refine ent_o rfl (ok_pickT rfl rfl rfl) ?_
    refine emm rfl ?_
    refine ent_guardXF rfl rfl rfl rfl rfl ?_
    refine ent_guardXF rfl rfl rfl rfl rfl ?_
    refine ent_guardXF rfl rfl rfl rfl rfl ?_
    refine ent_guardXF rfl rfl rfl rfl rfl ?_
    refine ent_guardXF rfl rfl rfl rfl rfl ?_
    refine ent_o rfl (ok_pickT rfl rfl rfl) ?_
    refine ent_nil ?_
    exact ent_rep ⟨rfl, rfl, rfl, slot_bool (dq_T rfl (Or.inl (Or.inl (Or.inl (Or.inl hg34))))), trivial⟩ rfl
  refine ent_k K6 ?_
  refine ent_condD rfl (fun h62 => ?_) (fun h62 => ?_)
  ·refine esk rfl ?_
   refine ent_ret ?_
   exact retR1 (.inr rfl) Try.results12 (resr_tmp (res_cv rfl (cv_bool (by first | rfl | exact decide_eq_true ⟨dq, dv⟩ | simp [dq, dv]))))
  ·have ha0 : mErr f a = 0 := by omega
   have hb0 : mErr f b = 0 := by omega
   have hD := det_facts ha0 hb0 (by omega) (by omega) (by omega)
   have d1 := hD.q1
   have d2 := hD.q2
   have d3 := hD.e
   have d4 := hD.q3
   have d5 := hD.q4
   have dx := hD.x
   have dy := hD.y
   have dz := hD.z
   have du := hD.u
   have hF := (mErr_zero.1 ha0).1
   have hS := hF.1
   have hsz := mat_size (mErr_zero.1 ha0).2
   have hga := mat_good (mErr_zero.1 ha0).2
   refine esp K5 ?_
   refine esr rfl fun _ K8 => ?_
   refine ent_o rfl (ok_loadBS (k := 2) ti24 rfl rfl rfl) ?_
   refine ent_o rfl (ok_loadBS (k := 1) ti27 rfl rfl rfl) ?_
   refine ent_o rfl (ok_call (mDet_ok f a) rfl) ?_
   refine emm rfl ?_
   refine ent_o rfl (ok_extract rfl rfl) ?_
   refine ent_o rfl (ok_extract rfl rfl) ?_
   refine emm rfl ?_
   refine enk K8 ?_
   refine esr rfl fun _ K9 => ?_
   refine ent_o rfl (ok_loadBS (k := 2) ti24 rfl rfl rfl) ?_
   refine ent_o rfl (ok_loadBS (k := 0) ti27 rfl rfl rfl) ?_
   refine ent_o rfl (ok_call (mDet_ok f b) rfl) ?_
   refine emm rfl ?_
   refine ent_o rfl (ok_extract rfl rfl) ?_
   refine ent_o rfl (ok_extract rfl rfl) ?_
   refine emm rfl ?_
   refine enk K9 ?_
   refine ent_seq fun _ K10 => ?_
   refine ent_seq fun _ K11 => ?_
   refine ent_cut (⟨[(3, aEx (.pointer (some ⟨b3_1, 0, none⟩))), (4, aEx (.pointer (some ⟨b4_2, 0, none⟩))), (5, aEx (.pointer (some ⟨b5_3, 0, none⟩))), (7, aInt (detV f a)), (9, aInt (detV f b)), (80, aBool (decide (((sqErr f a) ≠ 0) ∨ ((sqErr f b) ≠ 0))))], [oBox b5_3 27 [aInt b.cols, aSl 1 false aInts b.rows], oBox b4_2 27 [aInt a.cols, aSl 1 false aInts a.rows], oBox b3_1 24 [aInt f.P, aInt f.M, aSl 1 false aInt f.mod]]⟩) ?_ ?_
   ·refine ent_region ?_
    refine emm rfl ?_
    refine ent_o rfl (ok_neq rfl rfl) ?_
    refine emm rfl ?_
    refine ent_guardXDf rfl rfl rfl rfl (fun hg77 => ?_) (fun hg77 => ?_)
    ·refine emm rfl ?_
     refine ent_guardXT rfl rfl rfl rfl (decide_eq_false hg77) ?_
     refine ent_o rfl (ok_neq rfl rfl) ?_
     refine ent_o rfl (ok_pickF rfl (decide_eq_false hg77) rfl) ?_
     refine ent_nil ?_
     exact ent_rep ⟨rfl, rfl, rfl, rfl, rfl, slot_bool (dq_Q ((or_iff_right hg77).trans Iff.rfl)), trivial⟩ rfl
    ·refine ent_guardXF rfl rfl rfl rfl (decide_eq_true hg77) ?_
     refine ent_o rfl (ok_pickT rfl (decide_eq_true hg77) rfl) ?_
     refine ent_nil ?_
     exact ent_rep ⟨rfl, rfl, rfl, rfl, rfl, slot_bool (dq_T rfl (Or.inl hg77)), trivial⟩ rfl
   refine ent_k K11 ?_
   refine ent_condD rfl (fun h80 => ?_) (fun h80 => ?_)
   ·omega
   ·refine esp K10 ?_
    refine esr rfl fun _ K12 => ?_
    refine ent_o rfl (ok_loadBS (k := 2) ti24 rfl rfl rfl) ?_
    refine ent_o rfl (ok_loadBS (k := 1) ti27 rfl rfl rfl) ?_
    refine ent_o rfl (ok_loadBS (k := 0) ti27 rfl rfl rfl) ?_
    refine ent_o rfl (ok_call (mMulE_ok f a b) rfl) ?_
    refine emm rfl ?_
    refine ent_o rfl (ok_extract rfl rfl) ?_
    refine ent_o rfl (ok_extract rfl rfl) ?_
    refine ent_alloc (z := .agg #[.int .i64 0, .slice none 0 0]) [aInt 0, aEx (.slice none 0 0)] rfl zv27 rfl zc27 (fun b11_4 => ?_)
    refine ent_storeBS (k := 0) Try.sizeOf27 rfl rfl rfl (AllOne.mem ⟨(one_int _), one_sl, trivial⟩) rfl rfl ?_
    show Ent _ ⟨_, [_, _, _, _]⟩ _
    refine emm rfl ?_
    refine enk K12 ?_
    refine esr rfl fun _ K13 => ?_
    refine ent_o rfl (ok_loadBS (k := 3) ti24 rfl rfl rfl) ?_
    refine ent_o rfl (ok_loadBS (k := 2) ti27 rfl rfl rfl) ?_
    refine ent_o rfl (ok_call (mTranspose_ok f a) rfl) ?_
    refine emm rfl ?_
    refine ent_o rfl (ok_extract rfl rfl) ?_
    refine ent_o rfl (ok_extract rfl rfl) ?_
    refine ent_alloc (z := .agg #[.int .i64 0, .slice none 0 0]) [aInt 0, aEx (.slice none 0 0)] rfl zv27 rfl zc27 (fun b12_5 => ?_)
    refine ent_storeBS (k := 0) Try.sizeOf27 rfl rfl rfl (AllOne.mem ⟨(one_int _), one_sl, trivial⟩) rfl rfl ?_
    show Ent _ ⟨_, [_, _, _, _, _]⟩ _
    refine emm rfl ?_
    refine enk K13 ?_
    refine ent_seq fun _ K14 => ?_
    refine ent_seq fun _ K15 => ?_
    refine ent_cut (⟨[(3, aEx (.pointer (some ⟨b3_1, 0, none⟩))), (4, aEx (.pointer (some ⟨b4_2, 0, none⟩))), (7, aInt (detV f a)), (9, aInt (detV f b)), (11, aEx (.pointer (some ⟨b11_4, 0, none⟩))), (12, aEx (.pointer (some ⟨b12_5, 0, none⟩))), (99, aBool (decide (((mulE f a b) ≠ 0) ∨ ((mErr f a) ≠ 0))))], [oBox b12_5 27 [aInt ((turM f a).cols), aSl 1 false aInts ((turM f a).rows)], oBox b11_4 27 [aInt ((mulV f a b).cols), aSl 1 false aInts ((mulV f a b).rows)], oBox b5_3 27 [aInt b.cols, aSl 1 false aInts b.rows], oBox b4_2 27 [aInt a.cols, aSl 1 false aInts a.rows], oBox b3_1 24 [aInt f.P, aInt f.M, aSl 1 false aInt f.mod]]⟩) ?_ ?_
    ·refine ent_region ?_
     refine emm rfl ?_
     refine ent_o rfl (ok_neq rfl rfl) ?_
     refine emm rfl ?_
     refine ent_guardXDf rfl rfl rfl rfl (fun hg96 => ?_) (fun hg96 => ?_)
     ·refine emm rfl ?_
      refine ent_guardXT rfl rfl rfl rfl (decide_eq_false hg96) ?_
      refine ent_o rfl (ok_neq rfl rfl) ?_
      refine ent_o rfl (ok_pickF rfl (decide_eq_false hg96) rfl) ?_
      refine ent_nil ?_
      exact ent_rep ⟨rfl, rfl, rfl, rfl, rfl, rfl, slot_bool (dq_Q ((or_iff_right hg96).trans Iff.rfl)), trivial⟩ rfl
     ·refine ent_guardXF rfl rfl rfl rfl (decide_eq_true hg96) ?_
      refine ent_o rfl (ok_pickT rfl (decide_eq_true hg96) rfl) ?_
      refine ent_nil ?_
      exact ent_rep ⟨rfl, rfl, rfl, rfl, rfl, rfl, slot_bool (dq_T rfl (Or.inl hg96)), trivial⟩ rfl
    refine ent_k K15 ?_
    refine ent_condD rfl (fun h99 => ?_) (fun h99 => ?_)
    ·omega
    ·refine esp K14 ?_
     refine esr rfl fun _ K16 => ?_
     refine ent_o rfl (ok_loadBS (k := 4) ti24 rfl rfl rfl) ?_
     refine ent_o rfl (ok_loadBS (k := 1) ti27 rfl rfl rfl) ?_
     refine ent_o rfl (ok_call (mDet_ok f (mulV f a b)) rfl) ?_
     refine emm rfl ?_
     refine ent_o rfl (ok_extract rfl rfl) ?_
     refine ent_o rfl (ok_extract rfl rfl) ?_
     refine emm rfl ?_
     refine enk K16 ?_
     refine esr rfl fun _ K17 => ?_
     refine ent_o rfl (ok_loadBS (k := 4) ti24 rfl rfl rfl) ?_
     refine ent_o rfl (ok_loadBS (k := 0) ti27 rfl rfl rfl) ?_
     refine ent_o rfl (ok_call (mDet_ok f (turM f a)) rfl) ?_
     refine emm rfl ?_
     refine ent_o rfl (ok_extract rfl rfl) ?_
     refine ent_o rfl (ok_extract rfl rfl) ?_
     refine emm rfl ?_
     refine enk K17 ?_
     refine ent_seq fun _ K18 => ?_
     refine ent_seq fun _ K19 => ?_
     refine ent_cut (⟨[(3, aEx (.pointer (some ⟨b3_1, 0, none⟩))), (4, aEx (.pointer (some ⟨b4_2, 0, none⟩))), (7, aInt (detV f a)), (142, aBool (decide (((((((sqErr f (mulV f a b)) ≠ 0) ∨ ((sqErr f (turM f a)) ≠ 0)) ∨ (¬ (0 ≤ (detV f a) ∧ (detV f a) < f.q))) ∨ (¬ (0 ≤ (detV f b) ∧ (detV f b) < f.q))) ∨ ((detV f (mulV f a b)) ≠ (mulF f (detV f a) (detV f b)))) ∨ ((detV f (turM f a)) ≠ (detV f a)))))], [oBox b12_5 27 [aInt ((turM f a).cols), aSl 1 false aInts ((turM f a).rows)], oBox b11_4 27 [aInt ((mulV f a b).cols), aSl 1 false aInts ((mulV f a b).rows)], oBox b5_3 27 [aInt b.cols, aSl 1 false aInts b.rows], oBox b4_2 27 [aInt a.cols, aSl 1 false aInts a.rows], oBox b3_1 24 [aInt f.P, aInt f.M, aSl 1 false aInt f.mod]]⟩) ?_ ?_
     ·refine ent_region ?_
      refine emm rfl ?_
      refine ent_o rfl (ok_neq rfl rfl) ?_
      refine emm rfl ?_
      refine ent_guardXDf rfl rfl rfl rfl (fun hg114 => ?_) (fun hg114 => ?_)
      ·refine emm rfl ?_
       refine ent_guardXT rfl rfl rfl rfl (decide_eq_false hg114) ?_
       refine ent_o rfl (ok_neq rfl rfl) ?_
       refine ent_o rfl (ok_pickF rfl (decide_eq_false hg114) rfl) ?_
       refine emm rfl ?_
       refine ent_guardXDf rfl rfl rfl rfl (fun hg118 => ?_) (fun hg118 => ?_)
       ·refine ent_o rfl (ok_loadBS (k := 4) ti24 rfl rfl rfl) ?_
        refine ent_guardXT rfl rfl rfl rfl (decide_eq_false hg118) ?_
        refine emm rfl ?_
        refine ent_guardXT rfl rfl rfl rfl (decide_eq_false hg118) ?_
        refine ent_o rfl (ok_call (rIs_ok f (detV f a)) rfl) ?_
        refine ent_guardXT rfl rfl rfl rfl (decide_eq_false hg118) ?_
        refine ent_o rfl (ok_notD rfl) ?_
        refine ent_o rfl (ok_pickF rfl (decide_eq_false hg118) rfl) ?_
        refine emm rfl ?_
        refine ent_guardXDf rfl rfl rfl rfl (fun hg124 => ?_) (fun hg124 => ?_)
        ·refine ent_o rfl (ok_loadBS (k := 4) ti24 rfl rfl rfl) ?_
         refine ent_guardXT rfl rfl rfl rfl (decide_eq_false hg124) ?_
         refine emm rfl ?_
         refine ent_guardXT rfl rfl rfl rfl (decide_eq_false hg124) ?_
         refine ent_o rfl (ok_call (rIs_ok f (detV f b)) rfl) ?_
         refine ent_guardXT rfl rfl rfl rfl (decide_eq_false hg124) ?_
         refine ent_o rfl (ok_notD rfl) ?_
         refine ent_o rfl (ok_pickF rfl (decide_eq_false hg124) rfl) ?_
         refine emm rfl ?_
         refine ent_guardXDf rfl rfl rfl rfl (fun hg130 => ?_) (fun hg130 => ?_)
         ·refine emm rfl ?_
          refine ent_guardXT rfl rfl rfl rfl (decide_eq_false hg130) ?_
          refine ent_o rfl (ok_loadBS (k := 4) ti24 rfl rfl rfl) ?_
          refine ent_guardXT rfl rfl rfl rfl (decide_eq_false hg130) ?_
          refine emm rfl ?_
          refine ent_guardXT rfl rfl rfl rfl (decide_eq_false hg130) ?_
          refine emm rfl ?_
          refine ent_guardXT rfl rfl rfl rfl (decide_eq_false hg130) ?_
          refine ent_o rfl (ok_call (rMul_ok f (detV f a) (detV f b) (by first | rfl | assumption | omega | (simp_all; done) | grind)) rfl) ?_
          refine ent_guardXT rfl rfl rfl rfl (decide_eq_false hg130) ?_
          refine ent_o rfl (ok_neq rfl rfl) ?_
          refine ent_o rfl (ok_pickF rfl (decide_eq_false hg130) rfl) ?_
          refine emm rfl ?_
          refine ent_guardXDf rfl rfl rfl rfl (fun hg138 => ?_) (fun hg138 => ?_)
          ·refine emm rfl ?_
           refine ent_guardXT rfl rfl rfl rfl (decide_eq_false hg138) ?_
           refine emm rfl ?_
           refine ent_guardXT rfl rfl rfl rfl (decide_eq_false hg138) ?_
           refine ent_o rfl (ok_neq rfl rfl) ?_
           refine ent_o rfl (ok_pickF rfl (decide_eq_false hg138) rfl) ?_
           refine ent_nil ?_
           exact ent_rep ⟨rfl, rfl, rfl, slot_bool (dq_Q ((or_iff_right (fun h => h.elim (fun h => h.elim (fun h => h.elim (fun h => h.elim hg114 hg118) hg124) hg130) hg138)).trans Iff.rfl)), trivial⟩ rfl
          ·refine ent_guardXF rfl rfl rfl rfl (decide_eq_true hg138) ?_
           refine ent_guardXF rfl rfl rfl rfl (decide_eq_true hg138) ?_
           refine ent_o rfl (ok_pickT rfl (decide_eq_true hg138) rfl) ?_
           refine ent_nil ?_
           exact ent_rep ⟨rfl, rfl, rfl, slot_bool (dq_T rfl (Or.inl (Or.inr hg138))), trivial⟩ rfl
         ·refine ent_guardXF rfl rfl rfl rfl (decide_eq_true hg130) ?_
          refine ent_guardXF rfl rfl rfl rfl (decide_eq_true hg130) ?_
          refine ent_guardXF rfl rfl rfl rfl (decide_eq_true hg130) ?_
          refine ent_guardXF rfl rfl rfl rfl (decide_eq_true hg130) ?_
          refine ent_guardXF rfl rfl rfl rfl (decide_eq_true hg130) ?_
          refine ent_o rfl (ok_pickT rfl (decide_eq_true hg130) rfl) ?_
          refine emm rfl ?_
          refine ent_guardXF rfl rfl rfl rfl rfl ?_
          refine ent_guardXF rfl rfl rfl rfl rfl ?_
          refine ent_guardXF rfl rfl rfl rfl rfl ?_
          refine ent_o rfl (ok_pickT rfl rfl rfl) ?_
          refine ent_nil ?_
          exact ent_rep ⟨rfl, rfl, rfl, slot_bool (dq_T rfl (Or.inl (Or.inl (Or.inr hg130)))), trivial⟩ rfl
        ·refine ent_guardXF rfl rfl rfl rfl (decide_eq_true hg124) ?_
         refine ent_guardXF rfl rfl rfl rfl (decide_eq_true hg124) ?_
         refine ent_guardXF rfl rfl rfl rfl (decide_eq_true hg124) ?_
         refine ent_o rfl (ok_pickT rfl (decide_eq_true hg124) rfl) ?_
         refine emm rfl ?_
         refine ent_guardXF rfl rfl rfl rfl rfl ?_
         refine ent_guardXF rfl rfl rfl rfl rfl ?_
         refine ent_guardXF rfl rfl rfl rfl rfl ?_
         refine ent_guardXF rfl rfl rfl rfl rfl ?_
         refine ent_guardXF rfl rfl rfl rfl rfl ?_
         refine ent_guardXF rfl rfl rfl rfl rfl ?_
         refine ent_o rfl (ok_pickT rfl rfl rfl) ?_
         refine emm rfl ?_
         refine ent_guardXF rfl rfl rfl rfl rfl ?_
         refine ent_guardXF rfl rfl rfl rfl rfl ?_
         refine ent_guardXF rfl rfl rfl rfl rfl ?_
         refine ent_o rfl (ok_pickT rfl rfl rfl) ?_
         refine ent_nil ?_
         exact ent_rep ⟨rfl, rfl, rfl, slot_bool (dq_T rfl (Or.inl (Or.inl (Or.inl (Or.inr hg124))))), trivial⟩ rfl
       ·refine ent_guardXF rfl rfl rfl rfl (decide_eq_true hg118) ?_
        refine ent_guardXF rfl rfl rfl rfl (decide_eq_true hg118) ?_
        refine ent_guardXF rfl rfl rfl rfl (decide_eq_true hg118) ?_
        refine ent_o rfl (ok_pickT rfl (decide_eq_true hg118) rfl) ?_
        refine emm rfl ?_
        refine ent_guardXF rfl rfl rfl rfl rfl ?_
        refine ent_guardXF rfl rfl rfl rfl rfl ?_
        refine ent_guardXF rfl rfl rfl rfl rfl ?_
        refine ent_guardXF rfl rfl rfl rfl rfl ?_
        refine ent_o rfl (ok_pickT rfl rfl rfl) ?_
        refine emm rfl ?_
        refine ent_guardXF rfl rfl rfl rfl rfl ?_
        refine ent_guardXF rfl rfl rfl rfl rfl ?_
        refine ent_guardXF rfl rfl rfl rfl rfl ?_
        refine ent_guardXF rfl rfl rfl rfl rfl ?_
        refine ent_guardXF rfl rfl rfl rfl rfl ?_
        refine ent_guardXF rfl rfl rfl rfl rfl ?_
        refine ent_o rfl (ok_pickT rfl rfl rfl) ?_
        refine emm rfl ?_
        refine ent_guardXF rfl rfl rfl rfl rfl ?_
        refine ent_guardXF rfl rfl rfl rfl rfl ?_
        refine ent_guardXF rfl rfl rfl rfl rfl ?_
        refine ent_o rfl (ok_pickT rfl rfl rfl) ?_
        refine ent_nil ?_
        exact ent_rep ⟨rfl, rfl, rfl, slot_bool (dq_T rfl (Or.inl (Or.inl (Or.inl (Or.inl (Or.inr hg118)))))), trivial⟩ rfl
      ·refine ent_guardXF rfl rfl rfl rfl (decide_eq_true hg114) ?_
       refine ent_o rfl (ok_pickT rfl (decide_eq_true hg114) rfl) ?_
       refine emm rfl ?_
       refine ent_guardXF rfl rfl rfl rfl rfl ?_
       refine ent_guardXF rfl rfl rfl rfl rfl ?_
       refine ent_guardXF rfl rfl rfl rfl rfl ?_
       refine ent_guardXF rfl rfl rfl rfl rfl ?_
       refine ent_o rfl (ok_pickT rfl rfl rfl) ?_
       refine emm rfl ?_
       refine ent_guardXF rfl rfl rfl rfl rfl ?_
       refine ent_guardXF rfl rfl rfl rfl rfl ?_
       refine ent_guardXF rfl rfl rfl rfl rfl ?_
       refine ent_guardXF rfl rfl rfl rfl rfl ?_
       refine ent_o rfl (ok_pickT rfl rfl rfl) ?_
       refine emm rfl ?_
       refine ent_guardXF rfl rfl rfl rfl rfl ?_
       refine ent_guardXF rfl rfl rfl rfl rfl ?_
       refine ent_guardXF rfl rfl rfl rfl rfl ?_
       refine ent_guardXF rfl rfl rfl rfl rfl ?_
       refine ent_guardXF rfl rfl rfl rfl rfl ?_
       refine ent_guardXF rfl rfl rfl rfl rfl ?_
       refine ent_o rfl (ok_pickT rfl rfl rfl) ?_
       refine emm rfl ?_
       refine ent_guardXF rfl rfl rfl rfl rfl ?_
       refine ent_guardXF rfl rfl rfl rfl rfl ?_
       refine ent_guardXF rfl rfl rfl rfl rfl ?_
       refine ent_o rfl (ok_pickT rfl rfl rfl) ?_
       refine ent_nil ?_
       exact ent_rep ⟨rfl, rfl, rfl, slot_bool (dq_T rfl (Or.inl (Or.inl (Or.inl (Or.inl (Or.inl hg114)))))), trivial⟩ rfl
     refine ent_k K19 ?_
     refine ent_condD rfl (fun h142 => ?_) (fun h142 => ?_)
     ·exact absurd h142 (by simp [d4, d5, dx, dy, dz, du])
     ·refine esp K18 ?_
      refine ent_seq fun _ K20 => ?_
      refine esr rfl fun _ K21 => ?_
      refine ent_o rfl (ok_fieldAddrEx Try.runUnderlying27 rfl Try.sizeOf25 (by decide) rfl) ?_
      refine ent_o rfl (ok_loadB (k := 3) Try.isAgg25 rfl rfl rfl) ?_
      refine ent_o rfl (ok_len rfl Try.runUnderlying25 rfl) ?_
      refine ent_o rfl (ok_lss rfl rfl) ?_
      refine enk K21 ?_
      refine ent_condD rfl (fun h146 => ?_) (fun h146 => ?_)
      ·refine esk rfl ?_
       refine ent_ret ?_
       exact retR1 (.inr rfl) Try.results12 (resr_tmp (res_cv rfl (cv_bool (by first | rfl | exact decide_eq_true ⟨dq, dv⟩ | simp [dq, dv]))))
      ·have hl2 : 2 ≤ a.rows.length := by omega
       have dq := hD.q5 hl2
       have dv := hD.v hl2
       have lsw : (swp [] a.rows 0 1).length = a.rows.length := length_swp _ _ _ _
       refine esp K20 ?_
       refine esr rfl fun _ K23 => ?_
       refine ent_o rfl (ok_fieldAddrEx Try.runUnderlying27 rfl Try.sizeOf25 (by decide) rfl) ?_
       refine ent_o rfl (ok_loadB (k := 3) Try.isAgg25 rfl rfl rfl) ?_
       refine ent_callN rfl (rCopy_ok a.rows (by omega) (fun l hl => by have := (hga l hl).1; omega)) (ArgsA.ok ⟨arg_a rfl (cv_id (sub_lent _)), trivial⟩) (fun r149 c149 => ?_)
       refine ent_rsome 0 rfl (by omega) (fun b149_6 hb149_6 => ?_)
       subst hb149_6
       refine emm rfl ?_
       refine enk K23 ?_
       refine ent_seq fun _ K24 => ?_
       refine ent_drawFl 8 [1] mixed (by kernel_rfl) (by kernel_rfl) (by kernel_rfl) (by kernel_rfl) (by kernel_rfl) (fun _ _ _ _ _ h => h) ?_
       refine dw_o rfl (ok_move rfl) ?_
       refine dw_o rfl (ok_move rfl) ?_
       refine dw_o rfl (ok_move rfl) ?_
       refine dw_o rfl (ok_indexV sl25 rfl rfl (by first | omega | (simp only [List.length_set]; omega)) (by first | omega | (simp only [List.length_set]; omega))) ?_
       refine dw_o rfl (ok_loadV (k := 0) [] ti22 rfl rfl (by first | omega | (simp only [List.length_set]; omega)) (by first | omega | (simp only [List.length_set]; omega))) ?_
       refine dw_o rfl (ok_move rfl) ?_
       refine dw_o rfl (ok_indexV sl25 rfl rfl (by first | omega | (simp only [List.length_set]; omega)) (by first | omega | (simp only [List.length_set]; omega))) ?_
       refine dw_o rfl (ok_loadV (k := 0) [] ti22 rfl rfl (by first | omega | (simp only [List.length_set]; omega)) (by first | omega | (simp only [List.length_set]; omega))) ?_
       refine dw_nil ?_
       refine ent_o rfl (ok_indexV sl25 rfl rfl (by first | omega | (simp only [List.length_set]; omega)) (by first | omega | (simp only [List.length_set]; omega))) ?_
       refine ent_storeV (k := 0) (z := ix [] a.rows 1) ti22 rfl rfl rfl (elem_one one_sl) (by first | omega | (simp only [List.length_set]; omega)) (by first | omega | (simp only [List.length_set]; omega)) ?_
       refine ent_o rfl (ok_indexV sl25 rfl rfl (by first | omega | (simp only [List.length_set]; omega)) (by first | omega | (simp only [List.length_set]; omega))) ?_
       refine ent_storeV (k := 0) (z := ix [] a.rows 0) ti22 rfl rfl rfl (elem_one one_sl) (by first | omega | (simp only [List.length_set]; omega)) (by first | omega | (simp only [List.length_set]; omega)) ?_
       refine enk K24 ?_
       refine esr rfl fun _ K25 => ?_
       refine ent_o rfl (ok_loadBS (k := 5) ti24 rfl rfl rfl) ?_
       refine ent_o rfl (ok_fieldAddrEx Try.runUnderlying27 rfl Try.sizeOf3 (by decide) rfl) ?_
       refine ent_o rfl (ok_loadB (k := 4) Try.isAgg3 rfl rfl rfl) ?_
       refine emm rfl ?_
       refine ent_o rfl (ok_build st27 (As := [aInt 0, aEx (.slice none 0 0)]) z27 (⟨0, 1, rfl, .inl ⟨rfl, _, rfl, (one_int _), rfl, ⟨1, 1, rfl, .inl ⟨rfl, _, rfl, (one_ex rfl), rfl, rfl⟩⟩⟩⟩)) ?_
       refine ent_o rfl (ok_callP [0] (by exact pl_tup ⟨pl_ex, pl_ex, trivial⟩) (mDet_ok f (⟨a.cols, swp [] a.rows 0 1⟩ : Mat)) ⟨arg_a rfl (cv_id (sub_lent _)), arg_a rfl (cv_agg ⟨cv_int (by first | rfl | assumption | omega | (simp_all; done) | grind), cv_vec (k := 0) (off_lent rfl (by decide)) (by first | rfl | assumption | (simp; done) | (simp_all; done) | omega) (by first | rfl | assumption | omega | (simp_all; done) | grind), trivial⟩), trivial⟩) ?_
       refine emm rfl ?_
       refine ent_o rfl (ok_extract rfl rfl) ?_
       refine ent_o rfl (ok_extract rfl rfl) ?_
       refine emm rfl ?_
       refine enk K25 ?_
       refine ent_seq fun _ K26 => ?_
       refine ent_cut (⟨[(6, aBool (decide (((sqErr f (⟨a.cols, swp [] a.rows 0 1⟩ : Mat)) = 0) ∧ ((detV f (⟨a.cols, swp [] a.rows 0 1⟩ : Mat)) = (negF f (detV f a))))))], [oVec (some b149_6) c149 22 1 false aInts (swp [] a.rows 0 1), oBox b12_5 27 [aInt ((turM f a).cols), aSl 1 false aInts ((turM f a).rows)], oBox b11_4 27 [aInt ((mulV f a b).cols), aSl 1 false aInts ((mulV f a b).rows)], oBox b5_3 27 [aInt b.cols, aSl 1 false aInts b.rows], oBox b4_2 27 [aInt a.cols, aSl 1 false aInts a.rows], oBox b3_1 24 [aInt f.P, aInt f.M, aSl 1 false aInt f.mod]]⟩) ?_ ?_
       ·refine ent_region ?_
        refine emm rfl ?_
        refine ent_o rfl (ok_eql rfl rfl) ?_
        refine emm rfl ?_
        refine ent_guardXDt rfl rfl rfl rfl (fun hg171 => ?_) (fun hg171 => ?_)
        ·refine emm rfl ?_
         refine ent_guardXT rfl rfl rfl rfl (decide_eq_true hg171) ?_
         refine ent_o rfl (ok_loadBS (k := 5) ti24 rfl rfl rfl) ?_
         refine ent_guardXT rfl rfl rfl rfl (decide_eq_true hg171) ?_
         refine emm rfl ?_
         refine ent_guardXT rfl rfl rfl rfl (decide_eq_true hg171) ?_
         refine ent_o rfl (ok_call (rNeg_ok f (detV f a) (by first | rfl | assumption | omega | (simp_all; done) | grind)) rfl) ?_
         refine ent_guardXT rfl rfl rfl rfl (decide_eq_true hg171) ?_
         refine ent_o rfl (ok_eql rfl rfl) ?_
         refine ent_o rfl (ok_pickT rfl (decide_eq_true hg171) rfl) ?_
         refine emm rfl ?_
         refine ent_nil ?_
         exact ent_rep ⟨slot_bool (dq_Q ((and_iff_right hg171).trans Iff.rfl)), trivial⟩ rfl
        ·refine ent_guardXF rfl rfl rfl rfl (decide_eq_false hg171) ?_
         refine ent_guardXF rfl rfl rfl rfl (decide_eq_false hg171) ?_
         refine ent_guardXF rfl rfl rfl rfl (decide_eq_false hg171) ?_
         refine ent_guardXF rfl rfl rfl rfl (decide_eq_false hg171) ?_
         refine ent_o rfl (ok_pickF rfl (decide_eq_false hg171) rfl) ?_
         refine emm rfl ?_
         refine ent_nil ?_
         exact ent_rep ⟨slot_bool (dq_F rfl (fun h => hg171 h.1)), trivial⟩ rfl
       refine ent_k K26 ?_
       refine ent_ret ?_
       exact retR1 (.inr rfl) Try.results12 (resr_tmp (res_cv rfl (cv_bool (by first | rfl | exact decide_eq_true ⟨dq, dv⟩ | simp [dq, dv]))))
end Go.Proofs.Ytamhdlkfhhpdpaa
