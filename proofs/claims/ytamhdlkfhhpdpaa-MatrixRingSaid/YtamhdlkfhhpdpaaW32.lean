/-
  Facts for the law MatrixRing.
-/
import Derived.Test.YtamhdlkfhhpdpaaProg
import Derived.Test.YtamhdlkfhhpdpaaWTab
import Derived.Test.YtamhdlkfhhpdpaaPlainOp
import Derived.Test.YtamhdlkfhhpdpaaCzLib
import Derived.Test.YtamhdlkfhhpdpaaW1
import Derived.Test.YtamhdlkfhhpdpaaW4
import Derived.Test.YtamhdlkfhhpdpaaW5
import Derived.Test.YtamhdlkfhhpdpaaW6
import Derived.Test.YtamhdlkfhhpdpaaW9
import Derived.Test.YtamhdlkfhhpdpaaW10
import Derived.Test.YtamhdlkfhhpdpaaW11
import Derived.Test.YtamhdlkfhhpdpaaW12
import Derived.Test.YtamhdlkfhhpdpaaW13
import Derived.Test.YtamhdlkfhhpdpaaW14
import Derived.Test.YtamhdlkfhhpdpaaW15
import Derived.Test.YtamhdlkfhhpdpaaW16
import Derived.Test.YtamhdlkfhhpdpaaW17
import Derived.Test.YtamhdlkfhhpdpaaW18
import Derived.Test.YtamhdlkfhhpdpaaW19
import Derived.Test.YtamhdlkfhhpdpaaW20
import Derived.Test.YtamhdlkfhhpdpaaW21
import Derived.Test.YtamhdlkfhhpdpaaW23
import Derived.Test.YtamhdlkfhhpdpaaW31
open Go Go.Cw
namespace Go.Proofs.Ytamhdlkfhhpdpaa
set_option maxRecDepth 100000
set_option linter.unusedVariables false
set_option linter.unusedSimpArgs false
theorem MatrixRing_walk (f : Fld) (a b : Mat)  : Ctr Try.prog 11 [aFld f, aMat a, aMat b] (aBool true) := by
 refine ctr_of Try.call11 Try.func11 rfl rfl ?_
 intro w O
 refine ent_lenC 0 2 rfl rfl (fun hlen0_2 => ?_)
 refine ent_lenC 1 1 rfl rfl (fun hlen1_1 => ?_)
 refine ent_lenC 2 1 rfl rfl (fun hlen2_1 => ?_)
 refine esr rfl fun _ K1 => ?_
 refine ent_boxS rfl rfl (AllOne.mem ⟨(one_int _), (one_int _), one_sl, trivial⟩) (fun b3_1 => ?_)
 refine ent_boxS rfl rfl (AllOne.mem ⟨(one_int _), one_sl, trivial⟩) (fun b4_2 => ?_)
 refine ent_boxS rfl rfl (AllOne.mem ⟨(one_int _), one_sl, trivial⟩) (fun b5_3 => ?_)
 refine emm rfl ?_
 refine enk K1 ?_
 refine ent_seq fun _ K2 => ?_
 refine ent_seq fun _ K3 => ?_
 refine ent_cut (⟨[(3, aEx (.pointer (some ⟨b3_1, 0, none⟩))), (4, aEx (.pointer (some ⟨b4_2, 0, none⟩))), (5, aEx (.pointer (some ⟨b5_3, 0, none⟩))), (34, aBool (decide ((¬ (few a 150 = true)) ∨ (¬ (few b 150 = true)))))], [oBox b5_3 27 [aInt b.cols, aSl 1 false aInts b.rows], oBox b4_2 27 [aInt a.cols, aSl 1 false aInts a.rows], oBox b3_1 24 [aInt f.P, aInt f.M, aSl 1 false aInt f.mod]]⟩) ?_ ?_
 ·refine ent_region ?_
  refine ent_o rfl (ok_call awake_ok rfl) ?_
  refine ent_o rfl (ok_not rfl) ?_
  refine emm rfl ?_
  refine ent_guardXT rfl rfl rfl rfl rfl ?_
  refine ent_o rfl (ok_loadBS (k := 1) ti27 rfl rfl rfl) ?_
  refine ent_guardXT rfl rfl rfl rfl rfl ?_
  refine ent_o rfl (ok_call (rFew_ok a 150 (by first | rfl | assumption | omega | (simp_all; done) | grind) (by first | rfl | assumption | omega | (simp_all; done) | grind)) rfl) ?_
  refine ent_guardXT rfl rfl rfl rfl rfl ?_
  refine ent_o rfl (ok_notD rfl) ?_
  refine ent_o rfl (ok_pickF rfl rfl rfl) ?_
  refine emm rfl ?_
  refine ent_guardXDf rfl rfl rfl rfl (fun hg30 => ?_) (fun hg30 => ?_)
  ·refine ent_o rfl (ok_loadBS (k := 0) ti27 rfl rfl rfl) ?_
   refine ent_guardXT rfl rfl rfl rfl (decide_eq_false hg30) ?_
   refine ent_o rfl (ok_call (rFew_ok b 150 (by first | rfl | assumption | omega | (simp_all; done) | grind) (by first | rfl | assumption | omega | (simp_all; done) | grind)) rfl) ?_
   refine ent_guardXT rfl rfl rfl rfl (decide_eq_false hg30) ?_
   refine ent_o rfl (ok_notD rfl) ?_
   refine ent_o rfl (ok_pickF rfl (decide_eq_false hg30) rfl) ?_
   refine ent_nil ?_
   exact ent_rep ⟨rfl, rfl, rfl, slot_bool (dq_Q ((or_iff_right hg30).trans Iff.rfl)), trivial⟩ rfl
  ·refine ent_guardXF rfl rfl rfl rfl (decide_eq_true hg30) ?_
   refine ent_guardXF rfl rfl rfl rfl (decide_eq_true hg30) ?_
   refine ent_o rfl (ok_pickT rfl (decide_eq_true hg30) rfl) ?_
   refine ent_nil ?_
   exact ent_rep ⟨rfl, rfl, rfl, slot_bool (dq_T rfl (Or.inl hg30)), trivial⟩ rfl
 refine ent_k K3 ?_
 refine ent_condD rfl (fun h34 => ?_) (fun h34 => ?_)
 ·refine esr rfl fun _ K4 => ?_
  refine ent_o rfl (ok_call awake_ok rfl) ?_
  refine emm rfl ?_
  refine enk K4 ?_
  refine ent_ret ?_
  exact retR1 (.inr rfl) Try.results11 (resr_tmp (res_cv rfl (cv_bool (by first | rfl | exact decide_eq_true ⟨⟨⟨⟨⟨⟨r7, r3⟩, r1⟩, r2⟩, r9⟩, by omega⟩, by omega⟩ | (simp [r1, r2, r3, r4, r5, r6, r7, r9]; omega)))))
 ·refine esp K2 ?_
  refine esr rfl fun _ K5 => ?_
  refine ent_o rfl (ok_loadBS (k := 2) ti24 rfl rfl rfl) ?_
  refine ent_o rfl (ok_loadBS (k := 1) ti27 rfl rfl rfl) ?_
  refine ent_o rfl (ok_loadBS (k := 0) ti27 rfl rfl rfl) ?_
  refine ent_o rfl (ok_call (mMulE_ok f a b) rfl) ?_
  refine emm rfl ?_
  refine ent_o rfl (ok_extract rfl rfl) ?_
  refine ent_o rfl (ok_extract rfl rfl) ?_
  refine ent_alloc (z := .agg #[.int .i64 0, .slice none 0 0]) [aInt 0, aEx (.slice none 0 0)] rfl zv27 rfl zc27 (fun b7_4 => ?_)
  refine ent_storeBS (k := 0) Try.sizeOf27 rfl rfl rfl (AllOne.mem ⟨(one_int _), one_sl, trivial⟩) rfl rfl ?_
  show Ent _ ⟨_, [_, _, _, _]⟩ _
  refine emm rfl ?_
  refine enk K5 ?_
  refine ent_seq fun _ K6 => ?_
  refine esr rfl fun _ K7 => ?_
  refine ent_o rfl (ok_neq rfl rfl) ?_
  refine enk K7 ?_
  refine ent_condD rfl (fun h44 => ?_) (fun h44 => ?_)
  ·refine esk rfl ?_
   refine ent_ret ?_
   exact retR1 (.inr rfl) Try.results11 (resr_tmp (res_cv rfl (cv_bool (by first | rfl | exact decide_eq_true ⟨⟨⟨⟨⟨⟨r7, r3⟩, r1⟩, r2⟩, r9⟩, by omega⟩, by omega⟩ | (simp [r1, r2, r3, r4, r5, r6, r7, r9]; omega)))))
  ·have hm0 := Classical.not_not.1 h44
   have hR := ring_walk hm0
   have r1 := hR.s
   have r2 := hR.t
   have r3 := hR.p
   have r4 := hR.r
   have r5 := hR.x
   have r6 := hR.y
   have r7 := hR.z
   have r8 := hR.q
   have r9 := hR.xz
   have m1 := hR.m1
   have m2 := hR.m2
   refine esp K6 ?_
   refine esr rfl fun _ K9 => ?_
   refine ent_o rfl (ok_loadBS (k := 3) ti24 rfl rfl rfl) ?_
   refine ent_o rfl (ok_loadBS (k := 2) ti27 rfl rfl rfl) ?_
   refine ent_o rfl (ok_call (mTranspose_ok f a) rfl) ?_
   refine emm rfl ?_
   refine ent_o rfl (ok_extract rfl rfl) ?_
   refine ent_o rfl (ok_extract rfl rfl) ?_
   refine ent_alloc (z := .agg #[.int .i64 0, .slice none 0 0]) [aInt 0, aEx (.slice none 0 0)] rfl zv27 rfl zc27 (fun b9_5 => ?_)
   refine ent_storeBS (k := 0) Try.sizeOf27 rfl rfl rfl (AllOne.mem ⟨(one_int _), one_sl, trivial⟩) rfl rfl ?_
   show Ent _ ⟨_, [_, _, _, _, _]⟩ _
   refine emm rfl ?_
   refine enk K9 ?_
   refine esr rfl fun _ K10 => ?_
   refine ent_o rfl (ok_loadBS (k := 4) ti24 rfl rfl rfl) ?_
   refine ent_o rfl (ok_loadBS (k := 2) ti27 rfl rfl rfl) ?_
   refine ent_o rfl (ok_call (mTranspose_ok f b) rfl) ?_
   refine emm rfl ?_
   refine ent_o rfl (ok_extract rfl rfl) ?_
   refine ent_o rfl (ok_extract rfl rfl) ?_
   refine ent_alloc (z := .agg #[.int .i64 0, .slice none 0 0]) [aInt 0, aEx (.slice none 0 0)] rfl zv27 rfl zc27 (fun b11_6 => ?_)
   refine ent_storeBS (k := 0) Try.sizeOf27 rfl rfl rfl (AllOne.mem ⟨(one_int _), one_sl, trivial⟩) rfl rfl ?_
   show Ent _ ⟨_, [_, _, _, _, _, _]⟩ _
   refine emm rfl ?_
   refine enk K10 ?_
   refine ent_seq fun _ K11 => ?_
   refine ent_seq fun _ K12 => ?_
   refine ent_cut (⟨[(3, aEx (.pointer (some ⟨b3_1, 0, none⟩))), (4, aEx (.pointer (some ⟨b4_2, 0, none⟩))), (5, aEx (.pointer (some ⟨b5_3, 0, none⟩))), (7, aEx (.pointer (some ⟨b7_4, 0, none⟩))), (9, aEx (.pointer (some ⟨b9_5, 0, none⟩))), (11, aEx (.pointer (some ⟨b11_6, 0, none⟩))), (62, aBool (decide (((mErr f a) ≠ 0) ∨ ((mErr f b) ≠ 0))))], [oBox b11_6 27 [aInt ((turM f b).cols), aSl 1 false aInts ((turM f b).rows)], oBox b9_5 27 [aInt ((turM f a).cols), aSl 1 false aInts ((turM f a).rows)], oBox b7_4 27 [aInt ((mulV f a b).cols), aSl 1 false aInts ((mulV f a b).rows)], oBox b5_3 27 [aInt b.cols, aSl 1 false aInts b.rows], oBox b4_2 27 [aInt a.cols, aSl 1 false aInts a.rows], oBox b3_1 24 [aInt f.P, aInt f.M, aSl 1 false aInt f.mod]]⟩) ?_ ?_
   ·refine ent_region ?_
    refine emm rfl ?_
    refine ent_o rfl (ok_neq rfl rfl) ?_
    refine emm rfl ?_
    refine ent_guardXDf rfl rfl rfl rfl (fun hg59 => ?_) (fun hg59 => ?_)
    ·refine emm rfl ?_
     refine ent_guardXT rfl rfl rfl rfl (decide_eq_false hg59) ?_
     refine ent_o rfl (ok_neq rfl rfl) ?_
     refine ent_o rfl (ok_pickF rfl (decide_eq_false hg59) rfl) ?_
     refine ent_nil ?_
     exact ent_rep ⟨rfl, rfl, rfl, rfl, rfl, rfl, slot_bool (dq_Q ((or_iff_right hg59).trans Iff.rfl)), trivial⟩ rfl
    ·refine ent_guardXF rfl rfl rfl rfl (decide_eq_true hg59) ?_
     refine ent_o rfl (ok_pickT rfl (decide_eq_true hg59) rfl) ?_
     refine ent_nil ?_
     exact ent_rep ⟨rfl, rfl, rfl, rfl, rfl, rfl, slot_bool (dq_T rfl (Or.inl hg59)), trivial⟩ rfl
   refine ent_k K12 ?_
   refine ent_condD rfl (fun h62 => ?_) (fun h62 => ?_)
   ·omega
   ·refine esp K11 ?_
    refine esr rfl fun _ K13 => ?_
    refine ent_o rfl (ok_loadBS (k := 5) ti24 rfl rfl rfl) ?_
    refine ent_o rfl (ok_loadBS (k := 2) ti27 rfl rfl rfl) ?_
    refine ent_o rfl (ok_call (mTranspose_ok f (mulV f a b)) rfl) ?_
    refine emm rfl ?_
    refine ent_o rfl (ok_extract rfl rfl) ?_
    refine ent_o rfl (ok_extract rfl rfl) ?_
    refine ent_alloc (z := .agg #[.int .i64 0, .slice none 0 0]) [aInt 0, aEx (.slice none 0 0)] rfl zv27 rfl zc27 (fun b13_7 => ?_)
    refine ent_storeBS (k := 0) Try.sizeOf27 rfl rfl rfl (AllOne.mem ⟨(one_int _), one_sl, trivial⟩) rfl rfl ?_
    show Ent _ ⟨_, [_, _, _, _, _, _, _]⟩ _
    refine emm rfl ?_
    refine enk K13 ?_
    refine esr rfl fun _ K14 => ?_
    refine ent_o rfl (ok_loadBS (k := 6) ti24 rfl rfl rfl) ?_
    refine ent_o rfl (ok_loadBS (k := 1) ti27 rfl rfl rfl) ?_
    refine ent_o rfl (ok_loadBS (k := 2) ti27 rfl rfl rfl) ?_
    refine ent_o rfl (ok_call (mMulE_ok f (turM f b) (turM f a)) rfl) ?_
    refine emm rfl ?_
    refine ent_o rfl (ok_extract rfl rfl) ?_
    refine ent_o rfl (ok_extract rfl rfl) ?_
    refine ent_alloc (z := .agg #[.int .i64 0, .slice none 0 0]) [aInt 0, aEx (.slice none 0 0)] rfl zv27 rfl zc27 (fun b14_8 => ?_)
    refine ent_storeBS (k := 0) Try.sizeOf27 rfl rfl rfl (AllOne.mem ⟨(one_int _), one_sl, trivial⟩) rfl rfl ?_
    show Ent _ ⟨_, [_, _, _, _, _, _, _, _]⟩ _
    refine emm rfl ?_
    refine enk K14 ?_
    refine ent_seq fun _ K15 => ?_
    refine ent_seq fun _ K16 => ?_
    refine ent_cut (⟨[(3, aEx (.pointer (some ⟨b3_1, 0, none⟩))), (4, aEx (.pointer (some ⟨b4_2, 0, none⟩))), (5, aEx (.pointer (some ⟨b5_3, 0, none⟩))), (7, aEx (.pointer (some ⟨b7_4, 0, none⟩))), (11, aEx (.pointer (some ⟨b11_6, 0, none⟩))), (87, aBool (decide ((((mErr f (mulV f a b)) ≠ 0) ∨ ((mulE f (turM f b) (turM f a)) ≠ 0)) ∨ (¬ ((turM f (mulV f a b)) = (mulV f (turM f b) (turM f a)))))))], [oBox b14_8 27 [aInt ((mulV f (turM f b) (turM f a)).cols), aSl 1 false aInts ((mulV f (turM f b) (turM f a)).rows)], oBox b13_7 27 [aInt ((turM f (mulV f a b)).cols), aSl 1 false aInts ((turM f (mulV f a b)).rows)], oBox b11_6 27 [aInt ((turM f b).cols), aSl 1 false aInts ((turM f b).rows)], oBox b9_5 27 [aInt ((turM f a).cols), aSl 1 false aInts ((turM f a).rows)], oBox b7_4 27 [aInt ((mulV f a b).cols), aSl 1 false aInts ((mulV f a b).rows)], oBox b5_3 27 [aInt b.cols, aSl 1 false aInts b.rows], oBox b4_2 27 [aInt a.cols, aSl 1 false aInts a.rows], oBox b3_1 24 [aInt f.P, aInt f.M, aSl 1 false aInt f.mod]]⟩) ?_ ?_
    ·refine ent_region ?_
     refine emm rfl ?_
     refine ent_o rfl (ok_neq rfl rfl) ?_
     refine emm rfl ?_
     refine ent_guardXDf rfl rfl rfl rfl (fun hg78 => ?_) (fun hg78 => ?_)
     ·refine emm rfl ?_
      refine ent_guardXT rfl rfl rfl rfl (decide_eq_false hg78) ?_
      refine ent_o rfl (ok_neq rfl rfl) ?_
      refine ent_o rfl (ok_pickF rfl (decide_eq_false hg78) rfl) ?_
      refine emm rfl ?_
      refine ent_guardXDf rfl rfl rfl rfl (fun hg82 => ?_) (fun hg82 => ?_)
      ·refine ent_o rfl (ok_loadBS (k := 1) ti27 rfl rfl rfl) ?_
       refine ent_guardXT rfl rfl rfl rfl (decide_eq_false hg82) ?_
       refine ent_o rfl (ok_loadBS (k := 0) ti27 rfl rfl rfl) ?_
       refine ent_guardXT rfl rfl rfl rfl (decide_eq_false hg82) ?_
       refine ent_o rfl (ok_call (rSame_ok (turM f (mulV f a b)) (mulV f (turM f b) (turM f a))) rfl) ?_
       refine ent_guardXT rfl rfl rfl rfl (decide_eq_false hg82) ?_
       refine ent_o rfl (ok_notD rfl) ?_
       refine ent_o rfl (ok_pickF rfl (decide_eq_false hg82) rfl) ?_
       refine ent_nil ?_
       exact ent_rep ⟨rfl, rfl, rfl, rfl, rfl, slot_bool (dq_Q ((or_iff_right (fun h => h.elim hg78 hg82)).trans Iff.rfl)), trivial⟩ rfl
      ·refine ent_guardXF rfl rfl rfl rfl (decide_eq_true hg82) ?_
       refine ent_guardXF rfl rfl rfl rfl (decide_eq_true hg82) ?_
       refine ent_guardXF rfl rfl rfl rfl (decide_eq_true hg82) ?_
       refine ent_o rfl (ok_pickT rfl (decide_eq_true hg82) rfl) ?_
       refine ent_nil ?_
       exact ent_rep ⟨rfl, rfl, rfl, rfl, rfl, slot_bool (dq_T rfl (Or.inl (Or.inr hg82))), trivial⟩ rfl
     ·refine ent_guardXF rfl rfl rfl rfl (decide_eq_true hg78) ?_
      refine ent_o rfl (ok_pickT rfl (decide_eq_true hg78) rfl) ?_
      refine emm rfl ?_
      refine ent_guardXF rfl rfl rfl rfl rfl ?_
      refine ent_guardXF rfl rfl rfl rfl rfl ?_
      refine ent_guardXF rfl rfl rfl rfl rfl ?_
      refine ent_guardXF rfl rfl rfl rfl rfl ?_
      refine ent_o rfl (ok_pickT rfl rfl rfl) ?_
      refine ent_nil ?_
      exact ent_rep ⟨rfl, rfl, rfl, rfl, rfl, slot_bool (dq_T rfl (Or.inl (Or.inl hg78))), trivial⟩ rfl
    refine ent_k K16 ?_
    refine ent_condD rfl (fun h87 => ?_) (fun h87 => ?_)
    ·simp [r3, r4, r8] at h87
    ·refine esp K15 ?_
     refine esr rfl fun _ K17 => ?_
     refine ent_o rfl (ok_loadBS (k := 7) ti24 rfl rfl rfl) ?_
     refine ent_o rfl (ok_loadBS (k := 4) ti27 rfl rfl rfl) ?_
     refine ent_o rfl (ok_loadBS (k := 2) ti27 rfl rfl rfl) ?_
     refine ent_o rfl (ok_call (mMulE_ok f (mulV f a b) (turM f b)) rfl) ?_
     refine emm rfl ?_
     refine ent_o rfl (ok_extract rfl rfl) ?_
     refine ent_o rfl (ok_extract rfl rfl) ?_
     refine ent_alloc (z := .agg #[.int .i64 0, .slice none 0 0]) [aInt 0, aEx (.slice none 0 0)] rfl zv27 rfl zc27 (fun b15_9 => ?_)
     refine ent_storeBS (k := 0) Try.sizeOf27 rfl rfl rfl (AllOne.mem ⟨(one_int _), one_sl, trivial⟩) rfl rfl ?_
     show Ent _ ⟨_, [_, _, _, _, _, _, _, _, _]⟩ _
     refine emm rfl ?_
     refine enk K17 ?_
     refine esr rfl fun _ K18 => ?_
     refine ent_o rfl (ok_loadBS (k := 8) ti24 rfl rfl rfl) ?_
     refine ent_o rfl (ok_loadBS (k := 6) ti27 rfl rfl rfl) ?_
     refine ent_o rfl (ok_loadBS (k := 3) ti27 rfl rfl rfl) ?_
     refine ent_o rfl (ok_call (mMulE_ok f b (turM f b)) rfl) ?_
     refine emm rfl ?_
     refine ent_o rfl (ok_extract rfl rfl) ?_
     refine ent_o rfl (ok_extract rfl rfl) ?_
     refine ent_alloc (z := .agg #[.int .i64 0, .slice none 0 0]) [aInt 0, aEx (.slice none 0 0)] rfl zv27 rfl zc27 (fun b16_10 => ?_)
     refine ent_storeBS (k := 0) Try.sizeOf27 rfl rfl rfl (AllOne.mem ⟨(one_int _), one_sl, trivial⟩) rfl rfl ?_
     show Ent _ ⟨_, [_, _, _, _, _, _, _, _, _, _]⟩ _
     refine emm rfl ?_
     refine enk K18 ?_
     refine ent_seq fun _ K19 => ?_
     refine ent_seq fun _ K20 => ?_
     refine ent_cut (⟨[(3, aEx (.pointer (some ⟨b3_1, 0, none⟩))), (4, aEx (.pointer (some ⟨b4_2, 0, none⟩))), (5, aEx (.pointer (some ⟨b5_3, 0, none⟩))), (7, aEx (.pointer (some ⟨b7_4, 0, none⟩))), (15, aEx (.pointer (some ⟨b15_9, 0, none⟩))), (16, aEx (.pointer (some ⟨b16_10, 0, none⟩))), (107, aBool (decide (((mulE f (mulV f a b) (turM f b)) ≠ 0) ∨ ((mulE f b (turM f b)) ≠ 0))))], [oBox b16_10 27 [aInt ((mulV f b (turM f b)).cols), aSl 1 false aInts ((mulV f b (turM f b)).rows)], oBox b15_9 27 [aInt ((mulV f (mulV f a b) (turM f b)).cols), aSl 1 false aInts ((mulV f (mulV f a b) (turM f b)).rows)], oBox b14_8 27 [aInt ((mulV f (turM f b) (turM f a)).cols), aSl 1 false aInts ((mulV f (turM f b) (turM f a)).rows)], oBox b13_7 27 [aInt ((turM f (mulV f a b)).cols), aSl 1 false aInts ((turM f (mulV f a b)).rows)], oBox b11_6 27 [aInt ((turM f b).cols), aSl 1 false aInts ((turM f b).rows)], oBox b9_5 27 [aInt ((turM f a).cols), aSl 1 false aInts ((turM f a).rows)], oBox b7_4 27 [aInt ((mulV f a b).cols), aSl 1 false aInts ((mulV f a b).rows)], oBox b5_3 27 [aInt b.cols, aSl 1 false aInts b.rows], oBox b4_2 27 [aInt a.cols, aSl 1 false aInts a.rows], oBox b3_1 24 [aInt f.P, aInt f.M, aSl 1 false aInt f.mod]]⟩) ?_ ?_
     ·refine ent_region ?_
      refine emm rfl ?_
      refine ent_o rfl (ok_neq rfl rfl) ?_
      refine emm rfl ?_
      refine ent_guardXDf rfl rfl rfl rfl (fun hg104 => ?_) (fun hg104 => ?_)
      ·refine emm rfl ?_
       refine ent_guardXT rfl rfl rfl rfl (decide_eq_false hg104) ?_
       refine ent_o rfl (ok_neq rfl rfl) ?_
       refine ent_o rfl (ok_pickF rfl (decide_eq_false hg104) rfl) ?_
       refine ent_nil ?_
       exact ent_rep ⟨rfl, rfl, rfl, rfl, rfl, rfl, slot_bool (dq_Q ((or_iff_right hg104).trans Iff.rfl)), trivial⟩ rfl
      ·refine ent_guardXF rfl rfl rfl rfl (decide_eq_true hg104) ?_
       refine ent_o rfl (ok_pickT rfl (decide_eq_true hg104) rfl) ?_
       refine ent_nil ?_
       exact ent_rep ⟨rfl, rfl, rfl, rfl, rfl, rfl, slot_bool (dq_T rfl (Or.inl hg104)), trivial⟩ rfl
     refine ent_k K20 ?_
     refine ent_condD rfl (fun h107 => ?_) (fun h107 => ?_)
     ·omega
     ·refine esp K19 ?_
      refine esr rfl fun _ K21 => ?_
      refine ent_o rfl (ok_loadBS (k := 9) ti24 rfl rfl rfl) ?_
      refine ent_o rfl (ok_loadBS (k := 8) ti27 rfl rfl rfl) ?_
      refine ent_o rfl (ok_loadBS (k := 0) ti27 rfl rfl rfl) ?_
      refine ent_o rfl (ok_call (mMulE_ok f a (mulV f b (turM f b))) rfl) ?_
      refine emm rfl ?_
      refine ent_o rfl (ok_extract rfl rfl) ?_
      refine ent_o rfl (ok_extract rfl rfl) ?_
      refine ent_alloc (z := .agg #[.int .i64 0, .slice none 0 0]) [aInt 0, aEx (.slice none 0 0)] rfl zv27 rfl zc27 (fun b17_11 => ?_)
      refine ent_storeBS (k := 0) Try.sizeOf27 rfl rfl rfl (AllOne.mem ⟨(one_int _), one_sl, trivial⟩) rfl rfl ?_
      show Ent _ ⟨_, [_, _, _, _, _, _, _, _, _, _, _]⟩ _
      refine emm rfl ?_
      refine enk K21 ?_
      refine esr rfl fun _ K22 => ?_
      refine ent_o rfl (ok_loadBS (k := 10) ti24 rfl rfl rfl) ?_
      refine ent_o rfl (ok_loadBS (k := 7) ti27 rfl rfl rfl) ?_
      refine ent_o rfl (ok_call (mRank_ok f (mulV f a b)) rfl) ?_
      refine emm rfl ?_
      refine ent_o rfl (ok_extract rfl rfl) ?_
      refine ent_o rfl (ok_extract rfl rfl) ?_
      refine emm rfl ?_
      refine enk K22 ?_
      refine esr rfl fun _ K23 => ?_
      refine ent_o rfl (ok_loadBS (k := 10) ti24 rfl rfl rfl) ?_
      refine ent_o rfl (ok_loadBS (k := 9) ti27 rfl rfl rfl) ?_
      refine ent_o rfl (ok_call (mRank_ok f a) rfl) ?_
      refine emm rfl ?_
      refine ent_o rfl (ok_extract rfl rfl) ?_
      refine ent_o rfl (ok_extract rfl rfl) ?_
      refine emm rfl ?_
      refine enk K23 ?_
      refine esr rfl fun _ K24 => ?_
      refine ent_o rfl (ok_loadBS (k := 10) ti24 rfl rfl rfl) ?_
      refine ent_o rfl (ok_loadBS (k := 8) ti27 rfl rfl rfl) ?_
      refine ent_o rfl (ok_call (mRank_ok f b) rfl) ?_
      refine emm rfl ?_
      refine ent_o rfl (ok_extract rfl rfl) ?_
      refine ent_o rfl (ok_extract rfl rfl) ?_
      refine emm rfl ?_
      refine enk K24 ?_
      refine ent_seq fun _ K25 => ?_
      refine ent_cut (⟨[(6, aBool (decide ((((((((mulE f a (mulV f b (turM f b))) = 0) ∧ ((mErr f (mulV f a b)) = 0)) ∧ ((mErr f a) = 0)) ∧ ((mErr f b) = 0)) ∧ ((mulV f (mulV f a b) (turM f b)) = (mulV f a (mulV f b (turM f b))))) ∧ (((canP f (mulV f a b)).length : Int) ≤ ((canP f a).length))) ∧ (((canP f (mulV f a b)).length : Int) ≤ ((canP f b).length)))))], [oBox b17_11 27 [aInt ((mulV f a (mulV f b (turM f b))).cols), aSl 1 false aInts ((mulV f a (mulV f b (turM f b))).rows)], oBox b16_10 27 [aInt ((mulV f b (turM f b)).cols), aSl 1 false aInts ((mulV f b (turM f b)).rows)], oBox b15_9 27 [aInt ((mulV f (mulV f a b) (turM f b)).cols), aSl 1 false aInts ((mulV f (mulV f a b) (turM f b)).rows)], oBox b14_8 27 [aInt ((mulV f (turM f b) (turM f a)).cols), aSl 1 false aInts ((mulV f (turM f b) (turM f a)).rows)], oBox b13_7 27 [aInt ((turM f (mulV f a b)).cols), aSl 1 false aInts ((turM f (mulV f a b)).rows)], oBox b11_6 27 [aInt ((turM f b).cols), aSl 1 false aInts ((turM f b).rows)], oBox b9_5 27 [aInt ((turM f a).cols), aSl 1 false aInts ((turM f a).rows)], oBox b7_4 27 [aInt ((mulV f a b).cols), aSl 1 false aInts ((mulV f a b).rows)], oBox b5_3 27 [aInt b.cols, aSl 1 false aInts b.rows], oBox b4_2 27 [aInt a.cols, aSl 1 false aInts a.rows], oBox b3_1 24 [aInt f.P, aInt f.M, aSl 1 false aInt f.mod]]⟩) ?_ ?_
      ·refine ent_region ?_
       refine emm rfl ?_
       refine ent_o rfl (ok_eql rfl rfl) ?_
       refine emm rfl ?_
       refine ent_guardXDt rfl rfl rfl rfl (fun hg135 => ?_) (fun hg135 => ?_)
       ·refine emm rfl ?_
        refine ent_guardXT rfl rfl rfl rfl (decide_eq_true hg135) ?_
        refine ent_o rfl (ok_eql rfl rfl) ?_
        refine ent_o rfl (ok_pickT rfl (decide_eq_true hg135) rfl) ?_
        refine emm rfl ?_
        refine ent_guardXDt rfl rfl rfl rfl (fun hg139 => ?_) (fun hg139 => ?_)
        ·refine emm rfl ?_
         refine ent_guardXT rfl rfl rfl rfl (decide_eq_true hg139) ?_
         refine ent_o rfl (ok_eql rfl rfl) ?_
         refine ent_o rfl (ok_pickT rfl (decide_eq_true hg139) rfl) ?_
         refine emm rfl ?_
         refine ent_guardXDt rfl rfl rfl rfl (fun hg143 => ?_) (fun hg143 => ?_)
         ·refine emm rfl ?_
          refine ent_guardXT rfl rfl rfl rfl (decide_eq_true hg143) ?_
          refine ent_o rfl (ok_eql rfl rfl) ?_
          refine ent_o rfl (ok_pickT rfl (decide_eq_true hg143) rfl) ?_
          refine emm rfl ?_
          refine ent_guardXDt rfl rfl rfl rfl (fun hg147 => ?_) (fun hg147 => ?_)
          ·refine ent_o rfl (ok_loadBS (k := 2) ti27 rfl rfl rfl) ?_
           refine ent_guardXT rfl rfl rfl rfl (decide_eq_true hg147) ?_
           refine ent_o rfl (ok_loadBS (k := 0) ti27 rfl rfl rfl) ?_
           refine ent_guardXT rfl rfl rfl rfl (decide_eq_true hg147) ?_
           refine ent_o rfl (ok_call (rSame_ok (mulV f (mulV f a b) (turM f b)) (mulV f a (mulV f b (turM f b)))) rfl) ?_
           refine ent_o rfl (ok_pickT rfl (decide_eq_true hg147) rfl) ?_
           refine emm rfl ?_
           refine ent_guardXDt rfl rfl rfl rfl (fun hg152 => ?_) (fun hg152 => ?_)
           ·refine emm rfl ?_
            refine ent_guardXT rfl rfl rfl rfl (decide_eq_true hg152) ?_
            refine emm rfl ?_
            refine ent_guardXT rfl rfl rfl rfl (decide_eq_true hg152) ?_
            refine ent_o rfl (ok_leq rfl rfl) ?_
            refine ent_o rfl (ok_pickT rfl (decide_eq_true hg152) rfl) ?_
            refine emm rfl ?_
            refine ent_guardXDt rfl rfl rfl rfl (fun hg157 => ?_) (fun hg157 => ?_)
            ·refine emm rfl ?_
             refine ent_guardXT rfl rfl rfl rfl (decide_eq_true hg157) ?_
             refine emm rfl ?_
             refine ent_guardXT rfl rfl rfl rfl (decide_eq_true hg157) ?_
             refine ent_o rfl (ok_leq rfl rfl) ?_
             refine ent_o rfl (ok_pickT rfl (decide_eq_true hg157) rfl) ?_
             refine emm rfl ?_
             refine ent_nil ?_
             exact ent_rep ⟨slot_bool (dq_Q ((and_iff_right ⟨⟨⟨⟨⟨hg135, hg139⟩, hg143⟩, hg147⟩, hg152⟩, hg157⟩).trans Iff.rfl)), trivial⟩ rfl
            ·refine ent_guardXF rfl rfl rfl rfl (decide_eq_false hg157) ?_
             refine ent_guardXF rfl rfl rfl rfl (decide_eq_false hg157) ?_
             refine ent_o rfl (ok_pickF rfl (decide_eq_false hg157) rfl) ?_
             refine emm rfl ?_
             refine ent_nil ?_
             exact ent_rep ⟨slot_bool (dq_F rfl (fun h => (fun h => hg157 h.2) h.1)), trivial⟩ rfl
           ·refine ent_guardXF rfl rfl rfl rfl (decide_eq_false hg152) ?_
            refine ent_guardXF rfl rfl rfl rfl (decide_eq_false hg152) ?_
            refine ent_o rfl (ok_pickF rfl (decide_eq_false hg152) rfl) ?_
            refine emm rfl ?_
            refine ent_guardXF rfl rfl rfl rfl rfl ?_
            refine ent_guardXF rfl rfl rfl rfl rfl ?_
            refine ent_guardXF rfl rfl rfl rfl rfl ?_
            refine ent_o rfl (ok_pickF rfl rfl rfl) ?_
            refine emm rfl ?_
            refine ent_nil ?_
            exact ent_rep ⟨slot_bool (dq_F rfl (fun h => (fun h => (fun h => hg152 h.2) h.1) h.1)), trivial⟩ rfl
          ·refine ent_guardXF rfl rfl rfl rfl (decide_eq_false hg147) ?_
           refine ent_guardXF rfl rfl rfl rfl (decide_eq_false hg147) ?_
           refine ent_o rfl (ok_pickF rfl (decide_eq_false hg147) rfl) ?_
           refine emm rfl ?_
           refine ent_guardXF rfl rfl rfl rfl rfl ?_
           refine ent_guardXF rfl rfl rfl rfl rfl ?_
           refine ent_guardXF rfl rfl rfl rfl rfl ?_
           refine ent_o rfl (ok_pickF rfl rfl rfl) ?_
           refine emm rfl ?_
           refine ent_guardXF rfl rfl rfl rfl rfl ?_
           refine ent_guardXF rfl rfl rfl rfl rfl ?_
           refine ent_guardXF rfl rfl rfl rfl rfl ?_
           refine ent_o rfl (ok_pickF rfl rfl rfl) ?_
           refine emm rfl ?_
           refine ent_nil ?_
           exact ent_rep ⟨slot_bool (dq_F rfl (fun h => (fun h => (fun h => (fun h => hg147 h.2) h.1) h.1) h.1)), trivial⟩ rfl
         ·refine ent_guardXF rfl rfl rfl rfl (decide_eq_false hg143) ?_
          refine ent_o rfl (ok_pickF rfl (decide_eq_false hg143) rfl) ?_
          refine emm rfl ?_
          refine ent_guardXF rfl rfl rfl rfl rfl ?_
          refine ent_guardXF rfl rfl rfl rfl rfl ?_
          refine ent_guardXF rfl rfl rfl rfl rfl ?_
          refine ent_o rfl (ok_pickF rfl rfl rfl) ?_
          refine emm rfl ?_
          refine ent_guardXF rfl rfl rfl rfl rfl ?_
          refine ent_guardXF rfl rfl rfl rfl rfl ?_
          refine ent_guardXF rfl rfl rfl rfl rfl ?_
          refine ent_o rfl (ok_pickF rfl rfl rfl) ?_
          refine emm rfl ?_
          refine ent_guardXF rfl rfl rfl rfl rfl ?_
          refine ent_guardXF rfl rfl rfl rfl rfl ?_
          refine ent_guardXF rfl rfl rfl rfl rfl ?_
          refine ent_o rfl (ok_pickF rfl rfl rfl) ?_
          refine emm rfl ?_
          refine ent_nil ?_
          exact ent_rep ⟨slot_bool (dq_F rfl (fun h => (fun h => (fun h => (fun h => (fun h => hg143 h.2) h.1) h.1) h.1) h.1)), trivial⟩ rfl
        ·refine ent_guardXF rfl rfl rfl rfl (decide_eq_false hg139) ?_
         refine ent_o rfl (ok_pickF rfl (decide_eq_false hg139) rfl) ?_
         refine emm rfl ?_
         refine ent_guardXF rfl rfl rfl rfl rfl ?_
         refine ent_guardXF rfl rfl rfl rfl rfl ?_
         refine ent_o rfl (ok_pickF rfl rfl rfl) ?_
         refine emm rfl ?_
         refine ent_guardXF rfl rfl rfl rfl rfl ?_
         refine ent_guardXF rfl rfl rfl rfl rfl ?_
         refine ent_guardXF rfl rfl rfl rfl rfl ?_
         refine ent_o rfl (ok_pickF rfl rfl rfl) ?_
         refine emm rfl ?_
         refine ent_guardXF rfl rfl rfl rfl rfl ?_
         refine ent_guardXF rfl rfl rfl rfl rfl ?_
         refine ent_guardXF rfl rfl rfl rfl rfl ?_
         refine ent_o rfl (ok_pickF rfl rfl rfl) ?_
         refine emm rfl ?_
         refine ent_guardXF rfl rfl rfl rfl rfl ?_
         refine ent_guardXF rfl rfl rfl rfl rfl ?_
         refine ent_guardXF rfl rfl rfl rfl rfl ?_
         refine ent_o rfl (ok_pickF rfl rfl rfl) ?_
         refine emm rfl ?_
         refine ent_nil ?_
         exact ent_rep ⟨slot_bool (dq_F rfl (fun h => (fun h => (fun h => (fun h => (fun h => (fun h => hg139 h.2) h.1) h.1) h.1) h.1) h.1)), trivial⟩ rfl
       ·refine ent_guardXF rfl rfl rfl rfl (decide_eq_false hg135) ?_
        refine ent_o rfl (ok_pickF rfl (decide_eq_false hg135) rfl) ?_
        refine emm rfl ?_
        refine ent_guardXF rfl rfl rfl rfl rfl ?_
        refine ent_guardXF rfl rfl rfl rfl rfl ?_
        refine ent_o rfl (ok_pickF rfl rfl rfl) ?_
        refine emm rfl ?_
        refine ent_guardXF rfl rfl rfl rfl rfl ?_
        refine ent_guardXF rfl rfl rfl rfl rfl ?_
        refine ent_o rfl (ok_pickF rfl rfl rfl) ?_
        refine emm rfl ?_
        refine ent_guardXF rfl rfl rfl rfl rfl ?_
        refine ent_guardXF rfl rfl rfl rfl rfl ?_
        refine ent_guardXF rfl rfl rfl rfl rfl ?_
        refine ent_o rfl (ok_pickF rfl rfl rfl) ?_
        refine emm rfl ?_
        refine ent_guardXF rfl rfl rfl rfl rfl ?_
        refine ent_guardXF rfl rfl rfl rfl rfl ?_
        refine ent_guardXF rfl rfl rfl rfl rfl ?_
        refine ent_o rfl (ok_pickF rfl rfl rfl) ?_
        refine emm rfl ?_
        refine ent_guardXF rfl rfl rfl rfl rfl ?_
        refine ent_guardXF rfl rfl rfl rfl rfl ?_
        refine ent_guardXF rfl rfl rfl rfl rfl ?_
        refine ent_o rfl (ok_pickF rfl rfl rfl) ?_
        refine emm rfl ?_
        refine ent_nil ?_
        exact ent_rep ⟨slot_bool (dq_F rfl (fun h => (fun h => (fun h => (fun h => (fun h => (fun h => hg135 h.1) h.1) h.1) h.1) h.1) h.1)), trivial⟩ rfl
      refine ent_k K25 ?_
      refine ent_ret ?_
      exact retR1 (.inr rfl) Try.results11 (resr_tmp (res_cv rfl (cv_bool (by first | rfl | exact decide_eq_true ⟨⟨⟨⟨⟨⟨r7, r3⟩, r1⟩, r2⟩, r9⟩, by omega⟩, by omega⟩ | (simp [r1, r2, r3, r4, r5, r6, r7, r9]; omega)))))
end Go.Proofs.Ytamhdlkfhhpdpaa
