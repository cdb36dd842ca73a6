/-
  The examples of the chapter.
-/
import Derived.Test.YtamhdlkfhhpdpaaProg
import Derived.Test.YtamhdlkfhhpdpaaWTab
import Derived.Test.YtamhdlkfhhpdpaaPlainAw
import Derived.Test.YtamhdlkfhhpdpaaCzLib
import Derived.Test.YtamhdlkfhhpdpaaW1
import Derived.Test.YtamhdlkfhhpdpaaW4
import Derived.Test.YtamhdlkfhhpdpaaW5
import Derived.Test.YtamhdlkfhhpdpaaW6
import Derived.Test.YtamhdlkfhhpdpaaW9
import Derived.Test.YtamhdlkfhhpdpaaW10
import Derived.Test.YtamhdlkfhhpdpaaW11
import Derived.Test.YtamhdlkfhhpdpaaW12
import Derived.Test.YtamhdlkfhhpdpaaW13
import Derived.Test.YtamhdlkfhhpdpaaW14
import Derived.Test.YtamhdlkfhhpdpaaW15
import Derived.Test.YtamhdlkfhhpdpaaW16
import Derived.Test.YtamhdlkfhhpdpaaW17
import Derived.Test.YtamhdlkfhhpdpaaW18
import Derived.Test.YtamhdlkfhhpdpaaW19
import Derived.Test.YtamhdlkfhhpdpaaW20
import Derived.Test.YtamhdlkfhhpdpaaW21
open Go Go.Cw
namespace Go.Proofs.Ytamhdlkfhhpdpaa
set_option maxRecDepth 100000
set_option linter.unusedVariables false
set_option linter.unusedSimpArgs false
theorem awCan : Ctr Try.prog 17 [aFld awF, aMat awM] (aTup [aMat (⟨3, [[1, 0, 1], [0, 1, 1]]⟩ : Mat), aSl 1 false aInt [0, 1], aInt 0]) := by
 have h := mCanonical_ok awF awM
 rw [aw_can, aw_piv, aw_m] at h
 exact h
theorem awRank : Ctr Try.prog 19 [aFld awF, aMat awM] (aTup [aInt 2, aInt 0]) := by
 have h := mRank_ok awF awM
 rw [aw_piv, aw_m] at h
 exact h
theorem awKer : Ctr Try.prog 29 [aFld awF, aMat awM] (aTup [aMat (⟨3, [[1, 1, 1]]⟩ : Mat), aInt 0]) := by
 have h := mKernel_ok awF awM
 rw [aw_ker, aw_m] at h
 exact h
theorem awDet : Ctr Try.prog 37 [aFld awG, aMat awS] (aTup [aInt 3, aInt 0]) := by
 have h := mDet_ok awG awS
 rw [aw_det, aw_sq] at h
 exact h
theorem awInv : Ctr Try.prog 35 [aFld awG, aMat awS] (aTup [aMat (⟨2, [[3, 1], [4, 2]]⟩ : Mat), aInt 0]) := by
 have h := mInverse_ok awG awS
 rw [aw_inv, aw_inv0] at h
 exact h
theorem awVec : Ctr Try.prog 50 [aFld awG, aSl 1 false aInt [1, 1], aMat awS] (aTup [aSl 1 false aInt [4, 1], aInt 0]) := by
 have h := mVec_ok awG [1, 1] awS
 rw [aw_vec, aw_vec0] at h
 exact h
theorem awSol : Ctr Try.prog 32 [aFld awG, aMat awS, aSl 1 false aInt [3, 2]] (aTup [aSl 1 false aInt [1, 1], aInt 0]) := by
 have h := mSolve_ok awG awS [3, 2]
 rw [aw_sol, aw_sol0] at h
 exact h
theorem awChk : Ctr Try.prog 22 [aFld awG, aMat awS] (aInt 0) := by
 have h := mCheck_ok awG awS
 rw [aw_s] at h
 exact h
theorem awBad : Ctr Try.prog 22 [aFld awF, aMat awS] (aInt 2) := by
 have h := mCheck_ok awF awS
 rw [aw_bad] at h
 exact h
theorem awSameC : Ctr Try.prog 20 [aMat (⟨3, [[1, 0, 1], [0, 1, 1]]⟩ : Mat), aMat (⟨3, [[1, 0, 1], [0, 1, 1]]⟩ : Mat)] (aBool true) := by
 have h := rSame_ok (⟨3, [[1, 0, 1], [0, 1, 1]]⟩ : Mat) (⟨3, [[1, 0, 1], [0, 1, 1]]⟩ : Mat)
 rw [decide_eq_true (rfl : (⟨3, [[1, 0, 1], [0, 1, 1]]⟩ : Mat) = (⟨3, [[1, 0, 1], [0, 1, 1]]⟩ : Mat))] at h
 exact h
theorem awSameK : Ctr Try.prog 20 [aMat (⟨3, [[1, 1, 1]]⟩ : Mat), aMat (⟨3, [[1, 1, 1]]⟩ : Mat)] (aBool true) := by
 have h := rSame_ok (⟨3, [[1, 1, 1]]⟩ : Mat) (⟨3, [[1, 1, 1]]⟩ : Mat)
 rw [decide_eq_true (rfl : (⟨3, [[1, 1, 1]]⟩ : Mat) = (⟨3, [[1, 1, 1]]⟩ : Mat))] at h
 exact h
theorem awSameV : Ctr Try.prog 20 [aMat (⟨2, [[3, 1], [4, 2]]⟩ : Mat), aMat (⟨2, [[3, 1], [4, 2]]⟩ : Mat)] (aBool true) := by
 have h := rSame_ok (⟨2, [[3, 1], [4, 2]]⟩ : Mat) (⟨2, [[3, 1], [4, 2]]⟩ : Mat)
 rw [decide_eq_true (rfl : (⟨2, [[3, 1], [4, 2]]⟩ : Mat) = (⟨2, [[3, 1], [4, 2]]⟩ : Mat))] at h
 exact h
theorem awInts01 : Ctr Try.prog 21 [aSl 1 false aInt [0, 1], aSl 1 false aInt [0, 1]] (aBool true) := by
 have h := SameInts_ok [0, 1] [0, 1]
 rw [decide_eq_true (rfl : ([0, 1] : List Int) = [0, 1])] at h
 exact h
theorem awInts41 : Ctr Try.prog 21 [aSl 1 false aInt [4, 1], aSl 1 false aInt [4, 1]] (aBool true) := by
 have h := SameInts_ok [4, 1] [4, 1]
 rw [decide_eq_true (rfl : ([4, 1] : List Int) = [4, 1])] at h
 exact h
theorem awInts11 : Ctr Try.prog 21 [aSl 1 false aInt [1, 1], aSl 1 false aInt [1, 1]] (aBool true) := by
 have h := SameInts_ok [1, 1] [1, 1]
 rw [decide_eq_true (rfl : ([1, 1] : List Int) = [1, 1])] at h
 exact h
theorem awake_ok   : Ctr Try.prog 15 [] (aBool true) := by
 refine ctr_of Try.call15 Try.func15 rfl rfl ?_
 intro w O
 refine esk rfl ?_
 refine esr rfl fun _ K2 => ?_
 refine ent_o rfl (ok_build st24 (As := [aInt 0, aInt 0, aEx (.slice none 0 0)]) z24 (⟨0, 1, rfl, .inl ⟨rfl, _, rfl, (one_int _), rfl, ⟨1, 1, rfl, .inl ⟨rfl, _, rfl, (one_int _), rfl, rfl⟩⟩⟩⟩)) ?_
 refine ent_alloc (z := .agg #[.int .i64 0, .int .i64 0, .slice none 0 0]) [aInt 0, aInt 0, aEx (.slice none 0 0)] rfl zv24 rfl zc24 (fun b1_1 => ?_)
 refine ent_storeBS (k := 0) Try.sizeOf24 rfl rfl rfl (AllOne.mem ⟨(one_int _), (one_int _), (one_ex rfl), trivial⟩) rfl rfl ?_
 show Ent _ ⟨_, [_]⟩ _
 refine enk K2 ?_
 refine esr rfl fun _ K3 => ?_
 refine ent_o rfl (ok_build st24 (As := [aInt 0, aInt 0, aEx (.slice none 0 0)]) z24 (⟨0, 1, rfl, .inl ⟨rfl, _, rfl, (one_int _), rfl, ⟨1, 1, rfl, .inl ⟨rfl, _, rfl, (one_int _), rfl, rfl⟩⟩⟩⟩)) ?_
 refine ent_alloc (z := .agg #[.int .i64 0, .int .i64 0, .slice none 0 0]) [aInt 0, aInt 0, aEx (.slice none 0 0)] rfl zv24 rfl zc24 (fun b2_2 => ?_)
 refine ent_storeBS (k := 0) Try.sizeOf24 rfl rfl rfl (AllOne.mem ⟨(one_int _), (one_int _), (one_ex rfl), trivial⟩) rfl rfl ?_
 show Ent _ ⟨_, [_, _]⟩ _
 refine enk K3 ?_
 refine esr rfl fun _ K4 => ?_
 refine ent_buildN aInt [1, 1, 0] rfl vt22 (by decide) (⟨0, 1, rfl, .inl ⟨rfl, _, rfl, (one_int _), rfl, ⟨1, 1, rfl, .inl ⟨rfl, _, rfl, (one_int _), rfl, ⟨2, 1, rfl, .inl ⟨rfl, _, rfl, (one_int _), rfl, rfl⟩⟩⟩⟩⟩⟩) rfl (fun b23_3 => ?_)
 refine ent_buildN aInt [0, 1, 1] rfl vt22 (by decide) (⟨0, 1, rfl, .inl ⟨rfl, _, rfl, (one_int _), rfl, ⟨1, 1, rfl, .inl ⟨rfl, _, rfl, (one_int _), rfl, ⟨2, 1, rfl, .inl ⟨rfl, _, rfl, (one_int _), rfl, rfl⟩⟩⟩⟩⟩⟩) rfl (fun b24_4 => ?_)
 refine ent_buildN aInt [1, 0, 1] rfl vt22 (by decide) (⟨0, 1, rfl, .inl ⟨rfl, _, rfl, (one_int _), rfl, ⟨1, 1, rfl, .inl ⟨rfl, _, rfl, (one_int _), rfl, ⟨2, 1, rfl, .inl ⟨rfl, _, rfl, (one_int _), rfl, rfl⟩⟩⟩⟩⟩⟩) rfl (fun b25_5 => ?_)
 refine ent_give 2 23 rfl (cv_vec (k := 2) (off_erase rfl) rfl rfl) ?_
 refine ent_give 1 24 rfl (cv_vec (k := 1) (off_erase rfl) rfl rfl) ?_
 refine ent_give 0 25 rfl (cv_vec (k := 0) (off_erase rfl) rfl rfl) ?_
 refine ent_buildN aInts [[1, 1, 0], [0, 1, 1], [1, 0, 1]] rfl vt25 (by decide) (⟨0, 1, rfl, .inl ⟨rfl, _, rfl, one_sl, rfl, ⟨1, 1, rfl, .inl ⟨rfl, _, rfl, one_sl, rfl, ⟨2, 1, rfl, .inl ⟨rfl, _, rfl, one_sl, rfl, rfl⟩⟩⟩⟩⟩⟩) rfl (fun b26_6 => ?_)
 refine ent_give 0 26 rfl (cv_vec (k := 0) (off_erase rfl) rfl rfl) ?_
 refine ent_o rfl (ok_build st27 (As := [aInt 0, aEx (.slice none 0 0)]) z27 (⟨0, 1, rfl, .inl ⟨rfl, _, rfl, (one_int _), rfl, ⟨1, 1, rfl, .inl ⟨rfl, _, rfl, one_sl, rfl, rfl⟩⟩⟩⟩)) ?_
 refine ent_alloc (z := .agg #[.int .i64 0, .slice none 0 0]) [aInt 0, aEx (.slice none 0 0)] rfl zv27 rfl zc27 (fun b3_7 => ?_)
 refine ent_storeBS (k := 0) Try.sizeOf27 rfl rfl rfl (AllOne.mem ⟨(one_int _), one_sl, trivial⟩) rfl rfl ?_
 show Ent _ ⟨_, [_, _, _]⟩ _
 refine enk K4 ?_
 refine esr rfl fun _ K5 => ?_
 refine ent_o rfl (ok_loadBS (k := 2) ti24 rfl rfl rfl) ?_
 refine ent_o rfl (ok_loadBS (k := 0) ti27 rfl rfl rfl) ?_
 refine ent_o rfl (ok_callA awCan ⟨arg_a rfl (cv_agg ⟨cv_int rfl, cv_int rfl, cv_nil (fun _ => rfl) rfl, trivial⟩), arg_a rfl (cv_agg ⟨cv_int rfl, cv_sl sub_refl rfl, trivial⟩), trivial⟩) ?_
 refine emm rfl ?_
 refine ent_o rfl (ok_extract rfl rfl) ?_
 refine ent_o rfl (ok_extract rfl rfl) ?_
 refine ent_o rfl (ok_extract rfl rfl) ?_
 refine ent_alloc (z := .agg #[.int .i64 0, .slice none 0 0]) [aInt 0, aEx (.slice none 0 0)] rfl zv27 rfl zc27 (fun b4_8 => ?_)
 refine ent_storeBS (k := 0) Try.sizeOf27 rfl rfl rfl (AllOne.mem ⟨(one_int _), one_sl, trivial⟩) rfl rfl ?_
 show Ent _ ⟨_, [_, _, _, _]⟩ _
 refine emm rfl ?_
 refine enk K5 ?_
 refine esr rfl fun _ K6 => ?_
 refine ent_o rfl (ok_loadBS (k := 3) ti24 rfl rfl rfl) ?_
 refine ent_o rfl (ok_loadBS (k := 1) ti27 rfl rfl rfl) ?_
 refine ent_o rfl (ok_callA awRank ⟨arg_a rfl (cv_agg ⟨cv_int rfl, cv_int rfl, cv_nil (fun _ => rfl) rfl, trivial⟩), arg_a rfl (cv_agg ⟨cv_int rfl, cv_sl sub_refl rfl, trivial⟩), trivial⟩) ?_
 refine emm rfl ?_
 refine ent_o rfl (ok_extract rfl rfl) ?_
 refine ent_o rfl (ok_extract rfl rfl) ?_
 refine emm rfl ?_
 refine enk K6 ?_
 refine esr rfl fun _ K7 => ?_
 refine ent_o rfl (ok_loadBS (k := 3) ti24 rfl rfl rfl) ?_
 refine ent_o rfl (ok_loadBS (k := 1) ti27 rfl rfl rfl) ?_
 refine ent_o rfl (ok_callA awKer ⟨arg_a rfl (cv_agg ⟨cv_int rfl, cv_int rfl, cv_nil (fun _ => rfl) rfl, trivial⟩), arg_a rfl (cv_agg ⟨cv_int rfl, cv_sl sub_refl rfl, trivial⟩), trivial⟩) ?_
 refine emm rfl ?_
 refine ent_o rfl (ok_extract rfl rfl) ?_
 refine ent_o rfl (ok_extract rfl rfl) ?_
 refine ent_alloc (z := .agg #[.int .i64 0, .slice none 0 0]) [aInt 0, aEx (.slice none 0 0)] rfl zv27 rfl zc27 (fun b9_9 => ?_)
 refine ent_storeBS (k := 0) Try.sizeOf27 rfl rfl rfl (AllOne.mem ⟨(one_int _), one_sl, trivial⟩) rfl rfl ?_
 show Ent _ ⟨_, [_, _, _, _, _]⟩ _
 refine emm rfl ?_
 refine enk K7 ?_
 refine esr rfl fun _ K8 => ?_
 refine ent_buildN aInt [1, 2] rfl vt22 (by decide) (⟨0, 1, rfl, .inl ⟨rfl, _, rfl, (one_int _), rfl, ⟨1, 1, rfl, .inl ⟨rfl, _, rfl, (one_int _), rfl, rfl⟩⟩⟩⟩) rfl (fun b47_10 => ?_)
 refine ent_buildN aInt [3, 4] rfl vt22 (by decide) (⟨0, 1, rfl, .inl ⟨rfl, _, rfl, (one_int _), rfl, ⟨1, 1, rfl, .inl ⟨rfl, _, rfl, (one_int _), rfl, rfl⟩⟩⟩⟩) rfl (fun b48_11 => ?_)
 refine ent_give 1 47 rfl (cv_vec (k := 1) (off_erase rfl) rfl rfl) ?_
 refine ent_give 0 48 rfl (cv_vec (k := 0) (off_erase rfl) rfl rfl) ?_
 refine ent_buildN aInts [[1, 2], [3, 4]] rfl vt25 (by decide) (⟨0, 1, rfl, .inl ⟨rfl, _, rfl, one_sl, rfl, ⟨1, 1, rfl, .inl ⟨rfl, _, rfl, one_sl, rfl, rfl⟩⟩⟩⟩) rfl (fun b49_12 => ?_)
 refine ent_give 0 49 rfl (cv_vec (k := 0) (off_erase rfl) rfl rfl) ?_
 refine ent_o rfl (ok_build st27 (As := [aInt 0, aEx (.slice none 0 0)]) z27 (⟨0, 1, rfl, .inl ⟨rfl, _, rfl, (one_int _), rfl, ⟨1, 1, rfl, .inl ⟨rfl, _, rfl, one_sl, rfl, rfl⟩⟩⟩⟩)) ?_
 refine ent_alloc (z := .agg #[.int .i64 0, .slice none 0 0]) [aInt 0, aEx (.slice none 0 0)] rfl zv27 rfl zc27 (fun b11_13 => ?_)
 refine ent_storeBS (k := 0) Try.sizeOf27 rfl rfl rfl (AllOne.mem ⟨(one_int _), one_sl, trivial⟩) rfl rfl ?_
 show Ent _ ⟨_, [_, _, _, _, _, _]⟩ _
 refine enk K8 ?_
 refine esr rfl fun _ K9 => ?_
 refine ent_o rfl (ok_loadBS (k := 4) ti24 rfl rfl rfl) ?_
 refine ent_o rfl (ok_loadBS (k := 0) ti27 rfl rfl rfl) ?_
 refine ent_o rfl (ok_callA awDet ⟨arg_a rfl (cv_agg ⟨cv_int rfl, cv_int rfl, cv_nil (fun _ => rfl) rfl, trivial⟩), arg_a rfl (cv_agg ⟨cv_int rfl, cv_sl sub_refl rfl, trivial⟩), trivial⟩) ?_
 refine emm rfl ?_
 refine ent_o rfl (ok_extract rfl rfl) ?_
 refine ent_o rfl (ok_extract rfl rfl) ?_
 refine emm rfl ?_
 refine enk K9 ?_
 refine esr rfl fun _ K10 => ?_
 refine ent_o rfl (ok_loadBS (k := 4) ti24 rfl rfl rfl) ?_
 refine ent_o rfl (ok_loadBS (k := 0) ti27 rfl rfl rfl) ?_
 refine ent_o rfl (ok_callA awInv ⟨arg_a rfl (cv_agg ⟨cv_int rfl, cv_int rfl, cv_nil (fun _ => rfl) rfl, trivial⟩), arg_a rfl (cv_agg ⟨cv_int rfl, cv_sl sub_refl rfl, trivial⟩), trivial⟩) ?_
 refine emm rfl ?_
 refine ent_o rfl (ok_extract rfl rfl) ?_
 refine ent_o rfl (ok_extract rfl rfl) ?_
 refine ent_alloc (z := .agg #[.int .i64 0, .slice none 0 0]) [aInt 0, aEx (.slice none 0 0)] rfl zv27 rfl zc27 (fun b14_14 => ?_)
 refine ent_storeBS (k := 0) Try.sizeOf27 rfl rfl rfl (AllOne.mem ⟨(one_int _), one_sl, trivial⟩) rfl rfl ?_
 show Ent _ ⟨_, [_, _, _, _, _, _, _]⟩ _
 refine emm rfl ?_
 refine enk K10 ?_
 refine esr rfl fun _ K11 => ?_
 refine ent_o rfl (ok_loadBS (k := 5) ti24 rfl rfl rfl) ?_
 refine ent_buildN aInt [1, 1] rfl vt22 (by decide) (⟨0, 1, rfl, .inl ⟨rfl, _, rfl, (one_int _), rfl, ⟨1, 1, rfl, .inl ⟨rfl, _, rfl, (one_int _), rfl, rfl⟩⟩⟩⟩) rfl (fun b65_15 => ?_)
 refine ent_give 0 65 rfl (cv_vec (k := 0) (off_erase rfl) rfl rfl) ?_
 refine ent_o rfl (ok_loadBS (k := 1) ti27 rfl rfl rfl) ?_
 refine ent_o rfl (ok_callA awVec ⟨arg_a rfl (cv_agg ⟨cv_int rfl, cv_int rfl, cv_nil (fun _ => rfl) rfl, trivial⟩), arg_a rfl (cv_id sub_refl), arg_a rfl (cv_agg ⟨cv_int rfl, cv_sl sub_refl rfl, trivial⟩), trivial⟩) ?_
 refine emm rfl ?_
 refine ent_o rfl (ok_extract rfl rfl) ?_
 refine ent_o rfl (ok_extract rfl rfl) ?_
 refine emm rfl ?_
 refine enk K11 ?_
 refine esr rfl fun _ K12 => ?_
 refine ent_o rfl (ok_loadBS (k := 5) ti24 rfl rfl rfl) ?_
 refine ent_o rfl (ok_loadBS (k := 1) ti27 rfl rfl rfl) ?_
 refine ent_buildN aInt [3, 2] rfl vt22 (by decide) (⟨0, 1, rfl, .inl ⟨rfl, _, rfl, (one_int _), rfl, ⟨1, 1, rfl, .inl ⟨rfl, _, rfl, (one_int _), rfl, rfl⟩⟩⟩⟩) rfl (fun b73_16 => ?_)
 refine ent_give 0 73 rfl (cv_vec (k := 0) (off_erase rfl) rfl rfl) ?_
 refine ent_o rfl (ok_callA awSol ⟨arg_a rfl (cv_agg ⟨cv_int rfl, cv_int rfl, cv_nil (fun _ => rfl) rfl, trivial⟩), arg_a rfl (cv_agg ⟨cv_int rfl, cv_sl sub_refl rfl, trivial⟩), arg_a rfl (cv_id sub_refl), trivial⟩) ?_
 refine emm rfl ?_
 refine ent_o rfl (ok_extract rfl rfl) ?_
 refine ent_o rfl (ok_extract rfl rfl) ?_
 refine emm rfl ?_
 refine enk K12 ?_
 refine esr rfl fun _ K13 => ?_
 refine ent_o rfl (ok_eql rfl rfl) ?_
 refine emm rfl ?_
 refine ent_guardXT rfl rfl rfl rfl (by decide) ?_
 refine emm rfl ?_
 refine ent_guardXT rfl rfl rfl rfl (by decide) ?_
 refine ent_o rfl (ok_eql rfl rfl) ?_
 refine ent_o rfl (ok_pickT rfl (by decide) rfl) ?_
 refine emm rfl ?_
 refine ent_guardXT rfl rfl rfl rfl (by decide) ?_
 refine emm rfl ?_
 refine ent_guardXT rfl rfl rfl rfl (by decide) ?_
 refine ent_o rfl (ok_eql rfl rfl) ?_
 refine ent_o rfl (ok_pickT rfl (by decide) rfl) ?_
 refine emm rfl ?_
 refine ent_guardXT rfl rfl rfl rfl (by decide) ?_
 refine emm rfl ?_
 refine ent_guardXT rfl rfl rfl rfl (by decide) ?_
 refine ent_o rfl (ok_eql rfl rfl) ?_
 refine ent_o rfl (ok_pickT rfl (by decide) rfl) ?_
 refine emm rfl ?_
 refine ent_guardXT rfl rfl rfl rfl (by decide) ?_
 refine emm rfl ?_
 refine ent_guardXT rfl rfl rfl rfl (by decide) ?_
 refine ent_o rfl (ok_eql rfl rfl) ?_
 refine ent_o rfl (ok_pickT rfl (by decide) rfl) ?_
 refine emm rfl ?_
 refine ent_guardXT rfl rfl rfl rfl (by decide) ?_
 refine emm rfl ?_
 refine ent_guardXT rfl rfl rfl rfl (by decide) ?_
 refine ent_o rfl (ok_eql rfl rfl) ?_
 refine ent_o rfl (ok_pickT rfl (by decide) rfl) ?_
 refine emm rfl ?_
 refine ent_guardXT rfl rfl rfl rfl (by decide) ?_
 refine emm rfl ?_
 refine ent_guardXT rfl rfl rfl rfl (by decide) ?_
 refine ent_o rfl (ok_eql rfl rfl) ?_
 refine ent_o rfl (ok_pickT rfl (by decide) rfl) ?_
 refine emm rfl ?_
 refine enk K13 ?_
 refine esr rfl fun _ K14 => ?_
 refine ent_guardXT rfl rfl rfl rfl (by decide) ?_
 refine ent_o rfl (ok_loadBS (k := 3) ti27 rfl rfl rfl) ?_
 refine ent_guardXT rfl rfl rfl rfl (by decide) ?_
 refine ent_buildN aInt [1, 0, 1] rfl vt22 (by decide) (⟨0, 1, rfl, .inl ⟨rfl, _, rfl, (one_int _), rfl, ⟨1, 1, rfl, .inl ⟨rfl, _, rfl, (one_int _), rfl, ⟨2, 1, rfl, .inl ⟨rfl, _, rfl, (one_int _), rfl, rfl⟩⟩⟩⟩⟩⟩) rfl (fun b106_17 => ?_)
 refine ent_guardXT rfl rfl rfl rfl (by decide) ?_
 refine ent_buildN aInt [0, 1, 1] rfl vt22 (by decide) (⟨0, 1, rfl, .inl ⟨rfl, _, rfl, (one_int _), rfl, ⟨1, 1, rfl, .inl ⟨rfl, _, rfl, (one_int _), rfl, ⟨2, 1, rfl, .inl ⟨rfl, _, rfl, (one_int _), rfl, rfl⟩⟩⟩⟩⟩⟩) rfl (fun b107_18 => ?_)
 refine ent_guardXT rfl rfl rfl rfl (by decide) ?_
 refine ent_give 1 106 rfl (cv_vec (k := 1) (off_erase rfl) rfl rfl) ?_
 refine ent_give 0 107 rfl (cv_vec (k := 0) (off_erase rfl) rfl rfl) ?_
 refine ent_buildN aInts [[1, 0, 1], [0, 1, 1]] rfl vt25 (by decide) (⟨0, 1, rfl, .inl ⟨rfl, _, rfl, one_sl, rfl, ⟨1, 1, rfl, .inl ⟨rfl, _, rfl, one_sl, rfl, rfl⟩⟩⟩⟩) rfl (fun b108_19 => ?_)
 refine ent_give 0 108 rfl (cv_vec (k := 0) (off_erase rfl) rfl rfl) ?_
 refine ent_guardXT rfl rfl rfl rfl (by decide) ?_
 refine ent_o rfl (ok_build st27 (As := [aInt 0, aEx (.slice none 0 0)]) z27 (⟨0, 1, rfl, .inl ⟨rfl, _, rfl, (one_int _), rfl, ⟨1, 1, rfl, .inl ⟨rfl, _, rfl, one_sl, rfl, rfl⟩⟩⟩⟩)) ?_
 refine ent_guardXT rfl rfl rfl rfl (by decide) ?_
 refine ent_o rfl (ok_callA awSameC ⟨arg_a rfl (cv_id sub_refl), arg_a rfl (cv_agg ⟨cv_int rfl, cv_sl sub_refl rfl, trivial⟩), trivial⟩) ?_
 refine ent_o rfl (ok_pickT rfl (by decide) rfl) ?_
 refine emm rfl ?_
 refine ent_guardXT rfl rfl rfl rfl rfl ?_
 refine emm rfl ?_
 refine ent_guardXT rfl rfl rfl rfl rfl ?_
 refine ent_buildN aInt [0, 1] rfl vt22 (by decide) (⟨0, 1, rfl, .inl ⟨rfl, _, rfl, (one_int _), rfl, ⟨1, 1, rfl, .inl ⟨rfl, _, rfl, (one_int _), rfl, rfl⟩⟩⟩⟩) rfl (fun b114_20 => ?_)
 refine ent_give 0 114 rfl (cv_vec (k := 0) (off_erase rfl) rfl rfl) ?_
 refine ent_guardXT rfl rfl rfl rfl rfl ?_
 refine ent_o rfl (ok_call awInts01 rfl) ?_
 refine ent_o rfl (ok_pickT rfl rfl rfl) ?_
 refine emm rfl ?_
 refine ent_guardXT rfl rfl rfl rfl rfl ?_
 refine emm rfl ?_
 refine ent_guardXT rfl rfl rfl rfl rfl ?_
 refine ent_o rfl (ok_eql rfl rfl) ?_
 refine ent_o rfl (ok_pickT rfl rfl rfl) ?_
 refine emm rfl ?_
 refine ent_guardXT rfl rfl rfl rfl (by decide) ?_
 refine ent_o rfl (ok_loadBS (k := 2) ti27 rfl rfl rfl) ?_
 refine ent_guardXT rfl rfl rfl rfl (by decide) ?_
 refine ent_buildN aInt [1, 1, 1] rfl vt22 (by decide) (⟨0, 1, rfl, .inl ⟨rfl, _, rfl, (one_int _), rfl, ⟨1, 1, rfl, .inl ⟨rfl, _, rfl, (one_int _), rfl, ⟨2, 1, rfl, .inl ⟨rfl, _, rfl, (one_int _), rfl, rfl⟩⟩⟩⟩⟩⟩) rfl (fun b123_21 => ?_)
 refine ent_guardXT rfl rfl rfl rfl (by decide) ?_
 refine ent_give 0 123 rfl (cv_vec (k := 0) (off_erase rfl) rfl rfl) ?_
 refine ent_buildN aInts [[1, 1, 1]] rfl vt25 (by decide) (⟨0, 1, rfl, .inl ⟨rfl, _, rfl, one_sl, rfl, rfl⟩⟩) rfl (fun b124_22 => ?_)
 refine ent_give 0 124 rfl (cv_vec (k := 0) (off_erase rfl) rfl rfl) ?_
 refine ent_guardXT rfl rfl rfl rfl (by decide) ?_
 refine ent_o rfl (ok_build st27 (As := [aInt 0, aEx (.slice none 0 0)]) z27 (⟨0, 1, rfl, .inl ⟨rfl, _, rfl, (one_int _), rfl, ⟨1, 1, rfl, .inl ⟨rfl, _, rfl, one_sl, rfl, rfl⟩⟩⟩⟩)) ?_
 refine ent_guardXT rfl rfl rfl rfl (by decide) ?_
 refine ent_o rfl (ok_callA awSameK ⟨arg_a rfl (cv_id sub_refl), arg_a rfl (cv_agg ⟨cv_int rfl, cv_sl sub_refl rfl, trivial⟩), trivial⟩) ?_
 refine ent_o rfl (ok_pickT rfl (by decide) rfl) ?_
 refine emm rfl ?_
 refine ent_guardXT rfl rfl rfl rfl rfl ?_
 refine emm rfl ?_
 refine ent_guardXT rfl rfl rfl rfl rfl ?_
 refine ent_o rfl (ok_eql rfl rfl) ?_
 refine ent_o rfl (ok_pickT rfl rfl rfl) ?_
 refine emm rfl ?_
 refine ent_guardXT rfl rfl rfl rfl (by decide) ?_
 refine ent_o rfl (ok_loadBS (k := 0) ti27 rfl rfl rfl) ?_
 refine ent_guardXT rfl rfl rfl rfl (by decide) ?_
 refine ent_buildN aInt [3, 1] rfl vt22 (by decide) (⟨0, 1, rfl, .inl ⟨rfl, _, rfl, (one_int _), rfl, ⟨1, 1, rfl, .inl ⟨rfl, _, rfl, (one_int _), rfl, rfl⟩⟩⟩⟩) rfl (fun b134_23 => ?_)
 refine ent_guardXT rfl rfl rfl rfl (by decide) ?_
 refine ent_buildN aInt [4, 2] rfl vt22 (by decide) (⟨0, 1, rfl, .inl ⟨rfl, _, rfl, (one_int _), rfl, ⟨1, 1, rfl, .inl ⟨rfl, _, rfl, (one_int _), rfl, rfl⟩⟩⟩⟩) rfl (fun b135_24 => ?_)
 refine ent_guardXT rfl rfl rfl rfl (by decide) ?_
 refine ent_give 1 134 rfl (cv_vec (k := 1) (off_erase rfl) rfl rfl) ?_
 refine ent_give 0 135 rfl (cv_vec (k := 0) (off_erase rfl) rfl rfl) ?_
 refine ent_buildN aInts [[3, 1], [4, 2]] rfl vt25 (by decide) (⟨0, 1, rfl, .inl ⟨rfl, _, rfl, one_sl, rfl, ⟨1, 1, rfl, .inl ⟨rfl, _, rfl, one_sl, rfl, rfl⟩⟩⟩⟩) rfl (fun b136_25 => ?_)
 refine ent_give 0 136 rfl (cv_vec (k := 0) (off_erase rfl) rfl rfl) ?_
 refine ent_guardXT rfl rfl rfl rfl (by decide) ?_
 refine ent_o rfl (ok_build st27 (As := [aInt 0, aEx (.slice none 0 0)]) z27 (⟨0, 1, rfl, .inl ⟨rfl, _, rfl, (one_int _), rfl, ⟨1, 1, rfl, .inl ⟨rfl, _, rfl, one_sl, rfl, rfl⟩⟩⟩⟩)) ?_
 refine ent_guardXT rfl rfl rfl rfl (by decide) ?_
 refine ent_o rfl (ok_callA awSameV ⟨arg_a rfl (cv_id sub_refl), arg_a rfl (cv_agg ⟨cv_int rfl, cv_sl sub_refl rfl, trivial⟩), trivial⟩) ?_
 refine ent_o rfl (ok_pickT rfl (by decide) rfl) ?_
 refine emm rfl ?_
 refine ent_guardXT rfl rfl rfl rfl rfl ?_
 refine emm rfl ?_
 refine ent_guardXT rfl rfl rfl rfl rfl ?_
 refine ent_buildN aInt [4, 1] rfl vt22 (by decide) (⟨0, 1, rfl, .inl ⟨rfl, _, rfl, (one_int _), rfl, ⟨1, 1, rfl, .inl ⟨rfl, _, rfl, (one_int _), rfl, rfl⟩⟩⟩⟩) rfl (fun b142_26 => ?_)
 refine ent_give 0 142 rfl (cv_vec (k := 0) (off_erase rfl) rfl rfl) ?_
 refine ent_guardXT rfl rfl rfl rfl rfl ?_
 refine ent_o rfl (ok_call awInts41 rfl) ?_
 refine ent_o rfl (ok_pickT rfl rfl rfl) ?_
 refine emm rfl ?_
 refine ent_guardXT rfl rfl rfl rfl rfl ?_
 refine emm rfl ?_
 refine ent_guardXT rfl rfl rfl rfl rfl ?_
 refine ent_buildN aInt [1, 1] rfl vt22 (by decide) (⟨0, 1, rfl, .inl ⟨rfl, _, rfl, (one_int _), rfl, ⟨1, 1, rfl, .inl ⟨rfl, _, rfl, (one_int _), rfl, rfl⟩⟩⟩⟩) rfl (fun b147_27 => ?_)
 refine ent_give 0 147 rfl (cv_vec (k := 0) (off_erase rfl) rfl rfl) ?_
 refine ent_guardXT rfl rfl rfl rfl rfl ?_
 refine ent_o rfl (ok_call awInts11 rfl) ?_
 refine ent_o rfl (ok_pickT rfl rfl rfl) ?_
 refine emm rfl ?_
 refine ent_guardXT rfl rfl rfl rfl rfl ?_
 refine ent_o rfl (ok_loadBS (k := 5) ti24 rfl rfl rfl) ?_
 refine ent_guardXT rfl rfl rfl rfl rfl ?_
 refine ent_o rfl (ok_loadBS (k := 1) ti27 rfl rfl rfl) ?_
 refine ent_guardXT rfl rfl rfl rfl rfl ?_
 refine ent_o rfl (ok_callA awChk ⟨arg_a rfl (cv_agg ⟨cv_int rfl, cv_int rfl, cv_nil (fun _ => rfl) rfl, trivial⟩), arg_a rfl (cv_agg ⟨cv_int rfl, cv_sl sub_refl rfl, trivial⟩), trivial⟩) ?_
 refine ent_guardXT rfl rfl rfl rfl rfl ?_
 refine ent_o rfl (ok_eql rfl rfl) ?_
 refine ent_o rfl (ok_pickT rfl rfl rfl) ?_
 refine emm rfl ?_
 refine ent_guardXT rfl rfl rfl rfl (by decide) ?_
 refine ent_o rfl (ok_loadBS (k := 6) ti24 rfl rfl rfl) ?_
 refine ent_guardXT rfl rfl rfl rfl (by decide) ?_
 refine ent_o rfl (ok_loadBS (k := 1) ti27 rfl rfl rfl) ?_
 refine ent_guardXT rfl rfl rfl rfl (by decide) ?_
 refine ent_o rfl (ok_callA awBad ⟨arg_a rfl (cv_agg ⟨cv_int rfl, cv_int rfl, cv_nil (fun _ => rfl) rfl, trivial⟩), arg_a rfl (cv_agg ⟨cv_int rfl, cv_sl sub_refl rfl, trivial⟩), trivial⟩) ?_
 refine ent_guardXT rfl rfl rfl rfl (by decide) ?_
 refine ent_o rfl (ok_eql rfl rfl) ?_
 refine ent_o rfl (ok_pickT rfl (by decide) rfl) ?_
 refine emm rfl ?_
 refine enk K14 ?_
 refine ent_ret ?_
 exact retR1 (.inr rfl) Try.results15 (resr_tmp (res_cv rfl (cv_bool rfl)))
end Go.Proofs.Ytamhdlkfhhpdpaa

