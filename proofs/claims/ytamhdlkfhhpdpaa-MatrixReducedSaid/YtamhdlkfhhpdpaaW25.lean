/-
  Facts for the law MatrixReduced.
-/
import Derived.Test.YtamhdlkfhhpdpaaProg
import Derived.Test.YtamhdlkfhhpdpaaWTab
import Derived.Test.YtamhdlkfhhpdpaaPlainCa
import Derived.Test.YtamhdlkfhhpdpaaCzLib
import Derived.Test.YtamhdlkfhhpdpaaW1
import Derived.Test.YtamhdlkfhhpdpaaW4
import Derived.Test.YtamhdlkfhhpdpaaW5
import Derived.Test.YtamhdlkfhhpdpaaW6
import Derived.Test.YtamhdlkfhhpdpaaW9
import Derived.Test.YtamhdlkfhhpdpaaW10
import Derived.Test.YtamhdlkfhhpdpaaW11
import Derived.Test.YtamhdlkfhhpdpaaW12
import Derived.Test.YtamhdlkfhhpdpaaW13
import Derived.Test.YtamhdlkfhhpdpaaW14
import Derived.Test.YtamhdlkfhhpdpaaW15
import Derived.Test.YtamhdlkfhhpdpaaW16
import Derived.Test.YtamhdlkfhhpdpaaW17
import Derived.Test.YtamhdlkfhhpdpaaW18
import Derived.Test.YtamhdlkfhhpdpaaW19
import Derived.Test.YtamhdlkfhhpdpaaW20
import Derived.Test.YtamhdlkfhhpdpaaW21
import Derived.Test.YtamhdlkfhhpdpaaW23
open Go Go.Cw
namespace Go.Proofs.Ytamhdlkfhhpdpaa
set_option maxRecDepth 100000
set_option linter.unusedVariables false
set_option linter.unusedSimpArgs false
theorem rPick_ok (v set : List Int) (hs : ∀ p ∈ set, 0 ≤ p ∧ p < v.length) (hl : set.length ≤ 100000) : CtrF Try.prog 25 [aSl 1 false aInt v, aSl 1 false aInt set] (aVec 3 1 false aInt (pickL v set)) := by
 refine ctrF_of Try.call25 Try.func25 rfl rfl ?_
 intro w O
 refine ent_len 0 rfl (fun hlen0 => ?_)
 refine ent_len 1 rfl (fun hlen1 => ?_)
 refine esk rfl ?_
 refine esr rfl fun _ K2 => ?_
 refine ent_o rfl (ok_len rfl Try.runUnderlying22 rfl) ?_
 refine ent_make aInt 0 rfl vt22 rfl rfl (by omega) (by omega) (by omega) (fun _ _ => rfl) (AllV.mem ⟨rfl, trivial⟩) (fun b9_1 => ?_)
 refine emm rfl ?_
 refine enk K2 ?_
 refine ent_seq fun _ K3 => ?_
 refine esk rfl ?_
 refine ent_block ?_
 refine ent_loop (fun (i : Int) => (⟨[(0, aSl 1 false aInt v), (1, aSl 1 false aInt set), (5, aEx (vec (some b9_1) (((↑set.length : Int)).toNat) (((↑set.length : Int)).toNat))), (6, aInt i)], [oVec (some b9_1) (((↑set.length : Int)).toNat) 3 1 false aInt (mixL (pickL v set) (List.replicate set.length 0) i)]⟩ : St)) (fun (i : Int) => (0 ≤ i) ∧ (i ≤ set.length)) (fun (i : Int) => (set.length - i).toNat) 0 ⟨(by omega), (by omega)⟩ (ent_rep ⟨rfl, rfl, rfl, slot_av (av_int (show 0 = (0 : Int) by rfl)), trivial⟩ (own_cons (own_vec (show mixL (pickL v set) (List.replicate set.length 0) (0 : Int) = List.replicate (((↑set.length : Int)).toNat) 0 by exact mixL_zero _ _)) (rfl))) ?_
 rintro i ⟨h0, h1⟩
 show Ent _ ⟨_, [_]⟩ _
 have lm : (mixL (pickL v set) (List.replicate set.length 0) i).length = set.length := by rw [length_mixL _ _ (by simp)]; simp
 refine ent_seq fun _ K5 => ?_
 refine esr rfl fun _ K6 => ?_
 refine ent_o rfl (ok_len rfl Try.runUnderlying22 rfl) ?_
 refine ent_o rfl (ok_lss rfl rfl) ?_
 refine enk K6 ?_
 refine ent_condD rfl (fun h13 => ?_) (fun h13 => ?_)
 ·have hp := hs _ (ix_mem 0 set h0 h13)
  refine esp K5 ?_
  refine ent_seq fun _ K7 => ?_
  refine ent_block ?_
  refine ent_region ?_
  refine emm rfl ?_
  refine ent_o rfl (ok_index 0 sl22 rfl rfl (by omega) (by omega)) ?_
  refine ent_o rfl (ok_load ti3 rfl) ?_
  refine ent_o rfl (ok_index 0 sl22 rfl rfl (by omega) (by omega)) ?_
  refine ent_o rfl (ok_load ti3 rfl) ?_
  refine ent_o rfl (ok_indexV sl22 rfl rfl (by omega) (by omega)) ?_
  refine ent_storeV (k := 0) (z := ix 0 v (ix 0 set i)) ti3 rfl rfl rfl (elem_one (one_int _)) (by omega) (by omega) ?_
  refine enk K7 ?_
  refine ent_region ?_
  refine emm rfl ?_
  refine ent_o rfl (ok_add rfl rfl (by omega) (by omega)) ?_
  refine emm rfl ?_
  refine ent_nil ?_
  refine ent_again (s := (i)) (i + 1) ⟨(by omega), ‹_›⟩ (by omega) (ent_rep ⟨rfl, rfl, rfl, rfl, trivial⟩ (own_cons (own_vec (show mixL (pickL v set) (List.replicate set.length 0) (i + 1) = List.set (mixL (pickL v set) (List.replicate set.length 0) i) (i).toNat (ix 0 v (ix 0 set i)) by exact (mixL_set _ _ h0 (by simp; omega) (by simp) (ix_pickL h0 h13).symm).symm)) (rfl)))
 ·refine ent_exit ?_
  refine ent_k K3 ?_
  refine esk rfl ?_
  refine ent_ret ?_
  exact retR1 (.inr rfl) Try.results25 (resr_tmp (res_cv rfl (cvF_vecV (k := 0) flat_int rfl rfl (by simp_all) (by exact mixL_all _ _ (by simp; omega) (by simp; omega)))))

theorem MatrixReduced_walk (f : Fld) (m : Mat)  : Ctr Try.prog 4 [aFld f, aMat m] (aBool true) := by
 refine ctr_of Try.call4 Try.func4 rfl rfl ?_
 intro w O
 refine ent_lenC 0 2 rfl rfl (fun hlen0_2 => ?_)
 refine ent_lenC 1 1 rfl rfl (fun hlen1_1 => ?_)
 refine esr rfl fun _ K1 => ?_
 refine ent_boxS rfl rfl (AllOne.mem ⟨(one_int _), (one_int _), one_sl, trivial⟩) (fun b2_1 => ?_)
 refine ent_boxS rfl rfl (AllOne.mem ⟨(one_int _), one_sl, trivial⟩) (fun b3_2 => ?_)
 refine emm rfl ?_
 refine enk K1 ?_
 refine ent_seq fun _ K2 => ?_
 refine esr rfl fun _ K3 => ?_
 refine ent_o rfl (ok_call awake_ok rfl) ?_
 refine ent_o rfl (ok_not rfl) ?_
 refine emm rfl ?_
 refine ent_guardXT rfl rfl rfl rfl rfl ?_
 refine ent_o rfl (ok_loadBS (k := 0) ti27 rfl rfl rfl) ?_
 refine ent_guardXT rfl rfl rfl rfl rfl ?_
 refine ent_o rfl (ok_call (rFew_ok m 300 (by omega) (by omega)) rfl) ?_
 refine ent_guardXT rfl rfl rfl rfl rfl ?_
 refine ent_o rfl (ok_notD rfl) ?_
 refine ent_o rfl (ok_pickF rfl rfl rfl) ?_
 refine enk K3 ?_
 refine ent_condD rfl (fun h22 => ?_) (fun h22 => ?_)
 ·refine esr rfl fun _ K4 => ?_
  refine ent_o rfl (ok_call awake_ok rfl) ?_
  refine emm rfl ?_
  refine enk K4 ?_
  refine ent_ret ?_
  exact retR1 (.inr rfl) Try.results4 (resr_tmp (res_cv rfl (cv_bool rfl)))
 ·refine esp K2 ?_
  refine esr rfl fun _ K5 => ?_
  refine ent_o rfl (ok_loadBS (k := 1) ti24 rfl rfl rfl) ?_
  refine ent_o rfl (ok_loadBS (k := 0) ti27 rfl rfl rfl) ?_
  refine ent_o rfl (ok_call (mCanonical_ok f m) rfl) ?_
  refine emm rfl ?_
  refine ent_o rfl (ok_extract rfl rfl) ?_
  refine ent_o rfl (ok_extract rfl rfl) ?_
  refine ent_o rfl (ok_extract rfl rfl) ?_
  refine ent_alloc (z := .agg #[.int .i64 0, .slice none 0 0]) [aInt 0, aEx (.slice none 0 0)] rfl zv27 rfl zc27 (fun b5_3 => ?_)
  refine ent_storeBS (k := 0) Try.sizeOf27 rfl rfl rfl (AllOne.mem ⟨(one_int _), one_sl, trivial⟩) rfl rfl ?_
  show Ent _ ⟨_, [_, _, _]⟩ _
  refine emm rfl ?_
  refine enk K5 ?_
  refine ent_seq fun _ K6 => ?_
  refine esr rfl fun _ K7 => ?_
  refine ent_o rfl (ok_neq rfl rfl) ?_
  refine enk K7 ?_
  refine ent_condD rfl (fun h32 => ?_) (fun h32 => ?_)
  ·refine ent_seq fun _ K8 => ?_
   refine ent_cut (⟨[(4, aBool (decide (((↑((canM f m).rows).length : Int) = 0) ∧ ((↑(canP f m).length : Int) = 0))))], [oBox b5_3 27 [aInt ((canM f m).cols), aSl 1 false aInts ((canM f m).rows)], oBox b3_2 27 [aInt m.cols, aSl 1 false aInts m.rows], oBox b2_1 24 [aInt f.P, aInt f.M, aSl 1 false aInt f.mod]]⟩) ?_ ?_
   ·refine ent_region ?_
    refine ent_o rfl (ok_fieldAddrEx Try.runUnderlying27 rfl Try.sizeOf25 (by decide) rfl) ?_
    refine ent_o rfl (ok_loadB (k := 0) Try.isAgg25 rfl rfl rfl) ?_
    refine ent_o rfl (ok_len rfl Try.runUnderlying25 rfl) ?_
    refine ent_o rfl (ok_eql rfl rfl) ?_
    refine emm rfl ?_
    refine ent_guardXDt rfl rfl rfl rfl (fun hg37 => ?_) (fun hg37 => ?_)
    ·refine emm rfl ?_
     refine ent_guardXT rfl rfl rfl rfl (decide_eq_true hg37) ?_
     refine ent_o rfl (ok_len rfl Try.runUnderlying22 rfl) ?_
     refine ent_guardXT rfl rfl rfl rfl (decide_eq_true hg37) ?_
     refine ent_o rfl (ok_eql rfl rfl) ?_
     refine ent_o rfl (ok_pickT rfl (decide_eq_true hg37) rfl) ?_
     refine emm rfl ?_
     refine ent_nil ?_
     exact ent_rep ⟨slot_bool (dq_Q ((and_iff_right hg37).trans Iff.rfl)), trivial⟩ rfl
    ·refine ent_guardXF rfl rfl rfl rfl (decide_eq_false hg37) ?_
     refine ent_guardXF rfl rfl rfl rfl (decide_eq_false hg37) ?_
     refine ent_o rfl (ok_pickF rfl (decide_eq_false hg37) rfl) ?_
     refine emm rfl ?_
     refine ent_nil ?_
     exact ent_rep ⟨slot_bool (dq_F rfl (fun h => hg37 h.1)), trivial⟩ rfl
   refine ent_k K8 ?_
   refine ent_ret ?_
   exact retR1 (.inr rfl) Try.results4 (resr_tmp (res_cv rfl (cv_bool (by exact decide_eq_true ⟨by rw [canM_no h32]; rfl, by rw [canP_no h32]; rfl⟩))))
  ·have hm0 := Classical.not_not.1 h32
   have hC := can_facts hm0
   have hcc := hC.cols
   have hcl := hC.len
   have hcle := hC.le
   have hcok := hC.ok
   have hF := (mErr_zero.1 hm0).1
   have hme := (mErr_zero.1 hm0).2
   have hsz := mat_size hme
   have hgm := mat_good hme
   have hS := hF.1
   refine esp K6 ?_
   refine ent_seq fun _ K9 => ?_
   refine ent_seq fun _ K10 => ?_
   refine ent_cut (⟨[(2, aEx (.pointer (some ⟨b2_1, 0, none⟩))), (3, aEx (.pointer (some ⟨b3_2, 0, none⟩))), (5, aEx (.pointer (some ⟨b5_3, 0, none⟩))), (6, aSl 1 false aInt (canP f m)), (80, aBool (decide (((((((mErr f m) ≠ 0) ∨ (((canM f m).cols) ≠ m.cols)) ∨ ((↑((canM f m).rows).length : Int) ≠ (↑(canP f m).length : Int))) ∨ ((↑m.rows.length : Int) < (↑(canP f m).length : Int))) ∨ ((mErr f (canM f m)) ≠ 0)) ∨ ((mErr f (canM f m)) ≠ 0))))], [oBox b5_3 27 [aInt ((canM f m).cols), aSl 1 false aInts ((canM f m).rows)], oBox b3_2 27 [aInt m.cols, aSl 1 false aInts m.rows], oBox b2_1 24 [aInt f.P, aInt f.M, aSl 1 false aInt f.mod]]⟩) ?_ ?_
   ·refine ent_region ?_
    refine ent_o rfl (ok_loadBS (k := 2) ti24 rfl rfl rfl) ?_
    refine ent_o rfl (ok_loadBS (k := 1) ti27 rfl rfl rfl) ?_
    refine ent_o rfl (ok_call (rMCheck_ok f m) rfl) ?_
    refine ent_o rfl (ok_neq rfl rfl) ?_
    refine emm rfl ?_
    refine ent_guardXDf rfl rfl rfl rfl (fun hg46 => ?_) (fun hg46 => ?_)
    ·refine ent_o rfl (ok_fieldAddrEx Try.runUnderlying27 rfl Try.sizeOf3 (by decide) rfl) ?_
     refine ent_guardXT rfl rfl rfl rfl (decide_eq_false hg46) ?_
     refine ent_o rfl (ok_loadB (k := 0) Try.isAgg3 rfl rfl rfl) ?_
     refine ent_guardXT rfl rfl rfl rfl (decide_eq_false hg46) ?_
     refine ent_o rfl (ok_fieldAddrEx Try.runUnderlying27 rfl Try.sizeOf3 (by decide) rfl) ?_
     refine ent_guardXT rfl rfl rfl rfl (decide_eq_false hg46) ?_
     refine ent_o rfl (ok_loadB (k := 1) Try.isAgg3 rfl rfl rfl) ?_
     refine ent_guardXT rfl rfl rfl rfl (decide_eq_false hg46) ?_
     refine ent_o rfl (ok_neq rfl rfl) ?_
     refine ent_o rfl (ok_pickF rfl (decide_eq_false hg46) rfl) ?_
     refine emm rfl ?_
     refine ent_guardXDf rfl rfl rfl rfl (fun hg53 => ?_) (fun hg53 => ?_)
     ·refine ent_o rfl (ok_fieldAddrEx Try.runUnderlying27 rfl Try.sizeOf25 (by decide) rfl) ?_
      refine ent_guardXT rfl rfl rfl rfl (decide_eq_false hg53) ?_
      refine ent_o rfl (ok_loadB (k := 0) Try.isAgg25 rfl rfl rfl) ?_
      refine ent_guardXT rfl rfl rfl rfl (decide_eq_false hg53) ?_
      refine ent_o rfl (ok_len rfl Try.runUnderlying25 rfl) ?_
      refine ent_guardXT rfl rfl rfl rfl (decide_eq_false hg53) ?_
      refine emm rfl ?_
      refine ent_guardXT rfl rfl rfl rfl (decide_eq_false hg53) ?_
      refine ent_o rfl (ok_len rfl Try.runUnderlying22 rfl) ?_
      refine ent_guardXT rfl rfl rfl rfl (decide_eq_false hg53) ?_
      refine ent_o rfl (ok_neq rfl rfl) ?_
      refine ent_o rfl (ok_pickF rfl (decide_eq_false hg53) rfl) ?_
      refine emm rfl ?_
      refine ent_guardXDf rfl rfl rfl rfl (fun hg61 => ?_) (fun hg61 => ?_)
      ·refine emm rfl ?_
       refine ent_guardXT rfl rfl rfl rfl (decide_eq_false hg61) ?_
       refine ent_o rfl (ok_len rfl Try.runUnderlying22 rfl) ?_
       refine ent_guardXT rfl rfl rfl rfl (decide_eq_false hg61) ?_
       refine ent_o rfl (ok_fieldAddrEx Try.runUnderlying27 rfl Try.sizeOf25 (by decide) rfl) ?_
       refine ent_guardXT rfl rfl rfl rfl (decide_eq_false hg61) ?_
       refine ent_o rfl (ok_loadB (k := 1) Try.isAgg25 rfl rfl rfl) ?_
       refine ent_guardXT rfl rfl rfl rfl (decide_eq_false hg61) ?_
       refine ent_o rfl (ok_len rfl Try.runUnderlying25 rfl) ?_
       refine ent_guardXT rfl rfl rfl rfl (decide_eq_false hg61) ?_
       refine ent_o rfl (ok_gtr rfl rfl) ?_
       refine ent_o rfl (ok_pickF rfl (decide_eq_false hg61) rfl) ?_
       refine emm rfl ?_
       refine ent_guardXDf rfl rfl rfl rfl (fun hg69 => ?_) (fun hg69 => ?_)
       ·refine ent_o rfl (ok_loadBS (k := 2) ti24 rfl rfl rfl) ?_
        refine ent_guardXT rfl rfl rfl rfl (decide_eq_false hg69) ?_
        refine ent_o rfl (ok_loadBS (k := 0) ti27 rfl rfl rfl) ?_
        refine ent_guardXT rfl rfl rfl rfl (decide_eq_false hg69) ?_
        refine ent_o rfl (ok_call (mCheck_ok f (canM f m)) rfl) ?_
        refine ent_guardXT rfl rfl rfl rfl (decide_eq_false hg69) ?_
        refine ent_o rfl (ok_neq rfl rfl) ?_
        refine ent_o rfl (ok_pickF rfl (decide_eq_false hg69) rfl) ?_
        refine emm rfl ?_
        refine ent_guardXDf rfl rfl rfl rfl (fun hg75 => ?_) (fun hg75 => ?_)
        ·refine ent_o rfl (ok_loadBS (k := 2) ti24 rfl rfl rfl) ?_
         refine ent_guardXT rfl rfl rfl rfl (decide_eq_false hg75) ?_
         refine ent_o rfl (ok_loadBS (k := 0) ti27 rfl rfl rfl) ?_
         refine ent_guardXT rfl rfl rfl rfl (decide_eq_false hg75) ?_
         refine ent_o rfl (ok_call (rMCheck_ok f (canM f m)) rfl) ?_
         refine ent_guardXT rfl rfl rfl rfl (decide_eq_false hg75) ?_
         refine ent_o rfl (ok_neq rfl rfl) ?_
         refine ent_o rfl (ok_pickF rfl (decide_eq_false hg75) rfl) ?_
         refine ent_nil ?_
         exact ent_rep ⟨rfl, rfl, rfl, rfl, slot_bool (dq_F (decide_eq_false hg75) (fun h => h.elim (fun h => h.elim (fun h => h.elim (fun h => h.elim (fun h => h.elim hg46 hg53) hg61) hg69) hg75) hg75)), trivial⟩ rfl
        ·refine ent_guardXF rfl rfl rfl rfl (decide_eq_true hg75) ?_
         refine ent_guardXF rfl rfl rfl rfl (decide_eq_true hg75) ?_
         refine ent_guardXF rfl rfl rfl rfl (decide_eq_true hg75) ?_
         refine ent_o rfl (ok_pickT rfl (decide_eq_true hg75) rfl) ?_
         refine ent_nil ?_
         exact ent_rep ⟨rfl, rfl, rfl, rfl, slot_bool (dq_T rfl (Or.inl (Or.inr hg75))), trivial⟩ rfl
       ·refine ent_guardXF rfl rfl rfl rfl (decide_eq_true hg69) ?_
        refine ent_guardXF rfl rfl rfl rfl (decide_eq_true hg69) ?_
        refine ent_guardXF rfl rfl rfl rfl (decide_eq_true hg69) ?_
        refine ent_o rfl (ok_pickT rfl (decide_eq_true hg69) rfl) ?_
        refine emm rfl ?_
        refine ent_guardXF rfl rfl rfl rfl rfl ?_
        refine ent_guardXF rfl rfl rfl rfl rfl ?_
        refine ent_guardXF rfl rfl rfl rfl rfl ?_
        refine ent_guardXF rfl rfl rfl rfl rfl ?_
        refine ent_o rfl (ok_pickT rfl rfl rfl) ?_
        refine ent_nil ?_
        exact ent_rep ⟨rfl, rfl, rfl, rfl, slot_bool (dq_T rfl (Or.inl (Or.inl (Or.inr hg69)))), trivial⟩ rfl
      ·refine ent_guardXF rfl rfl rfl rfl (decide_eq_true hg61) ?_
       refine ent_guardXF rfl rfl rfl rfl (decide_eq_true hg61) ?_
       refine ent_guardXF rfl rfl rfl rfl (decide_eq_true hg61) ?_
       refine ent_guardXF rfl rfl rfl rfl (decide_eq_true hg61) ?_
       refine ent_guardXF rfl rfl rfl rfl (decide_eq_true hg61) ?_
       refine ent_o rfl (ok_pickT rfl (decide_eq_true hg61) rfl) ?_
       refine emm rfl ?_
       refine ent_guardXF rfl rfl rfl rfl rfl ?_
       refine ent_guardXF rfl rfl rfl rfl rfl ?_
       refine ent_guardXF rfl rfl rfl rfl rfl ?_
       refine ent_guardXF rfl rfl rfl rfl rfl ?_
       refine ent_o rfl (ok_pickT rfl rfl rfl) ?_
       refine emm rfl ?_
       refine ent_guardXF rfl rfl rfl rfl rfl ?_
       refine ent_guardXF rfl rfl rfl rfl rfl ?_
       refine ent_guardXF rfl rfl rfl rfl rfl ?_
       refine ent_guardXF rfl rfl rfl rfl rfl ?_
       refine ent_o rfl (ok_pickT rfl rfl rfl) ?_
       refine ent_nil ?_
       exact ent_rep ⟨rfl, rfl, rfl, rfl, slot_bool (dq_T rfl (Or.inl (Or.inl (Or.inl (Or.inr hg61))))), trivial⟩ rfl
     ·refine ent_guardXF rfl rfl rfl rfl (decide_eq_true hg53) ?_
      refine ent_guardXF rfl rfl rfl rfl (decide_eq_true hg53) ?_
      refine ent_guardXF rfl rfl rfl rfl (decide_eq_true hg53) ?_
      refine ent_guardXF rfl rfl rfl rfl (decide_eq_true hg53) ?_
      refine ent_guardXF rfl rfl rfl rfl (decide_eq_true hg53) ?_
      refine ent_o rfl (ok_pickT rfl (decide_eq_true hg53) rfl) ?_
      refine emm rfl ?_
      refine ent_guardXF rfl rfl rfl rfl rfl ?_
      refine ent_guardXF rfl rfl rfl rfl rfl ?_
      refine ent_guardXF rfl rfl rfl rfl rfl ?_
      refine ent_guardXF rfl rfl rfl rfl rfl ?_
      refine ent_guardXF rfl rfl rfl rfl rfl ?_
      refine ent_guardXF rfl rfl rfl rfl rfl ?_
      refine ent_o rfl (ok_pickT rfl rfl rfl) ?_
      refine emm rfl ?_
      refine ent_guardXF rfl rfl rfl rfl rfl ?_
      refine ent_guardXF rfl rfl rfl rfl rfl ?_
      refine ent_guardXF rfl rfl rfl rfl rfl ?_
      refine ent_guardXF rfl rfl rfl rfl rfl ?_
      refine ent_o rfl (ok_pickT rfl rfl rfl) ?_
      refine emm rfl ?_
      refine ent_guardXF rfl rfl rfl rfl rfl ?_
      refine ent_guardXF rfl rfl rfl rfl rfl ?_
      refine ent_guardXF rfl rfl rfl rfl rfl ?_
      refine ent_guardXF rfl rfl rfl rfl rfl ?_
      refine ent_o rfl (ok_pickT rfl rfl rfl) ?_
      refine ent_nil ?_
      exact ent_rep ⟨rfl, rfl, rfl, rfl, slot_bool (dq_T rfl (Or.inl (Or.inl (Or.inl (Or.inl (Or.inr hg53)))))), trivial⟩ rfl
    ·refine ent_guardXF rfl rfl rfl rfl (decide_eq_true hg46) ?_
     refine ent_guardXF rfl rfl rfl rfl (decide_eq_true hg46) ?_
     refine ent_guardXF rfl rfl rfl rfl (decide_eq_true hg46) ?_
     refine ent_guardXF rfl rfl rfl rfl (decide_eq_true hg46) ?_
     refine ent_o rfl (ok_pickT rfl (decide_eq_true hg46) rfl) ?_
     refine emm rfl ?_
     refine ent_guardXF rfl rfl rfl rfl rfl ?_
     refine ent_guardXF rfl rfl rfl rfl rfl ?_
     refine ent_guardXF rfl rfl rfl rfl rfl ?_
     refine ent_guardXF rfl rfl rfl rfl rfl ?_
     refine ent_guardXF rfl rfl rfl rfl rfl ?_
     refine ent_guardXF rfl rfl rfl rfl rfl ?_
     refine ent_o rfl (ok_pickT rfl rfl rfl) ?_
     refine emm rfl ?_
     refine ent_guardXF rfl rfl rfl rfl rfl ?_
     refine ent_guardXF rfl rfl rfl rfl rfl ?_
     refine ent_guardXF rfl rfl rfl rfl rfl ?_
     refine ent_guardXF rfl rfl rfl rfl rfl ?_
     refine ent_guardXF rfl rfl rfl rfl rfl ?_
     refine ent_guardXF rfl rfl rfl rfl rfl ?_
     refine ent_o rfl (ok_pickT rfl rfl rfl) ?_
     refine emm rfl ?_
     refine ent_guardXF rfl rfl rfl rfl rfl ?_
     refine ent_guardXF rfl rfl rfl rfl rfl ?_
     refine ent_guardXF rfl rfl rfl rfl rfl ?_
     refine ent_guardXF rfl rfl rfl rfl rfl ?_
     refine ent_o rfl (ok_pickT rfl rfl rfl) ?_
     refine emm rfl ?_
     refine ent_guardXF rfl rfl rfl rfl rfl ?_
     refine ent_guardXF rfl rfl rfl rfl rfl ?_
     refine ent_guardXF rfl rfl rfl rfl rfl ?_
     refine ent_guardXF rfl rfl rfl rfl rfl ?_
     refine ent_o rfl (ok_pickT rfl rfl rfl) ?_
     refine ent_nil ?_
     exact ent_rep ⟨rfl, rfl, rfl, rfl, slot_bool (dq_T rfl (Or.inl (Or.inl (Or.inl (Or.inl (Or.inl hg46)))))), trivial⟩ rfl
   refine ent_k K10 ?_
   refine ent_condD rfl (fun h80 => ?_) (fun h80 => ?_)
   ·omega
   ·refine esp K9 ?_
    refine ent_seq fun _ K11 => ?_
    refine esr rfl fun _ K12 => ?_
    refine ent_o rfl (ok_len rfl Try.runUnderlying22 rfl) ?_
    refine emm rfl ?_
    refine enk K12 ?_
    refine ent_block ?_
    refine ent_loop (fun (i : Int) => (⟨[(2, aEx (.pointer (some ⟨b2_1, 0, none⟩))), (3, aEx (.pointer (some ⟨b3_2, 0, none⟩))), (5, aEx (.pointer (some ⟨b5_3, 0, none⟩))), (6, aSl 1 false aInt (canP f m)), (81, aSl 1 false aInt (canP f m)), (82, aInt (↑(canP f m).length : Int)), (83, aInt i)], [oBox b5_3 27 [aInt ((canM f m).cols), aSl 1 false aInts ((canM f m).rows)], oBox b3_2 27 [aInt m.cols, aSl 1 false aInts m.rows], oBox b2_1 24 [aInt f.P, aInt f.M, aSl 1 false aInt f.mod]]⟩ : St)) (fun (i : Int) => (0 ≤ i) ∧ (i ≤ (canP f m).length)) (fun (i : Int) => ((canP f m).length - i).toNat) 0 ⟨(by omega), (by omega)⟩ (ent_rep ⟨rfl, rfl, rfl, rfl, rfl, rfl, slot_av (av_int (show 0 = (0 : Int) by rfl)), trivial⟩ rfl) ?_
    rintro i ⟨h0, h1⟩
    show Ent _ ⟨_, [_, _, _]⟩ _
    refine esr rfl fun _ K13 => ?_
    refine ent_o rfl (ok_lss rfl rfl) ?_
    refine enk K13 ?_
    refine ent_seq fun _ K14 => ?_
    refine ent_condD rfl (fun h84 => ?_) (fun h84 => ?_)
    ·have hri := hC.rng i h0 h84
     have hwi := hC.wid i h0 (by omega)
     refine esp K14 ?_
     refine ent_seq fun _ K15 => ?_
     refine ent_block ?_
     refine esr rfl fun _ K16 => ?_
     refine ent_o rfl (ok_index 0 sl22 rfl rfl (by omega) (by omega)) ?_
     refine ent_o rfl (ok_load ti3 rfl) ?_
     refine emm rfl ?_
     refine enk K16 ?_
     refine ent_seq fun _ K17 => ?_
     refine ent_seq fun _ K18 => ?_
     refine ent_cut (⟨[(2, aEx (.pointer (some ⟨b2_1, 0, none⟩))), (3, aEx (.pointer (some ⟨b3_2, 0, none⟩))), (5, aEx (.pointer (some ⟨b5_3, 0, none⟩))), (6, aSl 1 false aInt (canP f m)), (8, aInt i), (9, aInt (ix 0 (canP f m) i)), (81, aSl 1 false aInt (canP f m)), (82, aInt (↑(canP f m).length : Int)), (83, aInt i), (108, aBool (decide ((((ix 0 (canP f m) i) < 0) ∨ (((canM f m).cols) ≤ (ix 0 (canP f m) i))) ∨ ((0 < i) ∧ ((ix 0 (canP f m) i) ≤ (ix 0 (canP f m) (i - 1)))))))], [oBox b5_3 27 [aInt ((canM f m).cols), aSl 1 false aInts ((canM f m).rows)], oBox b3_2 27 [aInt m.cols, aSl 1 false aInts m.rows], oBox b2_1 24 [aInt f.P, aInt f.M, aSl 1 false aInt f.mod]]⟩) ?_ ?_
     ·refine ent_region ?_
      refine emm rfl ?_
      refine ent_o rfl (ok_lss rfl rfl) ?_
      refine emm rfl ?_
      refine ent_guardXDf rfl rfl rfl rfl (fun hg90 => ?_) (fun hg90 => ?_)
      ·refine emm rfl ?_
       refine ent_guardXT rfl rfl rfl rfl (decide_eq_false hg90) ?_
       refine ent_o rfl (ok_fieldAddrEx Try.runUnderlying27 rfl Try.sizeOf3 (by decide) rfl) ?_
       refine ent_guardXT rfl rfl rfl rfl (decide_eq_false hg90) ?_
       refine ent_o rfl (ok_loadB (k := 0) Try.isAgg3 rfl rfl rfl) ?_
       refine ent_guardXT rfl rfl rfl rfl (decide_eq_false hg90) ?_
       refine ent_o rfl (ok_geq rfl rfl) ?_
       refine ent_o rfl (ok_pickF rfl (decide_eq_false hg90) rfl) ?_
       refine emm rfl ?_
       refine ent_guardXDf rfl rfl rfl rfl (fun hg96 => ?_) (fun hg96 => ?_)
       ·refine emm rfl ?_
        refine ent_guardXT rfl rfl rfl rfl (decide_eq_false hg96) ?_
        refine ent_o rfl (ok_gtr rfl rfl) ?_
        refine ent_guardXT rfl rfl rfl rfl (decide_eq_false hg96) ?_
        refine emm rfl ?_
        refine ent_guardXDt rfl rfl rfl rfl (fun hg99 => ?_) (fun hg99 => ?_)
        ·refine emm rfl ?_
         refine ent_guardXT rfl rfl rfl rfl (decide_eq_true hg99) ?_
         refine emm rfl ?_
         refine ent_guardXT rfl rfl rfl rfl (decide_eq_true hg99) ?_
         refine ent_o rfl (ok_sub rfl rfl (by omega) (by omega)) ?_
         refine ent_guardXT rfl rfl rfl rfl (decide_eq_true hg99) ?_
         refine ent_o rfl (ok_index 0 sl22 rfl rfl (by omega) (by omega)) ?_
         refine ent_guardXT rfl rfl rfl rfl (decide_eq_true hg99) ?_
         refine ent_o rfl (ok_load ti3 rfl) ?_
         refine ent_guardXT rfl rfl rfl rfl (decide_eq_true hg99) ?_
         refine emm rfl ?_
         refine ent_guardXT rfl rfl rfl rfl (decide_eq_true hg99) ?_
         refine ent_o rfl (ok_geq rfl rfl) ?_
         refine ent_guardXT rfl rfl rfl rfl (decide_eq_false hg96) ?_
         refine ent_o rfl (ok_pickT rfl (decide_eq_true hg99) rfl) ?_
         refine ent_o rfl (ok_pickF rfl (decide_eq_false hg96) rfl) ?_
         refine ent_nil ?_
         exact ent_rep ⟨rfl, rfl, rfl, rfl, rfl, rfl, rfl, rfl, rfl, slot_bool (dq_Q ((or_iff_right (fun h => h.elim hg90 hg96)).trans ((and_iff_right hg99).trans Iff.rfl))), trivial⟩ rfl
        ·refine ent_guardXF rfl rfl rfl rfl (decide_eq_false hg99) ?_
         refine ent_guardXF rfl rfl rfl rfl (decide_eq_false hg99) ?_
         refine ent_guardXF rfl rfl rfl rfl (decide_eq_false hg99) ?_
         refine ent_guardXF rfl rfl rfl rfl (decide_eq_false hg99) ?_
         refine ent_guardXF rfl rfl rfl rfl (decide_eq_false hg99) ?_
         refine ent_guardXF rfl rfl rfl rfl (decide_eq_false hg99) ?_
         refine ent_guardXT rfl rfl rfl rfl (decide_eq_false hg96) ?_
         refine ent_o rfl (ok_pickF rfl (decide_eq_false hg99) rfl) ?_
         refine ent_o rfl (ok_pickF rfl (decide_eq_false hg96) rfl) ?_
         refine ent_nil ?_
         exact ent_rep ⟨rfl, rfl, rfl, rfl, rfl, rfl, rfl, rfl, rfl, slot_bool (dq_F rfl (fun h => h.elim (fun h => h.elim hg90 hg96) (fun h => hg99 h.1))), trivial⟩ rfl
       ·refine ent_guardXF rfl rfl rfl rfl (decide_eq_true hg96) ?_
        refine ent_guardXF rfl rfl rfl rfl (decide_eq_true hg96) ?_
        refine ent_guardU rfl rfl rfl rfl ?_
        refine ent_guardU rfl rfl rfl rfl ?_
        refine ent_guardU rfl rfl rfl rfl ?_
        refine ent_guardU rfl rfl rfl rfl ?_
        refine ent_guardU rfl rfl rfl rfl ?_
        refine ent_guardU rfl rfl rfl rfl ?_
        refine ent_guardU rfl rfl rfl rfl ?_
        refine ent_guardXF rfl rfl rfl rfl (decide_eq_true hg96) ?_
        refine ent_o rfl (ok_pickT rfl (decide_eq_true hg96) rfl) ?_
        refine ent_nil ?_
        exact ent_rep ⟨rfl, rfl, rfl, rfl, rfl, rfl, rfl, rfl, rfl, slot_bool (dq_T rfl (Or.inl (Or.inr hg96))), trivial⟩ rfl
      ·refine ent_guardXF rfl rfl rfl rfl (decide_eq_true hg90) ?_
       refine ent_guardXF rfl rfl rfl rfl (decide_eq_true hg90) ?_
       refine ent_guardXF rfl rfl rfl rfl (decide_eq_true hg90) ?_
       refine ent_o rfl (ok_pickT rfl (decide_eq_true hg90) rfl) ?_
       refine emm rfl ?_
       refine ent_guardXF rfl rfl rfl rfl rfl ?_
       refine ent_guardXF rfl rfl rfl rfl rfl ?_
       refine ent_guardXF rfl rfl rfl rfl rfl ?_
       refine ent_guardU rfl rfl rfl rfl ?_
       refine ent_guardU rfl rfl rfl rfl ?_
       refine ent_guardU rfl rfl rfl rfl ?_
       refine ent_guardU rfl rfl rfl rfl ?_
       refine ent_guardU rfl rfl rfl rfl ?_
       refine ent_guardU rfl rfl rfl rfl ?_
       refine ent_guardU rfl rfl rfl rfl ?_
       refine ent_guardXF rfl rfl rfl rfl rfl ?_
       refine ent_o rfl (ok_pickT rfl rfl rfl) ?_
       refine ent_nil ?_
       exact ent_rep ⟨rfl, rfl, rfl, rfl, rfl, rfl, rfl, rfl, rfl, slot_bool (dq_T rfl (Or.inl (Or.inl hg90))), trivial⟩ rfl
     refine ent_k K18 ?_
     refine ent_condD rfl (fun h108 => ?_) (fun h108 => ?_)
     ·by_cases hi : 0 < i; (have := hC.inc (i - 1) i (by omega) (by omega) h84; omega); omega
     ·refine esp K17 ?_
      refine ent_seq fun _ K19 => ?_
      refine esr rfl fun _ K20 => ?_
      refine ent_o rfl (ok_fieldAddrEx Try.runUnderlying27 rfl Try.sizeOf25 (by decide) rfl) ?_
      refine ent_o rfl (ok_loadB (k := 0) Try.isAgg25 rfl rfl rfl) ?_
      refine ent_o rfl (ok_len rfl Try.runUnderlying25 rfl) ?_
      refine emm rfl ?_
      refine enk K20 ?_
      refine ent_block ?_
      refine ent_loop (fun (j : Int) => (⟨[(2, aEx (.pointer (some ⟨b2_1, 0, none⟩))), (3, aEx (.pointer (some ⟨b3_2, 0, none⟩))), (5, aEx (.pointer (some ⟨b5_3, 0, none⟩))), (6, aSl 1 false aInt (canP f m)), (8, aInt i), (9, aInt (ix 0 (canP f m) i)), (81, aSl 1 false aInt (canP f m)), (82, aInt (↑(canP f m).length : Int)), (83, aInt i), (110, aSl 1 false aInts ((canM f m).rows)), (111, aInt (↑((canM f m).rows).length : Int)), (112, aInt j)], [oBox b5_3 27 [aInt ((canM f m).cols), aSl 1 false aInts ((canM f m).rows)], oBox b3_2 27 [aInt m.cols, aSl 1 false aInts m.rows], oBox b2_1 24 [aInt f.P, aInt f.M, aSl 1 false aInt f.mod]]⟩ : St)) (fun (j : Int) => (0 ≤ j) ∧ (j ≤ (canM f m).rows.length)) (fun (j : Int) => ((canM f m).rows.length - j).toNat) 0 ⟨(by omega), (by omega)⟩ (ent_rep ⟨rfl, rfl, rfl, rfl, rfl, rfl, rfl, rfl, rfl, rfl, rfl, slot_av (av_int (show 0 = (0 : Int) by rfl)), trivial⟩ rfl) ?_
      rintro j ⟨j0, j1⟩
      show Ent _ ⟨_, [_, _, _]⟩ _
      refine esr rfl fun _ K21 => ?_
      refine ent_o rfl (ok_lss rfl rfl) ?_
      refine enk K21 ?_
      refine ent_seq fun _ K22 => ?_
      refine ent_condD rfl (fun h113 => ?_) (fun h113 => ?_)
      ·have hwj := hC.wid j j0 h113
       refine esp K22 ?_
       refine ent_seq fun _ K23 => ?_
       refine ent_block ?_
       refine esr rfl fun _ K24 => ?_
       refine ent_o rfl (ok_index [] sl25 rfl rfl (by omega) (by omega)) ?_
       refine ent_o rfl (ok_load ti22 rfl) ?_
       refine emm rfl ?_
       refine enk K24 ?_
       refine ent_seq fun _ K25 => ?_
       refine ent_cut (⟨[(2, aEx (.pointer (some ⟨b2_1, 0, none⟩))), (3, aEx (.pointer (some ⟨b3_2, 0, none⟩))), (5, aEx (.pointer (some ⟨b5_3, 0, none⟩))), (6, aSl 1 false aInt (canP f m)), (8, aInt i), (9, aInt (ix 0 (canP f m) i)), (81, aSl 1 false aInt (canP f m)), (82, aInt (↑(canP f m).length : Int)), (83, aInt i), (110, aSl 1 false aInts ((canM f m).rows)), (111, aInt (↑((canM f m).rows).length : Int)), (112, aInt j), (138, aBool (decide (((j = i) ∧ ((ix 0 (ix [] ((canM f m).rows) j) (ix 0 (canP f m) i)) ≠ 1)) ∨ ((j ≠ i) ∧ ((ix 0 (ix [] ((canM f m).rows) j) (ix 0 (canP f m) i)) ≠ 0)))))], [oBox b5_3 27 [aInt ((canM f m).cols), aSl 1 false aInts ((canM f m).rows)], oBox b3_2 27 [aInt m.cols, aSl 1 false aInts m.rows], oBox b2_1 24 [aInt f.P, aInt f.M, aSl 1 false aInt f.mod]]⟩) ?_ ?_
       ·refine ent_region ?_
        refine emm rfl ?_
        refine ent_o rfl (ok_eql rfl rfl) ?_
        refine emm rfl ?_
        refine ent_guardXDt rfl rfl rfl rfl (fun hg120 => ?_) (fun hg120 => ?_)
        ·refine emm rfl ?_
         refine ent_guardXT rfl rfl rfl rfl (decide_eq_true hg120) ?_
         refine emm rfl ?_
         refine ent_guardXT rfl rfl rfl rfl (decide_eq_true hg120) ?_
         refine ent_o rfl (ok_index 0 sl22 rfl rfl (by omega) (by omega)) ?_
         refine ent_guardXT rfl rfl rfl rfl (decide_eq_true hg120) ?_
         refine ent_o rfl (ok_load ti3 rfl) ?_
         refine ent_guardXT rfl rfl rfl rfl (decide_eq_true hg120) ?_
         refine ent_o rfl (ok_neq rfl rfl) ?_
         refine ent_o rfl (ok_pickT rfl (decide_eq_true hg120) rfl) ?_
         refine emm rfl ?_
         refine ent_guardXDf rfl rfl rfl rfl (fun hg127 => ?_) (fun hg127 => ?_)
         ·refine emm rfl ?_
          refine ent_guardXT rfl rfl rfl rfl (decide_eq_false hg127) ?_
          refine emm rfl ?_
          refine ent_guardXT rfl rfl rfl rfl (decide_eq_false hg127) ?_
          refine ent_o rfl (ok_neq rfl rfl) ?_
          refine ent_guardXT rfl rfl rfl rfl (decide_eq_false hg127) ?_
          refine emm rfl ?_
          refine ent_guardXDt rfl rfl rfl rfl (fun hg131 => ?_) (fun hg131 => ?_)
          ·refine emm rfl ?_
           refine ent_guardXT rfl rfl rfl rfl (decide_eq_true hg131) ?_
           refine emm rfl ?_
           refine ent_guardXT rfl rfl rfl rfl (decide_eq_true hg131) ?_
           refine ent_o rfl (ok_index 0 sl22 rfl rfl (by omega) (by omega)) ?_
           refine ent_guardXT rfl rfl rfl rfl (decide_eq_true hg131) ?_
           refine ent_o rfl (ok_load ti3 rfl) ?_
           refine ent_guardXT rfl rfl rfl rfl (decide_eq_true hg131) ?_
           refine ent_o rfl (ok_neq rfl rfl) ?_
           refine ent_guardXT rfl rfl rfl rfl (decide_eq_false hg127) ?_
           refine ent_o rfl (ok_pickT rfl (decide_eq_true hg131) rfl) ?_
           refine ent_o rfl (ok_pickF rfl (decide_eq_false hg127) rfl) ?_
           refine ent_nil ?_
           exact ent_rep ⟨rfl, rfl, rfl, rfl, rfl, rfl, rfl, rfl, rfl, rfl, rfl, rfl, slot_bool (dq_Q ((or_iff_right (fun h => hg127 h.2)).trans ((and_iff_right hg131).trans Iff.rfl))), trivial⟩ rfl
          ·refine ent_guardXF rfl rfl rfl rfl (decide_eq_false hg131) ?_
           refine ent_guardXF rfl rfl rfl rfl (decide_eq_false hg131) ?_
           refine ent_guardXF rfl rfl rfl rfl (decide_eq_false hg131) ?_
           refine ent_guardXF rfl rfl rfl rfl (decide_eq_false hg131) ?_
           refine ent_guardXT rfl rfl rfl rfl (decide_eq_false hg127) ?_
           refine ent_o rfl (ok_pickF rfl (decide_eq_false hg131) rfl) ?_
           refine ent_o rfl (ok_pickF rfl (decide_eq_false hg127) rfl) ?_
           refine ent_nil ?_
           exact ent_rep ⟨rfl, rfl, rfl, rfl, rfl, rfl, rfl, rfl, rfl, rfl, rfl, rfl, slot_bool (dq_F rfl (fun h => h.elim (fun h => hg127 h.2) (fun h => hg131 h.1))), trivial⟩ rfl
         ·refine ent_guardXF rfl rfl rfl rfl (decide_eq_true hg127) ?_
          refine ent_guardXF rfl rfl rfl rfl (decide_eq_true hg127) ?_
          refine ent_guardXF rfl rfl rfl rfl (decide_eq_true hg127) ?_
          refine ent_guardU rfl rfl rfl rfl ?_
          refine ent_guardU rfl rfl rfl rfl ?_
          refine ent_guardU rfl rfl rfl rfl ?_
          refine ent_guardU rfl rfl rfl rfl ?_
          refine ent_guardU rfl rfl rfl rfl ?_
          refine ent_guardXF rfl rfl rfl rfl (decide_eq_true hg127) ?_
          refine ent_o rfl (ok_pickT rfl (decide_eq_true hg127) rfl) ?_
          refine ent_nil ?_
          exact ent_rep ⟨rfl, rfl, rfl, rfl, rfl, rfl, rfl, rfl, rfl, rfl, rfl, rfl, slot_bool (dq_T rfl (Or.inl ⟨hg120, hg127⟩)), trivial⟩ rfl
        ·refine ent_guardXF rfl rfl rfl rfl (decide_eq_false hg120) ?_
         refine ent_guardXF rfl rfl rfl rfl (decide_eq_false hg120) ?_
         refine ent_guardXF rfl rfl rfl rfl (decide_eq_false hg120) ?_
         refine ent_guardXF rfl rfl rfl rfl (decide_eq_false hg120) ?_
         refine ent_o rfl (ok_pickF rfl (decide_eq_false hg120) rfl) ?_
         refine emm rfl ?_
         refine ent_guardXT rfl rfl rfl rfl rfl ?_
         refine emm rfl ?_
         refine ent_guardXT rfl rfl rfl rfl rfl ?_
         refine emm rfl ?_
         refine ent_guardXT rfl rfl rfl rfl rfl ?_
         refine ent_o rfl (ok_neq rfl rfl) ?_
         refine ent_guardXT rfl rfl rfl rfl rfl ?_
         refine emm rfl ?_
         refine ent_guardXDt rfl rfl rfl rfl (fun hg131 => ?_) (fun hg131 => ?_)
         ·refine emm rfl ?_
          refine ent_guardXT rfl rfl rfl rfl (decide_eq_true hg131) ?_
          refine emm rfl ?_
          refine ent_guardXT rfl rfl rfl rfl (decide_eq_true hg131) ?_
          refine ent_o rfl (ok_index 0 sl22 rfl rfl (by omega) (by omega)) ?_
          refine ent_guardXT rfl rfl rfl rfl (decide_eq_true hg131) ?_
          refine ent_o rfl (ok_load ti3 rfl) ?_
          refine ent_guardXT rfl rfl rfl rfl (decide_eq_true hg131) ?_
          refine ent_o rfl (ok_neq rfl rfl) ?_
          refine ent_guardXT rfl rfl rfl rfl rfl ?_
          refine ent_o rfl (ok_pickT rfl (decide_eq_true hg131) rfl) ?_
          refine ent_o rfl (ok_pickF rfl rfl rfl) ?_
          refine ent_nil ?_
          exact ent_rep ⟨rfl, rfl, rfl, rfl, rfl, rfl, rfl, rfl, rfl, rfl, rfl, rfl, slot_bool (dq_Q ((or_iff_right (fun h => hg120 h.1)).trans ((and_iff_right hg131).trans Iff.rfl))), trivial⟩ rfl
         ·refine ent_guardXF rfl rfl rfl rfl (decide_eq_false hg131) ?_
          refine ent_guardXF rfl rfl rfl rfl (decide_eq_false hg131) ?_
          refine ent_guardXF rfl rfl rfl rfl (decide_eq_false hg131) ?_
          refine ent_guardXF rfl rfl rfl rfl (decide_eq_false hg131) ?_
          refine ent_guardXT rfl rfl rfl rfl rfl ?_
          refine ent_o rfl (ok_pickF rfl (decide_eq_false hg131) rfl) ?_
          refine ent_o rfl (ok_pickF rfl rfl rfl) ?_
          refine ent_nil ?_
          exact ent_rep ⟨rfl, rfl, rfl, rfl, rfl, rfl, rfl, rfl, rfl, rfl, rfl, rfl, slot_bool (dq_F rfl (fun h => h.elim (fun h => hg120 h.1) (fun h => hg131 h.1))), trivial⟩ rfl
       refine ent_k K25 ?_
       refine ent_condD rfl (fun h138 => ?_) (fun h138 => ?_)
       ·have he := hC.ent i j h0 h84 j0 (by omega)
        by_cases e : j = i; (rw [if_pos e] at he; omega); (rw [if_neg e] at he; omega)
       ·refine esp K23 ?_
        refine ent_region ?_
        refine ent_o rfl (ok_add rfl rfl (by omega) (by omega)) ?_
        refine emm rfl ?_
        refine ent_nil ?_
        refine ent_again (s := (j)) (j + 1) ⟨(by omega), ‹_›⟩ (by omega) (ent_rep ⟨rfl, rfl, rfl, rfl, rfl, rfl, rfl, rfl, rfl, rfl, rfl, rfl, trivial⟩ rfl)
      ·refine ent_exit ?_
       refine ent_k K19 ?_
       refine esr rfl fun _ K26 => ?_
       refine ent_o rfl (ok_fieldAddrEx Try.runUnderlying27 rfl Try.sizeOf25 (by decide) rfl) ?_
       refine ent_o rfl (ok_loadB (k := 0) Try.isAgg25 rfl rfl rfl) ?_
       refine emm rfl ?_
       refine ent_o rfl (ok_index [] sl25 rfl rfl (by omega) (by omega)) ?_
       refine ent_o rfl (ok_load ti22 rfl) ?_
       refine emm rfl ?_
       refine ent_o rfl (ok_sliceTo sl22 rfl rfl (by omega) (by omega)) ?_
       refine ent_o rfl (ok_len rfl Try.runUnderlying22 rfl) ?_
       refine emm rfl ?_
       refine enk K26 ?_
       refine ent_block ?_
       refine ent_loop (fun (k : Int) => (⟨[(2, aEx (.pointer (some ⟨b2_1, 0, none⟩))), (3, aEx (.pointer (some ⟨b3_2, 0, none⟩))), (5, aEx (.pointer (some ⟨b5_3, 0, none⟩))), (6, aSl 1 false aInt (canP f m)), (81, aSl 1 false aInt (canP f m)), (82, aInt (↑(canP f m).length : Int)), (83, aInt i), (146, aSl 1 false aInt (List.take (ix 0 (canP f m) i).toNat (ix [] ((canM f m).rows) i))), (147, aInt (↑(List.take (ix 0 (canP f m) i).toNat (ix [] ((canM f m).rows) i)).length : Int)), (148, aInt k)], [oBox b5_3 27 [aInt ((canM f m).cols), aSl 1 false aInts ((canM f m).rows)], oBox b3_2 27 [aInt m.cols, aSl 1 false aInts m.rows], oBox b2_1 24 [aInt f.P, aInt f.M, aSl 1 false aInt f.mod]]⟩ : St)) (fun (k : Int) => (0 ≤ k) ∧ (k ≤ (List.take (ix 0 (canP f m) i).toNat (ix [] (canM f m).rows i)).length)) (fun (k : Int) => ((List.take (ix 0 (canP f m) i).toNat (ix [] (canM f m).rows i)).length - k).toNat) 0 ⟨(by omega), (by omega)⟩ (ent_rep ⟨rfl, rfl, rfl, rfl, rfl, rfl, rfl, rfl, rfl, slot_av (av_int (show 0 = (0 : Int) by rfl)), trivial⟩ rfl) ?_
       rintro k ⟨k0, k1⟩
       show Ent _ ⟨_, [_, _, _]⟩ _
       refine esr rfl fun _ K27 => ?_
       refine ent_o rfl (ok_lss rfl rfl) ?_
       refine enk K27 ?_
       refine ent_seq fun _ K28 => ?_
       refine ent_condD rfl (fun h149 => ?_) (fun h149 => ?_)
       ·have hlt : (List.take (ix 0 (canP f m) i).toNat (ix [] (canM f m).rows i)).length = (ix 0 (canP f m) i).toNat := by rw [List.length_take]; omega
        refine esp K28 ?_
        refine ent_seq fun _ K29 => ?_
        refine ent_block ?_
        refine esr rfl fun _ K30 => ?_
        refine ent_o rfl (ok_index 0 sl22 rfl rfl (by omega) (by omega)) ?_
        refine ent_o rfl (ok_load ti3 rfl) ?_
        refine emm rfl ?_
        refine enk K30 ?_
        refine esr rfl fun _ K31 => ?_
        refine ent_o rfl (ok_neq rfl rfl) ?_
        refine enk K31 ?_
        refine ent_condD rfl (fun h153 => ?_) (fun h153 => ?_)
        ·exact absurd (by rw [ix_take _ k0 (by omega)]; exact hC.lead i k h0 h84 k0 (by omega)) h153
        ·refine esp K29 ?_
         refine ent_region ?_
         refine ent_o rfl (ok_add rfl rfl (by omega) (by omega)) ?_
         refine emm rfl ?_
         refine ent_nil ?_
         refine ent_again (s := (k)) (k + 1) ⟨(by omega), ‹_›⟩ (by omega) (ent_rep ⟨rfl, rfl, rfl, rfl, rfl, rfl, rfl, rfl, rfl, rfl, trivial⟩ rfl)
       ·refine ent_exit ?_
        refine ent_k K15 ?_
        refine ent_region ?_
        refine ent_o rfl (ok_add rfl rfl (by omega) (by omega)) ?_
        refine emm rfl ?_
        refine ent_nil ?_
        refine ent_again (s := (i)) (i + 1) ⟨(by omega), ‹_›⟩ (by omega) (ent_rep ⟨rfl, rfl, rfl, rfl, rfl, rfl, rfl, trivial⟩ rfl)
    ·refine ent_exit ?_
     refine ent_k K11 ?_
     refine ent_seq fun _ K32 => ?_
     refine esr rfl fun _ K33 => ?_
     refine ent_o rfl (ok_fieldAddrEx Try.runUnderlying27 rfl Try.sizeOf25 (by decide) rfl) ?_
     refine ent_o rfl (ok_loadB (k := 1) Try.isAgg25 rfl rfl rfl) ?_
     refine ent_o rfl (ok_len rfl Try.runUnderlying25 rfl) ?_
     refine emm rfl ?_
     refine enk K33 ?_
     refine ent_block ?_
     refine ent_loop (fun (q : Int) => (⟨[(2, aEx (.pointer (some ⟨b2_1, 0, none⟩))), (5, aEx (.pointer (some ⟨b5_3, 0, none⟩))), (6, aSl 1 false aInt (canP f m)), (157, aSl 1 false aInts m.rows), (158, aInt (↑m.rows.length : Int)), (159, aInt q)], [oBox b5_3 27 [aInt ((canM f m).cols), aSl 1 false aInts ((canM f m).rows)], oBox b3_2 27 [aInt m.cols, aSl 1 false aInts m.rows], oBox b2_1 24 [aInt f.P, aInt f.M, aSl 1 false aInt f.mod]]⟩ : St)) (fun (q : Int) => (0 ≤ q) ∧ (q ≤ m.rows.length)) (fun (q : Int) => (m.rows.length - q).toNat) 0 ⟨(by omega), (by omega)⟩ (ent_rep ⟨rfl, rfl, rfl, rfl, rfl, slot_av (av_int (show 0 = (0 : Int) by rfl)), trivial⟩ rfl) ?_
     rintro q ⟨q0, q1⟩
     show Ent _ ⟨_, [_, _, _]⟩ _
     refine esr rfl fun _ K34 => ?_
     refine ent_o rfl (ok_lss rfl rfl) ?_
     refine enk K34 ?_
     refine ent_seq fun _ K35 => ?_
     refine ent_condD rfl (fun h160 => ?_) (fun h160 => ?_)
     ·have hrq := row_len hme q0 h160
      have hrg : ∀ p ∈ canP f m, 0 ≤ p ∧ p < (ix [] m.rows q).length := fun p hp => by
       obtain ⟨z, z0, z1, rfl⟩ := mem_ix 0 hp
       have := hC.rng z z0 z1
       omega
      refine esp K35 ?_
      refine ent_seq fun _ K36 => ?_
      refine ent_block ?_
      refine esr rfl fun _ K37 => ?_
      refine ent_o rfl (ok_index [] sl25 rfl rfl (by omega) (by omega)) ?_
      refine ent_o rfl (ok_load ti22 rfl) ?_
      refine emm rfl ?_
      refine enk K37 ?_
      refine ent_seq fun _ K38 => ?_
      refine ent_draw 12 mixed (by kernel_rfl) (by kernel_rfl) (by kernel_rfl) ?_
      refine dw_o rfl (ok_loadBS (k := 2) ti24 rfl rfl rfl) ?_
      refine dw_o rfl (ok_move rfl) ?_
      refine dw_o rfl (ok_move rfl) ?_
      refine dw_o rfl (ok_call (CtrF.ctr (CtrF.sl (rPick_ok (ix [] m.rows q) (canP f m) (fun p hp => hrg p hp) (by omega)))) rfl) ?_
      refine dw_o rfl (ok_fieldAddrEx Try.runUnderlying27 rfl Try.sizeOf25 (by decide) rfl) ?_
      refine dw_o rfl (ok_loadB (k := 0) Try.isAgg25 rfl rfl rfl) ?_
      refine dw_o rfl (ok_fieldAddrEx Try.runUnderlying27 rfl Try.sizeOf3 (by decide) rfl) ?_
      refine dw_o rfl (ok_loadB (k := 0) Try.isAgg3 rfl rfl rfl) ?_
      refine dw_o rfl (ok_call (rCombine_ok f (pickL (ix [] m.rows q) (canP f m)) ((canM f m).rows) ((canM f m).cols) ‹_› (by omega) (by omega) (fun i i0 i1 => by rw [hC.wid i i0 i1, hC.cols])) rfl) ?_
      refine dw_o rfl (ok_move rfl) ?_
      refine dw_o rfl (ok_call (SameInts_ok (comb f (pickL (ix [] m.rows q) (canP f m)) ((canM f m).rows) ((canM f m).cols)) (ix [] m.rows q)) rfl) ?_
      refine dw_o rfl (ok_notD rfl) ?_
      refine dw_nil ?_
      refine enk K38 ?_
      refine ent_condD rfl (fun h174 => ?_) (fun h174 => ?_)
      ·exact absurd (hC.row _ (ix_mem [] _ q0 h160)) h174
      ·refine esp K36 ?_
       refine ent_region ?_
       refine ent_o rfl (ok_add rfl rfl (by omega) (by omega)) ?_
       refine emm rfl ?_
       refine ent_nil ?_
       refine ent_again (s := (q)) (q + 1) ⟨(by omega), ‹_›⟩ (by omega) (ent_rep ⟨rfl, rfl, rfl, rfl, rfl, rfl, trivial⟩ rfl)
     ·refine ent_exit ?_
      refine ent_k K32 ?_
      refine esk rfl ?_
      refine ent_ret ?_
      exact retR1 (.inr rfl) Try.results4 (resr_tmp (res_cv rfl (cv_bool rfl)))
end Go.Proofs.Ytamhdlkfhhpdpaa
