/-
  Facts for the law MatrixSolvable.
-/
import Derived.Test.YtamhdlkfhhpdpaaProg
import Derived.Test.YtamhdlkfhhpdpaaWTab
import Derived.Test.YtamhdlkfhhpdpaaPlainSl
import Derived.Test.YtamhdlkfhhpdpaaCzLib
import Derived.Test.YtamhdlkfhhpdpaaW1
import Derived.Test.YtamhdlkfhhpdpaaW4
import Derived.Test.YtamhdlkfhhpdpaaW5
import Derived.Test.YtamhdlkfhhpdpaaW6
import Derived.Test.YtamhdlkfhhpdpaaW9
import Derived.Test.YtamhdlkfhhpdpaaW10
import Derived.Test.YtamhdlkfhhpdpaaW11
import Derived.Test.YtamhdlkfhhpdpaaW12
import Derived.Test.YtamhdlkfhhpdpaaW13
import Derived.Test.YtamhdlkfhhpdpaaW14
import Derived.Test.YtamhdlkfhhpdpaaW15
import Derived.Test.YtamhdlkfhhpdpaaW16
import Derived.Test.YtamhdlkfhhpdpaaW17
import Derived.Test.YtamhdlkfhhpdpaaW18
import Derived.Test.YtamhdlkfhhpdpaaW19
import Derived.Test.YtamhdlkfhhpdpaaW20
import Derived.Test.YtamhdlkfhhpdpaaW21
import Derived.Test.YtamhdlkfhhpdpaaW23
open Go Go.Cw
namespace Go.Proofs.Ytamhdlkfhhpdpaa
set_option maxRecDepth 100000
set_option linter.unusedVariables false
set_option linter.unusedSimpArgs false
theorem MatrixSolvable_walk (f : Fld) (m : Mat) (x : List Int)  : Ctr Try.prog 8 [aFld f, aMat m, aSl 1 false aInt x] (aBool true) := by
 refine ctr_of Try.call8 Try.func8 rfl rfl ?_
 intro w O
 refine ent_lenC 0 2 rfl rfl (fun hlen0_2 => ?_)
 refine ent_lenC 1 1 rfl rfl (fun hlen1_1 => ?_)
 refine ent_len 2 rfl (fun hlen2 => ?_)
 refine esr rfl fun _ K1 => ?_
 refine ent_boxS rfl rfl (AllOne.mem ⟨(one_int _), (one_int _), one_sl, trivial⟩) (fun b3_1 => ?_)
 refine ent_boxS rfl rfl (AllOne.mem ⟨(one_int _), one_sl, trivial⟩) (fun b4_2 => ?_)
 refine emm rfl ?_
 refine enk K1 ?_
 refine ent_seq fun _ K2 => ?_
 refine ent_seq fun _ K3 => ?_
 refine ent_cut (⟨[(2, aSl 1 false aInt x), (3, aEx (.pointer (some ⟨b3_1, 0, none⟩))), (4, aEx (.pointer (some ⟨b4_2, 0, none⟩))), (33, aBool (decide ((¬ (few m 200 = true)) ∨ (300 < (↑x.length : Int)))))], [oBox b4_2 27 [aInt m.cols, aSl 1 false aInts m.rows], oBox b3_1 24 [aInt f.P, aInt f.M, aSl 1 false aInt f.mod]]⟩) ?_ ?_
 ·refine ent_region ?_
  refine ent_o rfl (ok_call awake_ok rfl) ?_
  refine ent_o rfl (ok_not rfl) ?_
  refine emm rfl ?_
  refine ent_guardXT rfl rfl rfl rfl rfl ?_
  refine ent_o rfl (ok_loadBS (k := 0) ti27 rfl rfl rfl) ?_
  refine ent_guardXT rfl rfl rfl rfl rfl ?_
  refine ent_o rfl (ok_call (rFew_ok m 200 (by omega) (by omega)) rfl) ?_
  refine ent_guardXT rfl rfl rfl rfl rfl ?_
  refine ent_o rfl (ok_notD rfl) ?_
  refine ent_o rfl (ok_pickF rfl rfl rfl) ?_
  refine emm rfl ?_
  refine ent_guardXDf rfl rfl rfl rfl (fun hg29 => ?_) (fun hg29 => ?_)
  ·refine emm rfl ?_
   refine ent_guardXT rfl rfl rfl rfl (decide_eq_false hg29) ?_
   refine ent_o rfl (ok_len rfl Try.runUnderlying22 rfl) ?_
   refine ent_guardXT rfl rfl rfl rfl (decide_eq_false hg29) ?_
   refine ent_o rfl (ok_gtr rfl rfl) ?_
   refine ent_o rfl (ok_pickF rfl (decide_eq_false hg29) rfl) ?_
   refine ent_nil ?_
   exact ent_rep ⟨rfl, rfl, rfl, slot_bool (dq_Q ((or_iff_right hg29).trans Iff.rfl)), trivial⟩ rfl
  ·refine ent_guardXF rfl rfl rfl rfl (decide_eq_true hg29) ?_
   refine ent_guardXF rfl rfl rfl rfl (decide_eq_true hg29) ?_
   refine ent_o rfl (ok_pickT rfl (decide_eq_true hg29) rfl) ?_
   refine ent_nil ?_
   exact ent_rep ⟨rfl, rfl, rfl, slot_bool (dq_T rfl (Or.inl hg29)), trivial⟩ rfl
 refine ent_k K3 ?_
 refine ent_condD rfl (fun h33 => ?_) (fun h33 => ?_)
 ·refine esr rfl fun _ K4 => ?_
  refine ent_o rfl (ok_call awake_ok rfl) ?_
  refine emm rfl ?_
  refine enk K4 ?_
  refine ent_ret ?_
  exact retR1 (.inr rfl) Try.results8 (resr_tmp (res_cv rfl (cv_bool rfl)))
 ·refine esp K2 ?_
  refine ent_seq fun _ K5 => ?_
  refine ent_seq fun _ K6 => ?_
  refine ent_cut (⟨[(2, aSl 1 false aInt x), (3, aEx (.pointer (some ⟨b3_1, 0, none⟩))), (4, aEx (.pointer (some ⟨b4_2, 0, none⟩))), (46, aBool (decide (((mErr f m) ≠ 0) ∨ ((vecErr f x m.cols) ≠ 0))))], [oBox b4_2 27 [aInt m.cols, aSl 1 false aInts m.rows], oBox b3_1 24 [aInt f.P, aInt f.M, aSl 1 false aInt f.mod]]⟩) ?_ ?_
  ·refine ent_region ?_
   refine ent_o rfl (ok_loadBS (k := 1) ti24 rfl rfl rfl) ?_
   refine ent_o rfl (ok_loadBS (k := 0) ti27 rfl rfl rfl) ?_
   refine ent_o rfl (ok_call (rMCheck_ok f m) rfl) ?_
   refine ent_o rfl (ok_neq rfl rfl) ?_
   refine emm rfl ?_
   refine ent_guardXDf rfl rfl rfl rfl (fun hg39 => ?_) (fun hg39 => ?_)
   ·refine ent_o rfl (ok_loadBS (k := 1) ti24 rfl rfl rfl) ?_
    refine ent_guardXT rfl rfl rfl rfl (decide_eq_false hg39) ?_
    refine emm rfl ?_
    refine ent_guardXT rfl rfl rfl rfl (decide_eq_false hg39) ?_
    refine ent_o rfl (ok_fieldAddrEx Try.runUnderlying27 rfl Try.sizeOf3 (by decide) rfl) ?_
    refine ent_guardXT rfl rfl rfl rfl (decide_eq_false hg39) ?_
    refine ent_o rfl (ok_loadB (k := 0) Try.isAgg3 rfl rfl rfl) ?_
    refine ent_guardXT rfl rfl rfl rfl (decide_eq_false hg39) ?_
    refine ent_o rfl (ok_call (rVector_ok f x m.cols) rfl) ?_
    refine ent_guardXT rfl rfl rfl rfl (decide_eq_false hg39) ?_
    refine ent_o rfl (ok_neq rfl rfl) ?_
    refine ent_o rfl (ok_pickF rfl (decide_eq_false hg39) rfl) ?_
    refine ent_nil ?_
    exact ent_rep ⟨rfl, rfl, rfl, slot_bool (dq_Q ((or_iff_right hg39).trans Iff.rfl)), trivial⟩ rfl
   ·refine ent_guardXF rfl rfl rfl rfl (decide_eq_true hg39) ?_
    refine ent_guardXF rfl rfl rfl rfl (decide_eq_true hg39) ?_
    refine ent_guardXF rfl rfl rfl rfl (decide_eq_true hg39) ?_
    refine ent_guardXF rfl rfl rfl rfl (decide_eq_true hg39) ?_
    refine ent_guardXF rfl rfl rfl rfl (decide_eq_true hg39) ?_
    refine ent_o rfl (ok_pickT rfl (decide_eq_true hg39) rfl) ?_
    refine ent_nil ?_
    exact ent_rep ⟨rfl, rfl, rfl, slot_bool (dq_T rfl (Or.inl hg39)), trivial⟩ rfl
  refine ent_k K6 ?_
  refine ent_condD rfl (fun h46 => ?_) (fun h46 => ?_)
  ·refine esk rfl ?_
   refine ent_ret ?_
   exact retR1 (.inr rfl) Try.results8 (resr_tmp (res_cv rfl (cv_bool rfl)))
  ·have hm0 : mErr f m = 0 := by omega
   have hxv : vecErr f x m.cols = 0 := by omega
   have hC := sol_facts hm0 hxv
   have hse := hC.err
   have hsl := hC.len
   have hld := length_dots f m.rows x
   have hcl := (can_facts hm0).le
   have hF := (mErr_zero.1 hm0).1
   have hme := (mErr_zero.1 hm0).2
   have hsz := mat_size hme
   have hgm := mat_good hme
   have hS := hF.1
   refine esp K5 ?_
   refine esk rfl ?_
   refine ent_seq fun _ K9 => ?_
   refine esr rfl fun _ K10 => ?_
   refine ent_o rfl (ok_fieldAddrEx Try.runUnderlying27 rfl Try.sizeOf25 (by decide) rfl) ?_
   refine ent_o rfl (ok_loadB (k := 0) Try.isAgg25 rfl rfl rfl) ?_
   refine ent_o rfl (ok_len rfl Try.runUnderlying25 rfl) ?_
   refine emm rfl ?_
   refine enk K10 ?_
   refine ent_block ?_
   refine ent_open 3 1 false aInt (fun _ => rfl) ?_
   refine ent_loop (fun (ss : Int × Option Nat × Nat) => match ss with | (i, rr4, cc4) => (⟨[(2, aSl 1 false aInt x), (3, aEx (.pointer (some ⟨b3_1, 0, none⟩))), (4, aEx (.pointer (some ⟨b4_2, 0, none⟩))), (7, aEx (vec rr4 (((dots f m.rows x).take i.toNat).length) cc4)), (48, aSl 1 false aInts m.rows), (49, aInt (↑m.rows.length : Int)), (50, aInt i)], [oVec rr4 cc4 3 1 false aInt ((dots f m.rows x).take i.toNat), oBox b4_2 27 [aInt m.cols, aSl 1 false aInts m.rows], oBox b3_1 24 [aInt f.P, aInt f.M, aSl 1 false aInt f.mod]]⟩ : St)) (fun (ss : Int × Option Nat × Nat) => match ss with | (i, rr4, cc4) => (0 ≤ i) ∧ (i ≤ m.rows.length)) (fun (ss : Int × Option Nat × Nat) => match ss with | (i, rr4, cc4) => (m.rows.length - i).toNat) (0, none, 0) ⟨(by omega), (by omega)⟩ (ent_rep ⟨rfl, rfl, rfl, slot_av ((show aEx (vec none ([] : List _).length 0) = aEx (vec none (((dots f m.rows x).take (0 : Int).toNat).length) 0) from av_vec (congrArg List.length (show (dots f m.rows x).take (0 : Int).toNat = [] by rfl).symm))), rfl, rfl, slot_av (av_int (show 0 = (0 : Int) by rfl)), trivial⟩ (own_cons (own_vec (show (dots f m.rows x).take (0 : Int).toNat = [] by rfl)) (rfl))) ?_
   rintro ⟨i, rr4, cc4⟩ ⟨h0, h1⟩
   show Ent _ ⟨_, [_, _, _]⟩ _
   refine esr rfl fun _ K11 => ?_
   refine ent_o rfl (ok_lss rfl rfl) ?_
   refine enk K11 ?_
   refine ent_seq fun _ K12 => ?_
   refine ent_condD rfl (fun h51 => ?_) (fun h51 => ?_)
   ·refine esp K12 ?_
    refine ent_seq fun _ K13 => ?_
    refine ent_block ?_
    refine esr rfl fun _ K14 => ?_
    refine ent_o rfl (ok_index [] sl25 rfl rfl (by omega) (by omega)) ?_
    refine ent_o rfl (ok_load ti22 rfl) ?_
    refine emm rfl ?_
    refine enk K14 ?_
    refine ent_region ?_
    refine emm rfl ?_
    refine ent_o rfl (ok_loadBS (k := 2) ti24 rfl rfl rfl) ?_
    refine emm rfl ?_
    refine ent_o rfl (ok_call (rDot_ok f (ix [] m.rows i) x ‹_›) rfl) ?_
    refine ent_appendL (k := 0) (enc := aInt) (y := dotF f (ix [] m.rows i) x) rfl rfl vt22 rfl rfl rfl rfl ((elem_one (one_int _))) (by simp; omega) (by simp; omega) (by decide) (fun b60_5 c60_5 => ?_)
    refine emm rfl ?_
    refine enk K13 ?_
    refine ent_region ?_
    refine ent_o rfl (ok_add rfl rfl (by omega) (by omega)) ?_
    refine emm rfl ?_
    refine ent_nil ?_
    refine ent_again (s := (i, rr4, cc4)) (i + 1, (some b60_5), c60_5) ⟨(by omega), ‹_›⟩ (by dsimp only; omega) (ent_rep ⟨rfl, rfl, rfl, slot_av (av_vec (congrArg List.length (show (dots f m.rows x).take (i + 1).toNat = ((dots f m.rows x).take i.toNat) ++ [dotF f (ix [] m.rows i) x] by rw [take_succ_ix 0 (dots f m.rows x) h0 (by simpa using h51), ix_dots h0 h51]).symm)), rfl, rfl, rfl, trivial⟩ (own_cons (own_vec (show (dots f m.rows x).take (i + 1).toNat = ((dots f m.rows x).take i.toNat) ++ [dotF f (ix [] m.rows i) x] by rw [take_succ_ix 0 (dots f m.rows x) h0 (by simpa using h51), ix_dots h0 h51])) (rfl)))
   ·have htk : (dots f m.rows x).take i.toNat = dots f m.rows x := List.take_of_length_le (by omega)
    refine ent_exit ?_
    refine ent_k K9 ?_
    refine ent_seq fun _ K15 => ?_
    rw [htk]
    refine ent_give 0 7 rfl (cv_vec (k := 0) (off_erase rfl) rfl rfl) ?_
    refine ent_region ?_
    refine ent_o rfl (ok_loadBS (k := 1) ti24 rfl rfl rfl) ?_
    refine ent_o rfl (ok_loadBS (k := 0) ti27 rfl rfl rfl) ?_
    refine emm rfl ?_
    refine ent_o rfl (ok_call (mSolve_ok f m (dots f m.rows x)) rfl) ?_
    refine emm rfl ?_
    refine ent_o rfl (ok_extract rfl rfl) ?_
    refine ent_o rfl (ok_extract rfl rfl) ?_
    refine emm rfl ?_
    refine enk K15 ?_
    refine esr rfl fun _ K16 => ?_
    refine ent_o rfl (ok_loadBS (k := 1) ti24 rfl rfl rfl) ?_
    refine ent_o rfl (ok_loadBS (k := 0) ti27 rfl rfl rfl) ?_
    refine ent_o rfl (ok_call (mCanonical_ok f m) rfl) ?_
    refine emm rfl ?_
    refine ent_o rfl (ok_extract rfl rfl) ?_
    refine ent_o rfl (ok_extract rfl rfl) ?_
    refine ent_o rfl (ok_extract rfl rfl) ?_
    refine ent_alloc (z := .agg #[.int .i64 0, .slice none 0 0]) [aInt 0, aEx (.slice none 0 0)] rfl zv27 rfl zc27 (fun b12_6 => ?_)
    refine ent_storeBS (k := 0) Try.sizeOf27 rfl rfl rfl (AllOne.mem ⟨(one_int _), one_sl, trivial⟩) rfl rfl ?_
    show Ent _ ⟨_, [_, _, _]⟩ _
    refine emm rfl ?_
    refine enk K16 ?_
    refine ent_seq fun _ K17 => ?_
    refine ent_seq fun _ K18 => ?_
    refine ent_cut (⟨[(3, aEx (.pointer (some ⟨b3_1, 0, none⟩))), (4, aEx (.pointer (some ⟨b4_2, 0, none⟩))), (7, aSl 1 false aInt (dots f m.rows x)), (10, aSl 1 false aInt (solV f m (dots f m.rows x))), (13, aSl 1 false aInt (canP f m)), (88, aBool (decide ((((solE f m (dots f m.rows x)) ≠ 0) ∨ ((mErr f m) ≠ 0)) ∨ ((↑(solV f m (dots f m.rows x)).length : Int) ≠ m.cols))))], [oBox b12_6 27 [aInt ((canM f m).cols), aSl 1 false aInts ((canM f m).rows)], oBox b4_2 27 [aInt m.cols, aSl 1 false aInts m.rows], oBox b3_1 24 [aInt f.P, aInt f.M, aSl 1 false aInt f.mod]]⟩) ?_ ?_
    ·refine ent_region ?_
     refine emm rfl ?_
     refine ent_o rfl (ok_neq rfl rfl) ?_
     refine emm rfl ?_
     refine ent_guardXDf rfl rfl rfl rfl (fun hg78 => ?_) (fun hg78 => ?_)
     ·refine emm rfl ?_
      refine ent_guardXT rfl rfl rfl rfl (decide_eq_false hg78) ?_
      refine ent_o rfl (ok_neq rfl rfl) ?_
      refine ent_o rfl (ok_pickF rfl (decide_eq_false hg78) rfl) ?_
      refine emm rfl ?_
      refine ent_guardXDf rfl rfl rfl rfl (fun hg82 => ?_) (fun hg82 => ?_)
      ·refine emm rfl ?_
       refine ent_guardXT rfl rfl rfl rfl (decide_eq_false hg82) ?_
       refine ent_o rfl (ok_len rfl Try.runUnderlying22 rfl) ?_
       refine ent_guardXT rfl rfl rfl rfl (decide_eq_false hg82) ?_
       refine ent_o rfl (ok_fieldAddrEx Try.runUnderlying27 rfl Try.sizeOf3 (by decide) rfl) ?_
       refine ent_guardXT rfl rfl rfl rfl (decide_eq_false hg82) ?_
       refine ent_o rfl (ok_loadB (k := 1) Try.isAgg3 rfl rfl rfl) ?_
       refine ent_guardXT rfl rfl rfl rfl (decide_eq_false hg82) ?_
       refine ent_o rfl (ok_neq rfl rfl) ?_
       refine ent_o rfl (ok_pickF rfl (decide_eq_false hg82) rfl) ?_
       refine ent_nil ?_
       exact ent_rep ⟨rfl, rfl, rfl, rfl, rfl, slot_bool (dq_Q ((or_iff_right (fun h => h.elim hg78 hg82)).trans Iff.rfl)), trivial⟩ rfl
      ·refine ent_guardXF rfl rfl rfl rfl (decide_eq_true hg82) ?_
       refine ent_guardXF rfl rfl rfl rfl (decide_eq_true hg82) ?_
       refine ent_guardXF rfl rfl rfl rfl (decide_eq_true hg82) ?_
       refine ent_guardXF rfl rfl rfl rfl (decide_eq_true hg82) ?_
       refine ent_o rfl (ok_pickT rfl (decide_eq_true hg82) rfl) ?_
       refine ent_nil ?_
       exact ent_rep ⟨rfl, rfl, rfl, rfl, rfl, slot_bool (dq_T rfl (Or.inl (Or.inr hg82))), trivial⟩ rfl
     ·refine ent_guardXF rfl rfl rfl rfl (decide_eq_true hg78) ?_
      refine ent_o rfl (ok_pickT rfl (decide_eq_true hg78) rfl) ?_
      refine emm rfl ?_
      refine ent_guardXF rfl rfl rfl rfl rfl ?_
      refine ent_guardXF rfl rfl rfl rfl rfl ?_
      refine ent_guardXF rfl rfl rfl rfl rfl ?_
      refine ent_guardXF rfl rfl rfl rfl rfl ?_
      refine ent_guardXF rfl rfl rfl rfl rfl ?_
      refine ent_o rfl (ok_pickT rfl rfl rfl) ?_
      refine ent_nil ?_
      exact ent_rep ⟨rfl, rfl, rfl, rfl, rfl, slot_bool (dq_T rfl (Or.inl (Or.inl hg78))), trivial⟩ rfl
    refine ent_k K18 ?_
    refine ent_condD rfl (fun h88 => ?_) (fun h88 => ?_)
    ·omega
    ·refine esp K17 ?_
     refine ent_seq fun _ K19 => ?_
     refine esr rfl fun _ K20 => ?_
     refine ent_o rfl (ok_fieldAddrEx Try.runUnderlying27 rfl Try.sizeOf25 (by decide) rfl) ?_
     refine ent_o rfl (ok_loadB (k := 1) Try.isAgg25 rfl rfl rfl) ?_
     refine ent_o rfl (ok_len rfl Try.runUnderlying25 rfl) ?_
     refine emm rfl ?_
     refine enk K20 ?_
     refine ent_block ?_
     refine ent_loop (fun (q : Int) => (⟨[(3, aEx (.pointer (some ⟨b3_1, 0, none⟩))), (7, aSl 1 false aInt (dots f m.rows x)), (10, aSl 1 false aInt (solV f m (dots f m.rows x))), (13, aSl 1 false aInt (canP f m)), (90, aSl 1 false aInts m.rows), (91, aInt (↑m.rows.length : Int)), (92, aInt q)], [oBox b12_6 27 [aInt ((canM f m).cols), aSl 1 false aInts ((canM f m).rows)], oBox b4_2 27 [aInt m.cols, aSl 1 false aInts m.rows], oBox b3_1 24 [aInt f.P, aInt f.M, aSl 1 false aInt f.mod]]⟩ : St)) (fun (q : Int) => (0 ≤ q) ∧ (q ≤ m.rows.length)) (fun (q : Int) => (m.rows.length - q).toNat) 0 ⟨(by omega), (by omega)⟩ (ent_rep ⟨rfl, rfl, rfl, rfl, rfl, rfl, slot_av (av_int (show 0 = (0 : Int) by rfl)), trivial⟩ rfl) ?_
     rintro q ⟨q0, q1⟩
     show Ent _ ⟨_, [_, _, _]⟩ _
     refine esr rfl fun _ K21 => ?_
     refine ent_o rfl (ok_lss rfl rfl) ?_
     refine enk K21 ?_
     refine ent_seq fun _ K22 => ?_
     refine ent_condD rfl (fun h93 => ?_) (fun h93 => ?_)
     ·refine esp K22 ?_
      refine ent_seq fun _ K23 => ?_
      refine ent_block ?_
      refine esr rfl fun _ K24 => ?_
      refine ent_o rfl (ok_index [] sl25 rfl rfl (by omega) (by omega)) ?_
      refine ent_o rfl (ok_load ti22 rfl) ?_
      refine emm rfl ?_
      refine enk K24 ?_
      refine ent_seq fun _ K25 => ?_
      refine ent_draw 9 mixed (by kernel_rfl) (by kernel_rfl) (by kernel_rfl) ?_
      refine dw_o rfl (ok_loadBS (k := 2) ti24 rfl rfl rfl) ?_
      refine dw_o rfl (ok_move rfl) ?_
      refine dw_o rfl (ok_move rfl) ?_
      refine dw_o rfl (ok_call (rDot_ok f (ix [] m.rows q) (solV f m (dots f m.rows x)) ‹_›) rfl) ?_
      refine dw_o rfl (ok_move rfl) ?_
      refine dw_o rfl (ok_move rfl) ?_
      refine dw_o rfl (ok_index 0 sl22 rfl rfl (by omega) (by omega)) ?_
      refine dw_o rfl (ok_load ti3 rfl) ?_
      refine dw_o rfl (ok_neq rfl rfl) ?_
      refine dw_nil ?_
      refine enk K25 ?_
      refine ent_condD rfl (fun h105 => ?_) (fun h105 => ?_)
      ·exact absurd (hC.dot q q0 h93) h105
      ·refine esp K23 ?_
       refine ent_region ?_
       refine ent_o rfl (ok_add rfl rfl (by omega) (by omega)) ?_
       refine emm rfl ?_
       refine ent_nil ?_
       refine ent_again (s := (q)) (q + 1) ⟨(by omega), ‹_›⟩ (by omega) (ent_rep ⟨rfl, rfl, rfl, rfl, rfl, rfl, rfl, trivial⟩ rfl)
     ·refine ent_exit ?_
      refine ent_k K19 ?_
      refine ent_seq fun _ K26 => ?_
      refine esr rfl fun _ K27 => ?_
      refine ent_o rfl (ok_len rfl Try.runUnderlying22 rfl) ?_
      refine emm rfl ?_
      refine enk K27 ?_
      refine ent_block ?_
      refine ent_loop (fun (i : Int) => (⟨[(13, aSl 1 false aInt (canP f m)), (107, aSl 1 false aInt (solV f m (dots f m.rows x))), (108, aInt (↑(solV f m (dots f m.rows x)).length : Int)), (109, aInt i)], [oBox b12_6 27 [aInt ((canM f m).cols), aSl 1 false aInts ((canM f m).rows)], oBox b4_2 27 [aInt m.cols, aSl 1 false aInts m.rows], oBox b3_1 24 [aInt f.P, aInt f.M, aSl 1 false aInt f.mod]]⟩ : St)) (fun (i : Int) => (0 ≤ i) ∧ (i ≤ (solV f m (dots f m.rows x)).length)) (fun (i : Int) => ((solV f m (dots f m.rows x)).length - i).toNat) 0 ⟨(by omega), (by omega)⟩ (ent_rep ⟨rfl, rfl, rfl, slot_av (av_int (show 0 = (0 : Int) by rfl)), trivial⟩ rfl) ?_
      rintro i ⟨i0, i1⟩
      show Ent _ ⟨_, [_, _, _]⟩ _
      refine esr rfl fun _ K28 => ?_
      refine ent_o rfl (ok_lss rfl rfl) ?_
      refine enk K28 ?_
      refine ent_seq fun _ K29 => ?_
      refine ent_condD rfl (fun h110 => ?_) (fun h110 => ?_)
      ·refine esp K29 ?_
       refine ent_seq fun _ K30 => ?_
       refine ent_block ?_
       refine esr rfl fun _ K31 => ?_
       refine ent_o rfl (ok_index 0 sl22 rfl rfl (by omega) (by omega)) ?_
       refine ent_o rfl (ok_load ti3 rfl) ?_
       refine emm rfl ?_
       refine enk K31 ?_
       refine esr rfl fun _ K32 => ?_
       refine ent_o rfl (ok_eql rfl rfl) ?_
       refine emm rfl ?_
       refine enk K32 ?_
       refine ent_seq fun _ K33 => ?_
       refine esr rfl fun _ K34 => ?_
       refine ent_o rfl (ok_len rfl Try.runUnderlying22 rfl) ?_
       refine emm rfl ?_
       refine enk K34 ?_
       refine ent_block ?_
       refine ent_loop (fun (k : Int) => (⟨[(13, aSl 1 false aInt (canP f m)), (17, aInt i), (19, aBool (decide (ix 0 (solV f m (dots f m.rows x)) i = 0 ∨ i ∈ (canP f m).take (k).toNat))), (107, aSl 1 false aInt (solV f m (dots f m.rows x))), (108, aInt (↑(solV f m (dots f m.rows x)).length : Int)), (109, aInt i), (116, aSl 1 false aInt (canP f m)), (117, aInt (↑(canP f m).length : Int)), (118, aInt k)], [oBox b12_6 27 [aInt ((canM f m).cols), aSl 1 false aInts ((canM f m).rows)], oBox b4_2 27 [aInt m.cols, aSl 1 false aInts m.rows], oBox b3_1 24 [aInt f.P, aInt f.M, aSl 1 false aInt f.mod]]⟩ : St)) (fun (k : Int) => (0 ≤ k) ∧ (k ≤ (canP f m).length)) (fun (k : Int) => ((canP f m).length - k).toNat) 0 ⟨(by omega), (by omega)⟩ (ent_rep ⟨rfl, rfl, slot_av (av_bool (show (decide ((ix 0 (solV f m (dots f m.rows x)) i) = 0) : Bool) = decide (ix 0 (solV f m (dots f m.rows x)) i = 0 ∨ i ∈ (canP f m).take ((0 : Int)).toNat) by exact decide_eq_decide.2 (by simp))), rfl, rfl, rfl, rfl, rfl, slot_av (av_int (show 0 = (0 : Int) by rfl)), trivial⟩ rfl) ?_
       rintro k ⟨k0, k1⟩
       show Ent _ ⟨_, [_, _, _]⟩ _
       refine esr rfl fun _ K35 => ?_
       refine ent_o rfl (ok_lss rfl rfl) ?_
       refine enk K35 ?_
       refine ent_seq fun _ K36 => ?_
       refine ent_condD rfl (fun h119 => ?_) (fun h119 => ?_)
       ·refine esp K36 ?_
        refine ent_seq fun _ K37 => ?_
        refine ent_block ?_
        refine esr rfl fun _ K38 => ?_
        refine ent_o rfl (ok_index 0 sl22 rfl rfl (by omega) (by omega)) ?_
        refine ent_o rfl (ok_load ti3 rfl) ?_
        refine emm rfl ?_
        refine enk K38 ?_
        refine ent_cut (⟨[(13, aSl 1 false aInt (canP f m)), (17, aInt i), (19, aBool (decide ((ix 0 (solV f m (dots f m.rows x)) i = 0 ∨ i ∈ (canP f m).take (k).toNat) ∨ ((ix 0 (canP f m) k) = i)))), (107, aSl 1 false aInt (solV f m (dots f m.rows x))), (108, aInt (↑(solV f m (dots f m.rows x)).length : Int)), (109, aInt i), (116, aSl 1 false aInt (canP f m)), (117, aInt (↑(canP f m).length : Int)), (118, aInt k)], [oBox b12_6 27 [aInt ((canM f m).cols), aSl 1 false aInts ((canM f m).rows)], oBox b4_2 27 [aInt m.cols, aSl 1 false aInts m.rows], oBox b3_1 24 [aInt f.P, aInt f.M, aSl 1 false aInt f.mod]]⟩) ?_ ?_
        ·refine ent_region ?_
         refine emm rfl ?_
         refine ent_guardXDf rfl rfl rfl rfl (fun hg123 => ?_) (fun hg123 => ?_)
         ·refine emm rfl ?_
          refine ent_guardXT rfl rfl rfl rfl (decide_eq_false hg123) ?_
          refine emm rfl ?_
          refine ent_guardXT rfl rfl rfl rfl (decide_eq_false hg123) ?_
          refine ent_o rfl (ok_eql rfl rfl) ?_
          refine ent_o rfl (ok_pickF rfl (decide_eq_false hg123) rfl) ?_
          refine emm rfl ?_
          refine ent_nil ?_
          exact ent_rep ⟨rfl, rfl, slot_bool (dq_Q ((or_iff_right hg123).trans Iff.rfl)), rfl, rfl, rfl, rfl, rfl, rfl, trivial⟩ rfl
         ·refine ent_guardXF rfl rfl rfl rfl (decide_eq_true hg123) ?_
          refine ent_guardXF rfl rfl rfl rfl (decide_eq_true hg123) ?_
          refine ent_o rfl (ok_pickT rfl (decide_eq_true hg123) rfl) ?_
          refine emm rfl ?_
          refine ent_nil ?_
          exact ent_rep ⟨rfl, rfl, slot_bool (dq_T rfl (Or.inl hg123)), rfl, rfl, rfl, rfl, rfl, rfl, trivial⟩ rfl
        refine ent_k K37 ?_
        refine ent_region ?_
        refine ent_o rfl (ok_add rfl rfl (by omega) (by omega)) ?_
        refine emm rfl ?_
        refine ent_nil ?_
        refine ent_again (s := (k)) (k + 1) ⟨(by omega), ‹_›⟩ (by omega) (ent_rep ⟨rfl, rfl, slot_av (av_bool (show (decide ((ix 0 (solV f m (dots f m.rows x)) i = 0 ∨ i ∈ (canP f m).take (k).toNat) ∨ ((ix 0 (canP f m) k) = i)) : Bool) = decide (ix 0 (solV f m (dots f m.rows x)) i = 0 ∨ i ∈ (canP f m).take ((k + 1)).toNat) by exact decide_eq_decide.2 (mem_take_step k0 h119))), rfl, rfl, rfl, rfl, rfl, rfl, trivial⟩ rfl)
       ·refine ent_exit ?_
        refine ent_k K33 ?_
        refine esr rfl fun _ K39 => ?_
        refine ent_o rfl (ok_notD rfl) ?_
        refine enk K39 ?_
        refine ent_condD rfl (fun h130 => ?_) (fun h130 => ?_)
        ·refine absurd ?_ h130
         by_cases hy : ix 0 (solV f m (dots f m.rows x)) i = 0
         ·exact .inl hy
         ·exact .inr (by rw [List.take_of_length_le (by omega)]; exact hC.sup i i0 hy)
        ·refine esp K30 ?_
         refine ent_region ?_
         refine ent_o rfl (ok_add rfl rfl (by omega) (by omega)) ?_
         refine emm rfl ?_
         refine ent_nil ?_
         refine ent_again (s := (i)) (i + 1) ⟨(by omega), ‹_›⟩ (by omega) (ent_rep ⟨rfl, rfl, rfl, rfl, trivial⟩ rfl)
      ·refine ent_exit ?_
       refine ent_k K26 ?_
       refine esk rfl ?_
       refine ent_ret ?_
       exact retR1 (.inr rfl) Try.results8 (resr_tmp (res_cv rfl (cv_bool rfl)))
end Go.Proofs.Ytamhdlkfhhpdpaa
