/-
  Walks of functions of the program and the reference.
-/
import Derived.Test.YtfjhbdfgbpcchaaQ14
open Go Go.Cw
namespace Go.Proofs.Ytfjhbdfgbpcchaa
open Try
set_option maxRecDepth 100000
set_option linter.unusedVariables false
set_option linter.unusedSimpArgs false
theorem rTimes_ok (c : Cnv) (R : L3) (hFew : c.Few) (hOk : c.Ok) (hF : FOk c.F) (T : c.RtI hF R) : Ctr Try.prog 84 [aFld c.F, aSl 1 false aRows c.Gen, aSl 1 false aRows R] (aSl 1 false aRows (c.timL hF R)) := by
 have hS := hF.1
 have hik : c.k = (c.Gen.length : Int) := rfl
 have hen : c.n = ((ix [] c.Gen 0).length : Int) := rfl
 have hkn := hOk.kn
 have hnl := hOk.len
 have hRl := T.len
 have hR0 := T.row 0 (by omega) (by omega)
 refine ctr_of Try.call84 func84 rfl rfl ?_
 intro w O
 refine ent_lenC 0 2 rfl rfl (fun hlen0_2 => ?_)
 refine ent_len 1 rfl (fun hlen1 => ?_)
 refine ent_len 2 rfl (fun hlen2 => ?_)
 refine esr rfl fun _ K1 => ?_
 refine ent_boxS rfl rfl (AllOne.mem ⟨(one_int _), (one_int _), one_sl, trivial⟩) (fun b3_1 => ?_)
 refine emm rfl ?_
 refine enk K1 ?_
 refine esk rfl ?_
 refine ent_seq fun _ K3 => ?_
 refine esk rfl ?_
 refine ent_block ?_
 refine ent_open 42 1 false aRows (fun _ => rfl) ?_
 refine ent_loop (fun (ss : Int × Option Nat × Nat) => match ss with | (i, rr3, cc3) => (⟨[(1, aSl 1 false aRows c.Gen), (2, aSl 1 false aRows R), (3, aEx (.pointer (some ⟨b3_1, 0, none⟩))), (7, aEx (vec rr3 ((mapR (fun u => mapR (fun v => lS hF (c.timS hF R u v c.n)) c.k) i).length) cc3)), (8, aInt i)], [oVec rr3 cc3 42 1 false aRows (mapR (fun u => mapR (fun v => lS hF (c.timS hF R u v c.n)) c.k) i), oBox b3_1 24 [aInt c.F.P, aInt c.F.M, aSl 1 false aInt c.F.mod]]⟩ : St)) (fun (ss : Int × Option Nat × Nat) => match ss with | (i, rr3, cc3) => (0 ≤ i) ∧ (i ≤ c.k)) (fun (ss : Int × Option Nat × Nat) => match ss with | (i, rr3, cc3) => (c.k - i).toNat) (0, none, 0) ⟨(by omega), (by omega)⟩ (ent_rep ⟨rfl, rfl, rfl, slot_av ((show aEx (vec none ([] : List _).length 0) = aEx (vec none ((mapR (fun u => mapR (fun v => lS hF (c.timS hF R u v c.n)) c.k) (0 : Int)).length) 0) from av_vec (congrArg List.length (show mapR (fun u => mapR (fun v => lS hF (c.timS hF R u v c.n)) c.k) (0 : Int) = [] by rfl).symm))), slot_av (av_int (show 0 = (0 : Int) by rfl)), trivial⟩ (own_cons (own_vec (show mapR (fun u => mapR (fun v => lS hF (c.timS hF R u v c.n)) c.k) (0 : Int) = [] by rfl)) (rfl))) ?_
 rintro ⟨i, rr3, cc3⟩ ⟨i0, i1⟩
 show Ent _ ⟨_, [_, _]⟩ _
 have lmi := length_mapR (fun u => mapR (fun v => lS hF (c.timS hF R u v c.n)) c.k) i
 refine ent_seq fun _ K5 => ?_
 refine esr rfl fun _ K6 => ?_
 refine ent_o rfl (ok_len rfl runUnderlying25 rfl) ?_
 refine ent_o rfl (ok_lss rfl rfl) ?_
 refine enk K6 ?_
 refine ent_condD rfl (fun h16 => ?_) (fun h16 => ?_)
 ·have hrow := hOk.row i0 (show i < c.Gen.length by omega)
  refine esp K5 ?_
  refine ent_seq fun _ K7 => ?_
  refine ent_block ?_
  refine esk rfl ?_
  refine ent_seq fun _ K9 => ?_
  refine esk rfl ?_
  refine ent_block ?_
  refine ent_open 22 1 false aInts (fun _ => rfl) ?_
  refine ent_loop (fun (ss : Int × Option Nat × Nat) => match ss with | (j, rr5, cc5) => (⟨[(1, aSl 1 false aRows c.Gen), (2, aSl 1 false aRows R), (3, aEx (.pointer (some ⟨b3_1, 0, none⟩))), (7, aEx (vec rr3 ((mapR (fun u => mapR (fun v => lS hF (c.timS hF R u v c.n)) c.k) i).length) cc3)), (8, aInt i), (9, aEx (vec rr5 ((mapR (fun v => lS hF (c.timS hF R i v c.n)) j).length) cc5)), (10, aInt j)], [oVec rr5 cc5 22 1 false aInts (mapR (fun v => lS hF (c.timS hF R i v c.n)) j), oVec rr3 cc3 42 1 false aRows (mapR (fun u => mapR (fun v => lS hF (c.timS hF R u v c.n)) c.k) i), oBox b3_1 24 [aInt c.F.P, aInt c.F.M, aSl 1 false aInt c.F.mod]]⟩ : St)) (fun (ss : Int × Option Nat × Nat) => match ss with | (j, rr5, cc5) => (0 ≤ j) ∧ (j ≤ c.k)) (fun (ss : Int × Option Nat × Nat) => match ss with | (j, rr5, cc5) => (c.k - j).toNat) (0, none, 0) ⟨(by omega), (by omega)⟩ (ent_rep ⟨rfl, rfl, rfl, rfl, rfl, slot_av ((show aEx (vec none ([] : List _).length 0) = aEx (vec none ((mapR (fun v => lS hF (c.timS hF R i v c.n)) (0 : Int)).length) 0) from av_vec (congrArg List.length (show mapR (fun v => lS hF (c.timS hF R i v c.n)) (0 : Int) = [] by rfl).symm))), slot_av (av_int (show 0 = (0 : Int) by rfl)), trivial⟩ (own_cons (own_vec (show mapR (fun v => lS hF (c.timS hF R i v c.n)) (0 : Int) = [] by rfl)) (rfl))) ?_
  rintro ⟨j, rr5, cc5⟩ ⟨j0, j1⟩
  show Ent _ ⟨_, [_, _, _]⟩ _
  have lmj := length_mapR (fun v => lS hF (c.timS hF R i v c.n)) j
  refine ent_seq fun _ K11 => ?_
  refine ent_seq fun _ K12 => ?_
  refine ent_cut (⟨[(1, aSl 1 false aRows c.Gen), (2, aSl 1 false aRows R), (3, aEx (.pointer (some ⟨b3_1, 0, none⟩))), (7, aEx (vec rr3 ((mapR (fun u => mapR (fun v => lS hF (c.timS hF R u v c.n)) c.k) i).length) cc3)), (8, aInt i), (9, aEx (vec rr5 ((mapR (fun v => lS hF (c.timS hF R i v c.n)) j).length) cc5)), (10, aInt j), (29, aBool (decide ((0 < (↑R.length : Int)) ∧ (j < (↑(ix [] R 0).length : Int)))))], [oVec rr5 cc5 22 1 false aInts (mapR (fun v => lS hF (c.timS hF R i v c.n)) j), oVec rr3 cc3 42 1 false aRows (mapR (fun u => mapR (fun v => lS hF (c.timS hF R u v c.n)) c.k) i), oBox b3_1 24 [aInt c.F.P, aInt c.F.M, aSl 1 false aInt c.F.mod]]⟩) ?_ ?_
  ·refine ent_region ?_
   refine emm rfl ?_
   refine ent_o rfl (ok_len rfl runUnderlying25 rfl) ?_
   refine ent_o rfl (ok_gtr rfl rfl) ?_
   refine emm rfl ?_
   refine ent_guardXDt rfl rfl rfl rfl (fun hg22 => ?_) (fun hg22 => ?_)
   ·refine emm rfl ?_
    refine ent_guardXT rfl rfl rfl rfl (decide_eq_true hg22) ?_
    refine emm rfl ?_
    refine ent_guardXT rfl rfl rfl rfl (decide_eq_true hg22) ?_
    refine ent_o rfl (ok_index [] sl25 rfl rfl (by omega) (by omega)) ?_
    refine ent_guardXT rfl rfl rfl rfl (decide_eq_true hg22) ?_
    refine ent_o rfl (ok_load ti42 rfl) ?_
    refine ent_guardXT rfl rfl rfl rfl (decide_eq_true hg22) ?_
    refine ent_o rfl (ok_len rfl runUnderlying42 rfl) ?_
    refine ent_guardXT rfl rfl rfl rfl (decide_eq_true hg22) ?_
    refine ent_o rfl (ok_lss rfl rfl) ?_
    refine ent_o rfl (ok_pickT rfl (decide_eq_true hg22) rfl) ?_
    refine ent_nil ?_
    exact ent_rep ⟨rfl, rfl, rfl, rfl, rfl, rfl, rfl, slot_bool (dq_Q ((and_iff_right hg22).trans Iff.rfl)), trivial⟩ rfl
   refine ent_guardXF rfl rfl rfl rfl (decide_eq_false hg22) ?_
   refine ent_guardXF rfl rfl rfl rfl (decide_eq_false hg22) ?_
   refine ent_guardXF rfl rfl rfl rfl (decide_eq_false hg22) ?_
   refine ent_guardXF rfl rfl rfl rfl (decide_eq_false hg22) ?_
   refine ent_guardXF rfl rfl rfl rfl (decide_eq_false hg22) ?_
   refine ent_o rfl (ok_pickF rfl (decide_eq_false hg22) rfl) ?_
   refine ent_nil ?_
   exact ent_rep ⟨rfl, rfl, rfl, rfl, rfl, rfl, rfl, slot_bool (dq_F rfl (fun h => hg22 h.1)), trivial⟩ rfl
  refine ent_k K12 ?_
  refine ent_condD rfl (fun h29 => ?_) (fun h29 => ?_)
  ·refine esp K11 ?_
   refine ent_seq fun _ K13 => ?_
   refine ent_block ?_
   refine esk rfl ?_
   refine ent_seq fun _ K15 => ?_
   refine esk rfl ?_
   refine ent_block ?_
   refine ent_cv 11 rfl (cv_nil (sz := 1) (agg := false) (enc := aInt) (xs' := []) (fun _ => rfl) rfl) ?_
   refine ent_loop (fun (t : Int) => (⟨[(1, aSl 1 false aRows c.Gen), (2, aSl 1 false aRows R), (3, aEx (.pointer (some ⟨b3_1, 0, none⟩))), (7, aEx (vec rr3 ((mapR (fun u => mapR (fun v => lS hF (c.timS hF R u v c.n)) c.k) i).length) cc3)), (8, aInt i), (9, aEx (vec rr5 ((mapR (fun v => lS hF (c.timS hF R i v c.n)) j).length) cc5)), (10, aInt j), (11, aSl 1 false aInt (lS hF (c.timS hF R i j t))), (12, aInt t)], [oVec rr5 cc5 22 1 false aInts (mapR (fun v => lS hF (c.timS hF R i v c.n)) j), oVec rr3 cc3 42 1 false aRows (mapR (fun u => mapR (fun v => lS hF (c.timS hF R u v c.n)) c.k) i), oBox b3_1 24 [aInt c.F.P, aInt c.F.M, aSl 1 false aInt c.F.mod]]⟩ : St)) (fun (t : Int) => (0 ≤ t) ∧ (t ≤ c.n)) (fun (t : Int) => (c.n - t).toNat) 0 ⟨(by omega), (by omega)⟩ (ent_rep ⟨rfl, rfl, rfl, rfl, rfl, rfl, rfl, slot_av ((by rw [Cnv.timS_zero])), slot_av (av_int (show 0 = (0 : Int) by rfl)), trivial⟩ rfl) ?_
   rintro t ⟨t0, t1⟩
   show Ent _ ⟨_, [_, _, _]⟩ _
   refine ent_seq fun _ K17 => ?_
   refine ent_seq fun _ K18 => ?_
   refine ent_cut (⟨[(1, aSl 1 false aRows c.Gen), (2, aSl 1 false aRows R), (3, aEx (.pointer (some ⟨b3_1, 0, none⟩))), (7, aEx (vec rr3 ((mapR (fun u => mapR (fun v => lS hF (c.timS hF R u v c.n)) c.k) i).length) cc3)), (8, aInt i), (9, aEx (vec rr5 ((mapR (fun v => lS hF (c.timS hF R i v c.n)) j).length) cc5)), (10, aInt j), (11, aSl 1 false aInt (lS hF (c.timS hF R i j t))), (12, aInt t), (44, aBool (decide ((t < (↑(ix [] c.Gen i).length : Int)) ∧ (t < (↑R.length : Int)))))], [oVec rr5 cc5 22 1 false aInts (mapR (fun v => lS hF (c.timS hF R i v c.n)) j), oVec rr3 cc3 42 1 false aRows (mapR (fun u => mapR (fun v => lS hF (c.timS hF R u v c.n)) c.k) i), oBox b3_1 24 [aInt c.F.P, aInt c.F.M, aSl 1 false aInt c.F.mod]]⟩) ?_ ?_
   ·refine ent_region ?_
    refine emm rfl ?_
    refine ent_o rfl (ok_index [] sl25 rfl rfl (by omega) (by omega)) ?_
    refine ent_o rfl (ok_load ti42 rfl) ?_
    refine ent_o rfl (ok_len rfl runUnderlying42 rfl) ?_
    refine ent_o rfl (ok_lss rfl rfl) ?_
    refine emm rfl ?_
    refine ent_guardXDt rfl rfl rfl rfl (fun hg39 => ?_) (fun hg39 => ?_)
    ·refine emm rfl ?_
     refine ent_guardXT rfl rfl rfl rfl (decide_eq_true hg39) ?_
     refine emm rfl ?_
     refine ent_guardXT rfl rfl rfl rfl (decide_eq_true hg39) ?_
     refine ent_o rfl (ok_len rfl runUnderlying25 rfl) ?_
     refine ent_guardXT rfl rfl rfl rfl (decide_eq_true hg39) ?_
     refine ent_o rfl (ok_lss rfl rfl) ?_
     refine ent_o rfl (ok_pickT rfl (decide_eq_true hg39) rfl) ?_
     refine ent_nil ?_
     exact ent_rep ⟨rfl, rfl, rfl, rfl, rfl, rfl, rfl, rfl, rfl, slot_bool (dq_Q ((and_iff_right hg39).trans Iff.rfl)), trivial⟩ rfl
    refine ent_guardXF rfl rfl rfl rfl (decide_eq_false hg39) ?_
    refine ent_guardXF rfl rfl rfl rfl (decide_eq_false hg39) ?_
    refine ent_guardXF rfl rfl rfl rfl (decide_eq_false hg39) ?_
    refine ent_o rfl (ok_pickF rfl (decide_eq_false hg39) rfl) ?_
    refine ent_nil ?_
    exact ent_rep ⟨rfl, rfl, rfl, rfl, rfl, rfl, rfl, rfl, rfl, slot_bool (dq_F rfl (fun h => hg39 h.1)), trivial⟩ rfl
   refine ent_k K18 ?_
   refine ent_condD rfl (fun h44 => ?_) (fun h44 => ?_)
   ·have hrt := T.row t t0 (by omega)
    have hts := Cnv.timS_step (c := c) (hF := hF) R i j t0
    have hpl : (ix [] (ix [] c.Gen i) t).length ≤ 40 := by have := (hFew.2 _ (ix_mem [] c.Gen i0 (by omega))).2 _ (ix_mem [] (ix [] c.Gen i) t0 (by omega)); omega
    have hel := T.lb t j t0 (by omega) j0 (by omega)
    have hsl := Cnv.timS_len hFew T i j0 (by omega) (t := t) (by omega)
    unfold eL at hel
    have hml := mulP_len hF (ix [] (ix [] c.Gen i) t) (ix [] (ix [] R t) j)
    refine esp K17 ?_
    refine ent_seq fun _ K19 => ?_
    refine ent_block ?_
    refine ent_draw 20 mixed (by kernel_rfl) (by kernel_rfl) (by kernel_rfl) ?_
    refine dw_o rfl (ok_loadBS (k := 2) ti24 rfl rfl rfl) ?_
    refine dw_o rfl (ok_move rfl) ?_
    refine dw_o rfl (ok_loadBS (k := 2) ti24 rfl rfl rfl) ?_
    refine dw_o rfl (ok_move rfl) ?_
    refine dw_o rfl (ok_move rfl) ?_
    refine dw_o rfl (ok_index [] sl25 rfl rfl (by omega) (by omega)) ?_
    refine dw_o rfl (ok_load ti42 rfl) ?_
    refine dw_o rfl (ok_move rfl) ?_
    refine dw_o rfl (ok_index [] sl42 rfl rfl (by omega) (by omega)) ?_
    refine dw_o rfl (ok_load ti22 rfl) ?_
    refine dw_o rfl (ok_move rfl) ?_
    refine dw_o rfl (ok_move rfl) ?_
    refine dw_o rfl (ok_index [] sl25 rfl rfl (by omega) (by omega)) ?_
    refine dw_o rfl (ok_load ti42 rfl) ?_
    refine dw_o rfl (ok_move rfl) ?_
    refine dw_o rfl (ok_index [] sl42 rfl rfl (by omega) (by omega)) ?_
    refine dw_o rfl (ok_load ti22 rfl) ?_
    refine dw_o rfl (ok_call (rpMul_ok c.F (ix [] (ix [] c.Gen i) t) (ix [] (ix [] R t) j) ‹_› (by omega) (by omega)) rfl) ?_
    refine dw_o rfl (ok_call (rpAdd_ok c.F (lS hF (c.timS hF R i j t)) (mulP hF (ix [] (ix [] c.Gen i) t) (ix [] (ix [] R t) j)) ‹_› (by omega) (by omega)) rfl) ?_
    refine dw_o rfl (ok_assign rfl) ?_
    refine dw_nil ?_
    refine enk K19 ?_
    refine ent_region ?_
    refine emm rfl ?_
    refine ent_o rfl (ok_add rfl rfl (by omega) (by omega)) ?_
    refine emm rfl ?_
    refine ent_nil ?_
    refine ent_again (s := (t)) (t + 1) ⟨(by omega), (by omega)⟩ (by omega) (ent_rep ⟨rfl, rfl, rfl, rfl, rfl, rfl, rfl, slot_av (av_sl (show addP hF (lS hF (c.timS hF R i j t)) (mulP hF (ix [] (ix [] c.Gen i) t) (ix [] (ix [] R t) j)) = lS hF (c.timS hF R i j (t + 1)) by exact hts)), rfl, trivial⟩ rfl)
   refine ent_exit ?_
   refine ent_k K15 ?_
   refine ent_region ?_
   refine emm rfl ?_
   refine ent_appendL (k := 0) (enc := aInts) (y := lS hF (c.timS hF R i j t)) rfl rfl vt42 rfl rfl rfl rfl ((elem_one one_sl)) (by omega) (by omega) (by decide) (fun b69_6 c69_6 => ?_)
   refine emm rfl ?_
   refine enk K13 ?_
   refine ent_region ?_
   refine emm rfl ?_
   refine ent_o rfl (ok_add rfl rfl (by omega) (by omega)) ?_
   refine emm rfl ?_
   refine ent_nil ?_
   refine ent_again (s := (j, rr5, cc5)) (j + 1, (some b69_6), c69_6) ⟨(by omega), (by omega)⟩ (by dsimp only; omega) (ent_rep ⟨rfl, rfl, rfl, rfl, rfl, slot_av (av_vec (congrArg List.length (show mapR (fun v => lS hF (c.timS hF R i v c.n)) (j + 1) = (mapR (fun v => lS hF (c.timS hF R i v c.n)) j) ++ [lS hF (c.timS hF R i j t)] by rw [mapR_succ _ j0, show t = c.n by omega]).symm)), rfl, trivial⟩ (own_cons (own_vec (show mapR (fun v => lS hF (c.timS hF R i v c.n)) (j + 1) = (mapR (fun v => lS hF (c.timS hF R i v c.n)) j) ++ [lS hF (c.timS hF R i j t)] by rw [mapR_succ _ j0, show t = c.n by omega])) (rfl)))
  refine ent_exit ?_
  refine ent_k K9 ?_
  refine ent_region ?_
  refine emm rfl ?_
  refine ent_give 0 71 rfl (cv_vec (k := 0) (off_erase rfl) rfl rfl) ?_
  refine ent_appendL (k := 0) (enc := aRows) (y := mapR (fun v => lS hF (c.timS hF R i v c.n)) j) rfl rfl vt25 rfl rfl rfl rfl ((elem_one one_sl)) (by omega) (by omega) (by decide) (fun b73_7 c73_7 => ?_)
  refine emm rfl ?_
  refine enk K7 ?_
  refine ent_region ?_
  refine emm rfl ?_
  refine ent_o rfl (ok_add rfl rfl (by omega) (by omega)) ?_
  refine emm rfl ?_
  refine ent_nil ?_
  refine ent_again (s := (i, rr3, cc3)) (i + 1, (some b73_7), c73_7) ⟨(by omega), ‹_›⟩ (by dsimp only; omega) (ent_rep ⟨rfl, rfl, rfl, slot_av (av_vec (congrArg List.length (show mapR (fun u => mapR (fun v => lS hF (c.timS hF R u v c.n)) c.k) (i + 1) = (mapR (fun u => mapR (fun v => lS hF (c.timS hF R u v c.n)) c.k) i) ++ [mapR (fun v => lS hF (c.timS hF R i v c.n)) j] by rw [mapR_succ _ i0, show j = c.k by omega]).symm)), rfl, trivial⟩ (own_cons (own_vec (show mapR (fun u => mapR (fun v => lS hF (c.timS hF R u v c.n)) c.k) (i + 1) = (mapR (fun u => mapR (fun v => lS hF (c.timS hF R u v c.n)) c.k) i) ++ [mapR (fun v => lS hF (c.timS hF R i v c.n)) j] by rw [mapR_succ _ i0, show j = c.k by omega])) (rfl)))
 refine ent_exit ?_
 refine ent_k K3 ?_
 refine ent_seq fun _ K20 => ?_
 refine ent_give 0 7 rfl (cv_vec (k := 0) (off_erase rfl) rfl rfl) ?_
 refine ent_region ?_
 refine emm rfl ?_
 refine enk K20 ?_
 refine ent_ret ?_
 exact retR1 (.inr rfl) results84 (resr_tmp (res_cv rfl (cv_sl sub_x (by rw [show i = c.k by omega]; rfl))))
end Go.Proofs.Ytfjhbdfgbpcchaa

