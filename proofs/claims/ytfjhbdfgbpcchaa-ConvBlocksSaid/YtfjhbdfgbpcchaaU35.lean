/-
  Facts for the law ConvBlocks.
-/
import Derived.Test.YtfjhbdfgbpcchaaU34
open Go Go.Cw
namespace Go.Proofs.Ytfjhbdfgbpcchaa
open Try
set_option maxRecDepth 100000
set_option linter.unusedVariables false
set_option linter.unusedSimpArgs false
theorem ConvBlocks_walk (c : Cnv) (steps : Int)  : Ctr Try.prog 14 [aCnv c, aInt steps] (aBool true) := by
 refine ctr_of Try.call14 func14 rfl rfl ?_
 intro w O
 refine A_l 0 2 rfl rfl (fun hlen0_2 => ?_)
 refine A_l 0 3 rfl rfl (fun hlen0_3 => ?_)
 refine esr rfl fun _ K1 => ?_
 refine A_s rfl rfl (AllOne.mem ⟨(A_M _), (A_M _), A_i, A_i, trivial⟩) (fun b2_1 => ?_)
 refine emm rfl ?_
 refine enk K1 ?_
 refine A_E fun _ K2 => ?_
 refine esr rfl fun _ K3 => ?_
 refine A_A rfl (A_V (k := 0) ti27 rfl rfl rfl) ?_
 refine A_A rfl (A_b (few_ok c) rfl) ?_
 refine A_A rfl (ok_notD rfl) ?_
 refine enk K3 ?_
 refine A_I rfl (fun h14 => ?_) (fun h14 => ?_)
 ·refine esk rfl ?_
  refine A_S ?_
  exact retR1 (.inr rfl) results14 (A_O (A_W rfl (cv_bool (by first | rfl | (rw [he1, he2, hr1, hr2]; simp [Cod.no]; done) | (refine decide_eq_true ?_; first | exact Classical.or_iff_not_imp_left.2 fun hn => .inl (hb2.trans (Classical.not_not.1 hn)) | exact Classical.or_iff_not_imp_left.2 fun hn => hb2.trans (Classical.not_not.1 hn))))))
 have hFew := (Classical.not_not.1 h14).1
 have hmn : 0 <= c.mem := c.maxD_nonneg c.Gen.length
 have hm4 := hFew.mem_le
 refine esp K2 ?_
 refine esr rfl fun _ K5 => ?_
 refine A_A rfl (A_V (k := 0) ti27 rfl rfl rfl) ?_
 refine emm rfl ?_
 refine A_A rfl (A_b (Terminated_ok c steps (by first | rfl | assumption | omega | (simp_all; done) | grind)) rfl) ?_
 refine emm rfl ?_
 refine A_A rfl (A_g rfl rfl) ?_
 refine A_A rfl (A_g rfl rfl) ?_
 refine ent_alloc (z := .agg #[.int .i64 0, .int .i64 0, .slice none 0 0, .int .i64 0, .slice none 0 0]) [aInt 0, aInt 0, aEx (.slice none 0 0), aInt 0, aEx (.slice none 0 0)] rfl zv69 rfl zc69 (fun b5_2 => ?_)
 refine ent_storeBS (k := 0) sizeOf69 rfl rfl rfl (AllOne.mem ⟨(A_M _), (A_M _), A_i, (A_M _), A_i, trivial⟩) rfl rfl ?_
 show Ent _ ⟨_, [_, _]⟩ _
 refine emm rfl ?_
 refine enk K5 ?_
 refine esr rfl fun _ K6 => ?_
 refine A_A rfl (A_V (k := 1) ti27 rfl rfl rfl) ?_
 refine emm rfl ?_
 refine A_A rfl (A_b (TailBiting_ok c steps (by first | rfl | assumption | omega | (simp_all; done) | grind)) rfl) ?_
 refine emm rfl ?_
 refine A_A rfl (A_g rfl rfl) ?_
 refine A_A rfl (A_g rfl rfl) ?_
 refine ent_alloc (z := .agg #[.int .i64 0, .int .i64 0, .slice none 0 0, .int .i64 0, .slice none 0 0]) [aInt 0, aInt 0, aEx (.slice none 0 0), aInt 0, aEx (.slice none 0 0)] rfl zv69 rfl zc69 (fun b7_3 => ?_)
 refine ent_storeBS (k := 0) sizeOf69 rfl rfl rfl (AllOne.mem ⟨(A_M _), (A_M _), A_i, (A_M _), A_i, trivial⟩) rfl rfl ?_
 show Ent _ ⟨_, [_, _, _]⟩ _
 refine emm rfl ?_
 refine enk K6 ?_
 refine esr rfl fun _ K7 => ?_
 refine A_A rfl (A_V (k := 2) ti27 rfl rfl rfl) ?_
 refine A_A rfl (A_b (rCnvCheck_ok c (by first | rfl | assumption | omega | (simp_all; done) | grind)) rfl) ?_
 refine emm rfl ?_
 refine enk K7 ?_
 refine A_E fun _ K8 => ?_
 refine esr rfl fun _ K9 => ?_
 refine A_A rfl (ok_neq rfl rfl) ?_
 refine enk K9 ?_
 refine A_I rfl (fun h30 => ?_) (fun h30 => ?_)
 ·have he1 : c.tE steps (steps + c.mem) = c.err := Cnv.tE_err h30
  have he2 : c.tE steps steps = c.err := Cnv.tE_err h30
  have hr1 : c.tR steps (steps + c.mem) = Cod.no := Cnv.tR_no (by rw [he1]; exact h30)
  have hr2 : c.tR steps steps = Cod.no := Cnv.tR_no (by rw [he2]; exact h30)
  have lr1 : (c.tR steps (steps + c.mem)).Gen.length = 0 := by rw [hr1]; rfl
  have lr2 : (c.tR steps steps).Gen.length = 0 := by rw [hr2]; rfl
  refine A_E fun _ K10 => ?_
  refine ent_cut (⟨[(4, aBool (decide ((((((c.tE steps (steps + c.mem)) = c.err) /\ ((c.tE steps steps) = c.err)) /\ (((c.tR steps (steps + c.mem)).N) = 0)) /\ (((c.tR steps steps).N) = 0)) /\ (((↑((c.tR steps (steps + c.mem)).Gen).length : Int) + (↑((c.tR steps steps).Gen).length : Int)) = 0))))], [oBox b7_3 69 [aInt ((c.tR steps steps).F.P), aInt ((c.tR steps steps).F.M), aSl 1 false aInt ((c.tR steps steps).F.mod), aInt ((c.tR steps steps).N), aSl 1 false aInts ((c.tR steps steps).Gen)], oBox b5_2 69 [aInt ((c.tR steps (steps + c.mem)).F.P), aInt ((c.tR steps (steps + c.mem)).F.M), aSl 1 false aInt ((c.tR steps (steps + c.mem)).F.mod), aInt ((c.tR steps (steps + c.mem)).N), aSl 1 false aInts ((c.tR steps (steps + c.mem)).Gen)], oBox b2_1 27 [aInt c.F.P, aInt c.F.M, aSl 1 false aInt c.F.mod, aSl 1 false aRows c.Gen]]⟩) ?_ ?_
  ·refine A_F ?_
   refine emm rfl ?_
   refine A_A rfl (ok_eql rfl rfl) ?_
   refine emm rfl ?_
   refine ent_guardXDt rfl rfl rfl rfl (fun hg34 => ?_) (fun hg34 => ?_)
   ·refine emm rfl ?_
    refine A_D rfl rfl rfl rfl (decide_eq_true hg34) ?_
    refine emm rfl ?_
    refine A_D rfl rfl rfl rfl (decide_eq_true hg34) ?_
    refine A_A rfl (ok_eql rfl rfl) ?_
    refine A_A rfl (A_f rfl (decide_eq_true hg34) rfl) ?_
    refine emm rfl ?_
    refine ent_guardXDt rfl rfl rfl rfl (fun hg39 => ?_) (fun hg39 => ?_)
    ·refine A_A rfl (A_B runUnderlying69 rfl sizeOf3 (by decide) rfl) ?_
     refine A_D rfl rfl rfl rfl (decide_eq_true hg39) ?_
     refine A_A rfl (A_L (k := 1) isAgg3 rfl rfl rfl) ?_
     refine A_D rfl rfl rfl rfl (decide_eq_true hg39) ?_
     refine A_A rfl (ok_eql rfl rfl) ?_
     refine A_A rfl (A_f rfl (decide_eq_true hg39) rfl) ?_
     refine emm rfl ?_
     refine ent_guardXDt rfl rfl rfl rfl (fun hg44 => ?_) (fun hg44 => ?_)
     ·refine A_A rfl (A_B runUnderlying69 rfl sizeOf3 (by decide) rfl) ?_
      refine A_D rfl rfl rfl rfl (decide_eq_true hg44) ?_
      refine A_A rfl (A_L (k := 0) isAgg3 rfl rfl rfl) ?_
      refine A_D rfl rfl rfl rfl (decide_eq_true hg44) ?_
      refine A_A rfl (ok_eql rfl rfl) ?_
      refine A_A rfl (A_f rfl (decide_eq_true hg44) rfl) ?_
      refine emm rfl ?_
      refine ent_guardXDt rfl rfl rfl rfl (fun hg49 => ?_) (fun hg49 => ?_)
      ·refine A_A rfl (A_B runUnderlying69 rfl sizeOf42 (by decide) rfl) ?_
       refine A_D rfl rfl rfl rfl (decide_eq_true hg49) ?_
       refine A_A rfl (A_L (k := 1) isAgg42 rfl rfl rfl) ?_
       refine A_D rfl rfl rfl rfl (decide_eq_true hg49) ?_
       refine A_A rfl (A_p rfl runUnderlying42 rfl) ?_
       refine A_D rfl rfl rfl rfl (decide_eq_true hg49) ?_
       refine A_A rfl (A_B runUnderlying69 rfl sizeOf42 (by decide) rfl) ?_
       refine A_D rfl rfl rfl rfl (decide_eq_true hg49) ?_
       refine A_A rfl (A_L (k := 0) isAgg42 rfl rfl rfl) ?_
       refine A_D rfl rfl rfl rfl (decide_eq_true hg49) ?_
       refine A_A rfl (A_p rfl runUnderlying42 rfl) ?_
       refine A_D rfl rfl rfl rfl (decide_eq_true hg49) ?_
       refine A_A rfl (A_j rfl rfl (by omega) (by omega)) ?_
       refine A_D rfl rfl rfl rfl (decide_eq_true hg49) ?_
       refine A_A rfl (ok_eql rfl rfl) ?_
       refine A_A rfl (A_f rfl (decide_eq_true hg49) rfl) ?_
       refine emm rfl ?_
       refine A_N ?_
       exact A_G ⟨A_T (dq_Q ((and_iff_right ⟨⟨⟨hg34, hg39⟩, hg44⟩, hg49⟩).trans Iff.rfl)), trivial⟩ rfl
      refine A_C rfl rfl rfl rfl (decide_eq_false hg49) ?_
      refine A_C rfl rfl rfl rfl (decide_eq_false hg49) ?_
      refine A_C rfl rfl rfl rfl (decide_eq_false hg49) ?_
      refine A_C rfl rfl rfl rfl (decide_eq_false hg49) ?_
      refine A_C rfl rfl rfl rfl (decide_eq_false hg49) ?_
      refine A_C rfl rfl rfl rfl (decide_eq_false hg49) ?_
      refine A_C rfl rfl rfl rfl (decide_eq_false hg49) ?_
      refine A_A rfl (A_h rfl (decide_eq_false hg49) rfl) ?_
      refine emm rfl ?_
      refine A_N ?_
      exact A_G ⟨A_T (dq_F rfl (fun h => (fun h => hg49 h.2) h.1)), trivial⟩ rfl
     refine A_C rfl rfl rfl rfl (decide_eq_false hg44) ?_
     refine A_C rfl rfl rfl rfl (decide_eq_false hg44) ?_
     refine A_A rfl (A_h rfl (decide_eq_false hg44) rfl) ?_
     refine emm rfl ?_
     refine A_C rfl rfl rfl rfl rfl ?_
     refine A_C rfl rfl rfl rfl rfl ?_
     refine A_C rfl rfl rfl rfl rfl ?_
     refine A_C rfl rfl rfl rfl rfl ?_
     refine A_C rfl rfl rfl rfl rfl ?_
     refine A_C rfl rfl rfl rfl rfl ?_
     refine A_C rfl rfl rfl rfl rfl ?_
     refine A_C rfl rfl rfl rfl rfl ?_
     refine A_A rfl (A_h rfl rfl rfl) ?_
     refine emm rfl ?_
     refine A_N ?_
     exact A_G ⟨A_T (dq_F rfl (fun h => (fun h => (fun h => hg44 h.2) h.1) h.1)), trivial⟩ rfl
    refine A_C rfl rfl rfl rfl (decide_eq_false hg39) ?_
    refine A_C rfl rfl rfl rfl (decide_eq_false hg39) ?_
    refine A_A rfl (A_h rfl (decide_eq_false hg39) rfl) ?_
    refine emm rfl ?_
    refine A_C rfl rfl rfl rfl rfl ?_
    refine A_C rfl rfl rfl rfl rfl ?_
    refine A_C rfl rfl rfl rfl rfl ?_
    refine A_A rfl (A_h rfl rfl rfl) ?_
    refine emm rfl ?_
    refine A_C rfl rfl rfl rfl rfl ?_
    refine A_C rfl rfl rfl rfl rfl ?_
    refine A_C rfl rfl rfl rfl rfl ?_
    refine A_C rfl rfl rfl rfl rfl ?_
    refine A_C rfl rfl rfl rfl rfl ?_
    refine A_C rfl rfl rfl rfl rfl ?_
    refine A_C rfl rfl rfl rfl rfl ?_
    refine A_C rfl rfl rfl rfl rfl ?_
    refine A_A rfl (A_h rfl rfl rfl) ?_
    refine emm rfl ?_
    refine A_N ?_
    exact A_G ⟨A_T (dq_F rfl (fun h => (fun h => (fun h => (fun h => hg39 h.2) h.1) h.1) h.1)), trivial⟩ rfl
   refine A_C rfl rfl rfl rfl (decide_eq_false hg34) ?_
   refine A_C rfl rfl rfl rfl (decide_eq_false hg34) ?_
   refine A_A rfl (A_h rfl (decide_eq_false hg34) rfl) ?_
   refine emm rfl ?_
   refine A_C rfl rfl rfl rfl rfl ?_
   refine A_C rfl rfl rfl rfl rfl ?_
   refine A_C rfl rfl rfl rfl rfl ?_
   refine A_A rfl (A_h rfl rfl rfl) ?_
   refine emm rfl ?_
   refine A_C rfl rfl rfl rfl rfl ?_
   refine A_C rfl rfl rfl rfl rfl ?_
   refine A_C rfl rfl rfl rfl rfl ?_
   refine A_A rfl (A_h rfl rfl rfl) ?_
   refine emm rfl ?_
   refine A_C rfl rfl rfl rfl rfl ?_
   refine A_C rfl rfl rfl rfl rfl ?_
   refine A_C rfl rfl rfl rfl rfl ?_
   refine A_C rfl rfl rfl rfl rfl ?_
   refine A_C rfl rfl rfl rfl rfl ?_
   refine A_C rfl rfl rfl rfl rfl ?_
   refine A_C rfl rfl rfl rfl rfl ?_
   refine A_C rfl rfl rfl rfl rfl ?_
   refine A_A rfl (A_h rfl rfl rfl) ?_
   refine emm rfl ?_
   refine A_N ?_
   exact A_G ⟨A_T (dq_F rfl (fun h => (fun h => (fun h => (fun h => hg34 h.1) h.1) h.1) h.1)), trivial⟩ rfl
  refine A_v K10 ?_
  refine A_S ?_
  exact retR1 (.inr rfl) results14 (A_O (A_W rfl (cv_bool (by first | rfl | (rw [he1, he2, hr1, hr2]; simp [Cod.no]; done) | (refine decide_eq_true ?_; first | exact Classical.or_iff_not_imp_left.2 fun hn => .inl (hb2.trans (Classical.not_not.1 hn)) | exact Classical.or_iff_not_imp_left.2 fun hn => hb2.trans (Classical.not_not.1 hn))))))
 have h0 := Classical.not_not.1 h30
 have hOk := Cnv.err_zero.1 h0
 have hb1 : c.tE steps (steps + c.mem) = c.tB steps (steps + c.mem) := Cnv.tE_tB h0
 have hb2 : c.tE steps steps = c.tB steps steps := Cnv.tE_tB h0
 refine esp K8 ?_
 refine A_E fun _ K11 => ?_
 refine A_x 6 mixed (by kernel_rfl) (by kernel_rfl) (by kernel_rfl) ?_
 refine dw_o rfl (A_V (k := 2) ti27 rfl rfl rfl) ?_
 refine dw_o rfl (A_K rfl) ?_
 refine dw_o rfl (A_V (k := 2) ti27 rfl rfl rfl) ?_
 refine dw_o rfl (A_b (rMemory_ok c (by first | rfl | assumption | omega | (simp_all; done) | grind)) rfl) ?_
 refine dw_o rfl (A_b (rBlocks_ok c steps c.mem (steps + c.mem) hOk hmn (by omega) rfl) rfl) ?_
 refine dw_o rfl (ok_assign rfl) ?_
 refine dw_nil ?_
 refine enk K11 ?_
 refine esr rfl fun _ K12 => ?_
 refine A_A rfl (A_V (k := 2) ti27 rfl rfl rfl) ?_
 refine emm rfl ?_
 refine A_A rfl (A_b (rBlocks_ok c steps 0 steps hOk (by decide) (by decide) (by omega)) rfl) ?_
 refine emm rfl ?_
 refine enk K12 ?_
 refine A_E fun _ K13 => ?_
 refine A_E fun _ K14 => ?_
 refine ent_cut (⟨[(1, aInt steps), (2, aEx (.pointer (some ⟨b2_1, 0, none⟩))), (5, aEx (.pointer (some ⟨b5_2, 0, none⟩))), (6, aInt (c.tE steps (steps + c.mem))), (7, aEx (.pointer (some ⟨b7_3, 0, none⟩))), (8, aInt (c.tE steps steps)), (10, aInt (c.tB steps (steps + c.mem))), (11, aInt (c.tB steps steps)), (104, aBool (decide ((((c.tB steps (steps + c.mem)) ≠ 0) /\ ((((c.tE steps (steps + c.mem)) ≠ (c.tB steps (steps + c.mem))) \/ (((c.tR steps (steps + c.mem)).N) ≠ 0)) \/ ((↑((c.tR steps (steps + c.mem)).Gen).length : Int) ≠ 0))) \/ (((c.tB steps steps) ≠ 0) /\ ((((c.tE steps steps) ≠ (c.tB steps steps)) \/ (((c.tR steps steps).N) ≠ 0)) \/ ((↑((c.tR steps steps).Gen).length : Int) ≠ 0))))))], [oBox b7_3 69 [aInt ((c.tR steps steps).F.P), aInt ((c.tR steps steps).F.M), aSl 1 false aInt ((c.tR steps steps).F.mod), aInt ((c.tR steps steps).N), aSl 1 false aInts ((c.tR steps steps).Gen)], oBox b5_2 69 [aInt ((c.tR steps (steps + c.mem)).F.P), aInt ((c.tR steps (steps + c.mem)).F.M), aSl 1 false aInt ((c.tR steps (steps + c.mem)).F.mod), aInt ((c.tR steps (steps + c.mem)).N), aSl 1 false aInts ((c.tR steps (steps + c.mem)).Gen)], oBox b2_1 27 [aInt c.F.P, aInt c.F.M, aSl 1 false aInt c.F.mod, aSl 1 false aRows c.Gen]]⟩) ?_ ?_
 ·refine A_F ?_
  refine emm rfl ?_
  refine A_A rfl (ok_neq rfl rfl) ?_
  refine emm rfl ?_
  refine ent_guardXDt rfl rfl rfl rfl (fun hg69 => ?_) (fun hg69 => ?_)
  ·refine emm rfl ?_
   refine A_D rfl rfl rfl rfl (decide_eq_true hg69) ?_
   refine emm rfl ?_
   refine A_D rfl rfl rfl rfl (decide_eq_true hg69) ?_
   refine A_A rfl (ok_neq rfl rfl) ?_
   refine A_D rfl rfl rfl rfl (decide_eq_true hg69) ?_
   refine emm rfl ?_
   refine ent_guardXDf rfl rfl rfl rfl (fun hg73 => ?_) (fun hg73 => ?_)
   ·refine A_A rfl (A_B runUnderlying69 rfl sizeOf3 (by decide) rfl) ?_
    refine A_D rfl rfl rfl rfl (decide_eq_false hg73) ?_
    refine A_A rfl (A_L (k := 1) isAgg3 rfl rfl rfl) ?_
    refine A_D rfl rfl rfl rfl (decide_eq_false hg73) ?_
    refine A_A rfl (ok_neq rfl rfl) ?_
    refine A_D rfl rfl rfl rfl (decide_eq_true hg69) ?_
    refine A_A rfl (A_h rfl (decide_eq_false hg73) rfl) ?_
    refine A_D rfl rfl rfl rfl (decide_eq_true hg69) ?_
    refine emm rfl ?_
    refine ent_guardXDf rfl rfl rfl rfl (fun hg78 => ?_) (fun hg78 => ?_)
    ·refine A_A rfl (A_B runUnderlying69 rfl sizeOf42 (by decide) rfl) ?_
     refine A_D rfl rfl rfl rfl (decide_eq_false hg78) ?_
     refine A_A rfl (A_L (k := 1) isAgg42 rfl rfl rfl) ?_
     refine A_D rfl rfl rfl rfl (decide_eq_false hg78) ?_
     refine A_A rfl (A_p rfl runUnderlying42 rfl) ?_
     refine A_D rfl rfl rfl rfl (decide_eq_false hg78) ?_
     refine A_A rfl (ok_neq rfl rfl) ?_
     refine A_D rfl rfl rfl rfl (decide_eq_true hg69) ?_
     refine A_A rfl (A_h rfl (decide_eq_false hg78) rfl) ?_
     refine A_A rfl (A_f rfl (decide_eq_true hg69) rfl) ?_
     refine emm rfl ?_
     refine ent_guardXDf rfl rfl rfl rfl (fun hg85 => ?_) (fun hg85 => ?_)
     ·refine emm rfl ?_
      refine A_D rfl rfl rfl rfl (decide_eq_false hg85) ?_
      refine A_A rfl (ok_neq rfl rfl) ?_
      refine A_D rfl rfl rfl rfl (decide_eq_false hg85) ?_
      refine emm rfl ?_
      refine ent_guardXDt rfl rfl rfl rfl (fun hg88 => ?_) (fun hg88 => ?_)
      ·refine emm rfl ?_
       refine A_D rfl rfl rfl rfl (decide_eq_true hg88) ?_
       refine emm rfl ?_
       refine A_D rfl rfl rfl rfl (decide_eq_true hg88) ?_
       refine A_A rfl (ok_neq rfl rfl) ?_
       refine A_D rfl rfl rfl rfl (decide_eq_true hg88) ?_
       refine emm rfl ?_
       refine ent_guardXDf rfl rfl rfl rfl (fun hg92 => ?_) (fun hg92 => ?_)
       ·refine A_A rfl (A_B runUnderlying69 rfl sizeOf3 (by decide) rfl) ?_
        refine A_D rfl rfl rfl rfl (decide_eq_false hg92) ?_
        refine A_A rfl (A_L (k := 0) isAgg3 rfl rfl rfl) ?_
        refine A_D rfl rfl rfl rfl (decide_eq_false hg92) ?_
        refine A_A rfl (ok_neq rfl rfl) ?_
        refine A_D rfl rfl rfl rfl (decide_eq_true hg88) ?_
        refine A_A rfl (A_h rfl (decide_eq_false hg92) rfl) ?_
        refine A_D rfl rfl rfl rfl (decide_eq_true hg88) ?_
        refine emm rfl ?_
        refine ent_guardXDf rfl rfl rfl rfl (fun hg97 => ?_) (fun hg97 => ?_)
        ·refine A_A rfl (A_B runUnderlying69 rfl sizeOf42 (by decide) rfl) ?_
         refine A_D rfl rfl rfl rfl (decide_eq_false hg97) ?_
         refine A_A rfl (A_L (k := 0) isAgg42 rfl rfl rfl) ?_
         refine A_D rfl rfl rfl rfl (decide_eq_false hg97) ?_
         refine A_A rfl (A_p rfl runUnderlying42 rfl) ?_
         refine A_D rfl rfl rfl rfl (decide_eq_false hg97) ?_
         refine A_A rfl (ok_neq rfl rfl) ?_
         refine A_D rfl rfl rfl rfl (decide_eq_true hg88) ?_
         refine A_A rfl (A_h rfl (decide_eq_false hg97) rfl) ?_
         refine A_D rfl rfl rfl rfl (decide_eq_false hg85) ?_
         refine A_A rfl (A_f rfl (decide_eq_true hg88) rfl) ?_
         refine A_A rfl (A_h rfl (decide_eq_false hg85) rfl) ?_
         refine A_N ?_
         exact A_G ⟨rfl, rfl, rfl, rfl, rfl, rfl, rfl, rfl, A_T (dq_Q ((or_iff_right (fun h => (fun h => h.elim (fun h => h.elim hg73 hg78) hg85) h.2)).trans ((and_iff_right hg88).trans ((or_iff_right (fun h => h.elim hg92 hg97)).trans Iff.rfl)))), trivial⟩ rfl
        refine A_C rfl rfl rfl rfl (decide_eq_true hg97) ?_
        refine A_C rfl rfl rfl rfl (decide_eq_true hg97) ?_
        refine A_C rfl rfl rfl rfl (decide_eq_true hg97) ?_
        refine A_D rfl rfl rfl rfl (decide_eq_true hg88) ?_
        refine A_A rfl (A_f rfl (decide_eq_true hg97) rfl) ?_
        refine A_D rfl rfl rfl rfl (decide_eq_false hg85) ?_
        refine A_A rfl (A_f rfl (decide_eq_true hg88) rfl) ?_
        refine A_A rfl (A_h rfl (decide_eq_false hg85) rfl) ?_
        refine A_N ?_
        exact A_G ⟨rfl, rfl, rfl, rfl, rfl, rfl, rfl, rfl, A_T (dq_T rfl (Or.inr ⟨hg88, (Or.inl (Or.inr hg97))⟩)), trivial⟩ rfl
       refine A_C rfl rfl rfl rfl (decide_eq_true hg92) ?_
       refine A_C rfl rfl rfl rfl (decide_eq_true hg92) ?_
       refine A_D rfl rfl rfl rfl (decide_eq_true hg88) ?_
       refine A_A rfl (A_f rfl (decide_eq_true hg92) rfl) ?_
       refine A_D rfl rfl rfl rfl (decide_eq_true hg88) ?_
       refine emm rfl ?_
       refine A_C rfl rfl rfl rfl rfl ?_
       refine A_C rfl rfl rfl rfl rfl ?_
       refine A_C rfl rfl rfl rfl rfl ?_
       refine A_C rfl rfl rfl rfl rfl ?_
       refine A_D rfl rfl rfl rfl (decide_eq_true hg88) ?_
       refine A_A rfl (A_f rfl rfl rfl) ?_
       refine A_D rfl rfl rfl rfl (decide_eq_false hg85) ?_
       refine A_A rfl (A_f rfl (decide_eq_true hg88) rfl) ?_
       refine A_A rfl (A_h rfl (decide_eq_false hg85) rfl) ?_
       refine A_N ?_
       exact A_G ⟨rfl, rfl, rfl, rfl, rfl, rfl, rfl, rfl, A_T (dq_T rfl (Or.inr ⟨hg88, (Or.inl (Or.inl hg92))⟩)), trivial⟩ rfl
      refine A_C rfl rfl rfl rfl (decide_eq_false hg88) ?_
      refine A_C rfl rfl rfl rfl (decide_eq_false hg88) ?_
      refine A_C rfl rfl rfl rfl (decide_eq_false hg88) ?_
      refine A_c rfl rfl rfl rfl ?_
      refine A_c rfl rfl rfl rfl ?_
      refine A_c rfl rfl rfl rfl ?_
      refine A_C rfl rfl rfl rfl (decide_eq_false hg88) ?_
      refine A_C rfl rfl rfl rfl (decide_eq_false hg88) ?_
      refine A_c rfl rfl rfl rfl ?_
      refine A_c rfl rfl rfl rfl ?_
      refine A_c rfl rfl rfl rfl ?_
      refine A_c rfl rfl rfl rfl ?_
      refine A_C rfl rfl rfl rfl (decide_eq_false hg88) ?_
      refine A_D rfl rfl rfl rfl (decide_eq_false hg85) ?_
      refine A_A rfl (A_h rfl (decide_eq_false hg88) rfl) ?_
      refine A_A rfl (A_h rfl (decide_eq_false hg85) rfl) ?_
      refine A_N ?_
      exact A_G ⟨rfl, rfl, rfl, rfl, rfl, rfl, rfl, rfl, A_T (dq_F rfl (fun h => h.elim (fun h => (fun h => h.elim (fun h => h.elim hg73 hg78) hg85) h.2) (fun h => hg88 h.1))), trivial⟩ rfl
     refine A_C rfl rfl rfl rfl (decide_eq_true hg85) ?_
     refine A_C rfl rfl rfl rfl (decide_eq_true hg85) ?_
     refine A_c rfl rfl rfl rfl ?_
     refine A_c rfl rfl rfl rfl ?_
     refine A_c rfl rfl rfl rfl ?_
     refine A_c rfl rfl rfl rfl ?_
     refine A_c rfl rfl rfl rfl ?_
     refine A_c rfl rfl rfl rfl ?_
     refine A_c rfl rfl rfl rfl ?_
     refine A_c rfl rfl rfl rfl ?_
     refine A_c rfl rfl rfl rfl ?_
     refine A_c rfl rfl rfl rfl ?_
     refine A_c rfl rfl rfl rfl ?_
     refine A_c rfl rfl rfl rfl ?_
     refine A_c rfl rfl rfl rfl ?_
     refine A_c rfl rfl rfl rfl ?_
     refine A_C rfl rfl rfl rfl (decide_eq_true hg85) ?_
     refine A_A rfl (A_f rfl (decide_eq_true hg85) rfl) ?_
     refine A_N ?_
     exact A_G ⟨rfl, rfl, rfl, rfl, rfl, rfl, rfl, rfl, A_T (dq_T rfl (Or.inl ⟨hg69, (Or.inr hg85)⟩)), trivial⟩ rfl
    refine A_C rfl rfl rfl rfl (decide_eq_true hg78) ?_
    refine A_C rfl rfl rfl rfl (decide_eq_true hg78) ?_
    refine A_C rfl rfl rfl rfl (decide_eq_true hg78) ?_
    refine A_D rfl rfl rfl rfl (decide_eq_true hg69) ?_
    refine A_A rfl (A_f rfl (decide_eq_true hg78) rfl) ?_
    refine A_A rfl (A_f rfl (decide_eq_true hg69) rfl) ?_
    refine emm rfl ?_
    refine A_C rfl rfl rfl rfl rfl ?_
    refine A_C rfl rfl rfl rfl rfl ?_
    refine A_C rfl rfl rfl rfl rfl ?_
    refine A_c rfl rfl rfl rfl ?_
    refine A_c rfl rfl rfl rfl ?_
    refine A_c rfl rfl rfl rfl ?_
    refine A_c rfl rfl rfl rfl ?_
    refine A_c rfl rfl rfl rfl ?_
    refine A_c rfl rfl rfl rfl ?_
    refine A_c rfl rfl rfl rfl ?_
    refine A_c rfl rfl rfl rfl ?_
    refine A_c rfl rfl rfl rfl ?_
    refine A_c rfl rfl rfl rfl ?_
    refine A_c rfl rfl rfl rfl ?_
    refine A_c rfl rfl rfl rfl ?_
    refine A_c rfl rfl rfl rfl ?_
    refine A_c rfl rfl rfl rfl ?_
    refine A_C rfl rfl rfl rfl rfl ?_
    refine A_A rfl (A_f rfl rfl rfl) ?_
    refine A_N ?_
    exact A_G ⟨rfl, rfl, rfl, rfl, rfl, rfl, rfl, rfl, A_T (dq_T rfl (Or.inl ⟨hg69, (Or.inl (Or.inr hg78))⟩)), trivial⟩ rfl
   refine A_C rfl rfl rfl rfl (decide_eq_true hg73) ?_
   refine A_C rfl rfl rfl rfl (decide_eq_true hg73) ?_
   refine A_D rfl rfl rfl rfl (decide_eq_true hg69) ?_
   refine A_A rfl (A_f rfl (decide_eq_true hg73) rfl) ?_
   refine A_D rfl rfl rfl rfl (decide_eq_true hg69) ?_
   refine emm rfl ?_
   refine A_C rfl rfl rfl rfl rfl ?_
   refine A_C rfl rfl rfl rfl rfl ?_
   refine A_C rfl rfl rfl rfl rfl ?_
   refine A_C rfl rfl rfl rfl rfl ?_
   refine A_D rfl rfl rfl rfl (decide_eq_true hg69) ?_
   refine A_A rfl (A_f rfl rfl rfl) ?_
   refine A_A rfl (A_f rfl (decide_eq_true hg69) rfl) ?_
   refine emm rfl ?_
   refine A_C rfl rfl rfl rfl rfl ?_
   refine A_C rfl rfl rfl rfl rfl ?_
   refine A_C rfl rfl rfl rfl rfl ?_
   refine A_c rfl rfl rfl rfl ?_
   refine A_c rfl rfl rfl rfl ?_
   refine A_c rfl rfl rfl rfl ?_
   refine A_c rfl rfl rfl rfl ?_
   refine A_c rfl rfl rfl rfl ?_
   refine A_c rfl rfl rfl rfl ?_
   refine A_c rfl rfl rfl rfl ?_
   refine A_c rfl rfl rfl rfl ?_
   refine A_c rfl rfl rfl rfl ?_
   refine A_c rfl rfl rfl rfl ?_
   refine A_c rfl rfl rfl rfl ?_
   refine A_c rfl rfl rfl rfl ?_
   refine A_c rfl rfl rfl rfl ?_
   refine A_c rfl rfl rfl rfl ?_
   refine A_C rfl rfl rfl rfl rfl ?_
   refine A_A rfl (A_f rfl rfl rfl) ?_
   refine A_N ?_
   exact A_G ⟨rfl, rfl, rfl, rfl, rfl, rfl, rfl, rfl, A_T (dq_T rfl (Or.inl ⟨hg69, (Or.inl (Or.inl hg73))⟩)), trivial⟩ rfl
  refine A_C rfl rfl rfl rfl (decide_eq_false hg69) ?_
  refine A_C rfl rfl rfl rfl (decide_eq_false hg69) ?_
  refine A_C rfl rfl rfl rfl (decide_eq_false hg69) ?_
  refine A_c rfl rfl rfl rfl ?_
  refine A_c rfl rfl rfl rfl ?_
  refine A_c rfl rfl rfl rfl ?_
  refine A_C rfl rfl rfl rfl (decide_eq_false hg69) ?_
  refine A_C rfl rfl rfl rfl (decide_eq_false hg69) ?_
  refine A_c rfl rfl rfl rfl ?_
  refine A_c rfl rfl rfl rfl ?_
  refine A_c rfl rfl rfl rfl ?_
  refine A_c rfl rfl rfl rfl ?_
  refine A_C rfl rfl rfl rfl (decide_eq_false hg69) ?_
  refine A_A rfl (A_h rfl (decide_eq_false hg69) rfl) ?_
  refine emm rfl ?_
  refine A_D rfl rfl rfl rfl rfl ?_
  refine emm rfl ?_
  refine A_D rfl rfl rfl rfl rfl ?_
  refine A_A rfl (ok_neq rfl rfl) ?_
  refine A_D rfl rfl rfl rfl rfl ?_
  refine emm rfl ?_
  refine ent_guardXDt rfl rfl rfl rfl (fun hg88 => ?_) (fun hg88 => ?_)
  ·refine emm rfl ?_
   refine A_D rfl rfl rfl rfl (decide_eq_true hg88) ?_
   refine emm rfl ?_
   refine A_D rfl rfl rfl rfl (decide_eq_true hg88) ?_
   refine A_A rfl (ok_neq rfl rfl) ?_
   refine A_D rfl rfl rfl rfl (decide_eq_true hg88) ?_
   refine emm rfl ?_
   refine ent_guardXDf rfl rfl rfl rfl (fun hg92 => ?_) (fun hg92 => ?_)
   ·refine A_A rfl (A_B runUnderlying69 rfl sizeOf3 (by decide) rfl) ?_
    refine A_D rfl rfl rfl rfl (decide_eq_false hg92) ?_
    refine A_A rfl (A_L (k := 0) isAgg3 rfl rfl rfl) ?_
    refine A_D rfl rfl rfl rfl (decide_eq_false hg92) ?_
    refine A_A rfl (ok_neq rfl rfl) ?_
    refine A_D rfl rfl rfl rfl (decide_eq_true hg88) ?_
    refine A_A rfl (A_h rfl (decide_eq_false hg92) rfl) ?_
    refine A_D rfl rfl rfl rfl (decide_eq_true hg88) ?_
    refine emm rfl ?_
    refine ent_guardXDf rfl rfl rfl rfl (fun hg97 => ?_) (fun hg97 => ?_)
    ·refine A_A rfl (A_B runUnderlying69 rfl sizeOf42 (by decide) rfl) ?_
     refine A_D rfl rfl rfl rfl (decide_eq_false hg97) ?_
     refine A_A rfl (A_L (k := 0) isAgg42 rfl rfl rfl) ?_
     refine A_D rfl rfl rfl rfl (decide_eq_false hg97) ?_
     refine A_A rfl (A_p rfl runUnderlying42 rfl) ?_
     refine A_D rfl rfl rfl rfl (decide_eq_false hg97) ?_
     refine A_A rfl (ok_neq rfl rfl) ?_
     refine A_D rfl rfl rfl rfl (decide_eq_true hg88) ?_
     refine A_A rfl (A_h rfl (decide_eq_false hg97) rfl) ?_
     refine A_D rfl rfl rfl rfl rfl ?_
     refine A_A rfl (A_f rfl (decide_eq_true hg88) rfl) ?_
     refine A_A rfl (A_h rfl rfl rfl) ?_
     refine A_N ?_
     exact A_G ⟨rfl, rfl, rfl, rfl, rfl, rfl, rfl, rfl, A_T (dq_Q ((or_iff_right (fun h => hg69 h.1)).trans ((and_iff_right hg88).trans ((or_iff_right (fun h => h.elim hg92 hg97)).trans Iff.rfl)))), trivial⟩ rfl
    refine A_C rfl rfl rfl rfl (decide_eq_true hg97) ?_
    refine A_C rfl rfl rfl rfl (decide_eq_true hg97) ?_
    refine A_C rfl rfl rfl rfl (decide_eq_true hg97) ?_
    refine A_D rfl rfl rfl rfl (decide_eq_true hg88) ?_
    refine A_A rfl (A_f rfl (decide_eq_true hg97) rfl) ?_
    refine A_D rfl rfl rfl rfl rfl ?_
    refine A_A rfl (A_f rfl (decide_eq_true hg88) rfl) ?_
    refine A_A rfl (A_h rfl rfl rfl) ?_
    refine A_N ?_
    exact A_G ⟨rfl, rfl, rfl, rfl, rfl, rfl, rfl, rfl, A_T (dq_T rfl (Or.inr ⟨hg88, (Or.inl (Or.inr hg97))⟩)), trivial⟩ rfl
   refine A_C rfl rfl rfl rfl (decide_eq_true hg92) ?_
   refine A_C rfl rfl rfl rfl (decide_eq_true hg92) ?_
   refine A_D rfl rfl rfl rfl (decide_eq_true hg88) ?_
   refine A_A rfl (A_f rfl (decide_eq_true hg92) rfl) ?_
   refine A_D rfl rfl rfl rfl (decide_eq_true hg88) ?_
   refine emm rfl ?_
   refine A_C rfl rfl rfl rfl rfl ?_
   refine A_C rfl rfl rfl rfl rfl ?_
   refine A_C rfl rfl rfl rfl rfl ?_
   refine A_C rfl rfl rfl rfl rfl ?_
   refine A_D rfl rfl rfl rfl (decide_eq_true hg88) ?_
   refine A_A rfl (A_f rfl rfl rfl) ?_
   refine A_D rfl rfl rfl rfl rfl ?_
   refine A_A rfl (A_f rfl (decide_eq_true hg88) rfl) ?_
   refine A_A rfl (A_h rfl rfl rfl) ?_
   refine A_N ?_
   exact A_G ⟨rfl, rfl, rfl, rfl, rfl, rfl, rfl, rfl, A_T (dq_T rfl (Or.inr ⟨hg88, (Or.inl (Or.inl hg92))⟩)), trivial⟩ rfl
  refine A_C rfl rfl rfl rfl (decide_eq_false hg88) ?_
  refine A_C rfl rfl rfl rfl (decide_eq_false hg88) ?_
  refine A_C rfl rfl rfl rfl (decide_eq_false hg88) ?_
  refine A_c rfl rfl rfl rfl ?_
  refine A_c rfl rfl rfl rfl ?_
  refine A_c rfl rfl rfl rfl ?_
  refine A_C rfl rfl rfl rfl (decide_eq_false hg88) ?_
  refine A_C rfl rfl rfl rfl (decide_eq_false hg88) ?_
  refine A_c rfl rfl rfl rfl ?_
  refine A_c rfl rfl rfl rfl ?_
  refine A_c rfl rfl rfl rfl ?_
  refine A_c rfl rfl rfl rfl ?_
  refine A_C rfl rfl rfl rfl (decide_eq_false hg88) ?_
  refine A_D rfl rfl rfl rfl rfl ?_
  refine A_A rfl (A_h rfl (decide_eq_false hg88) rfl) ?_
  refine A_A rfl (A_h rfl rfl rfl) ?_
  refine A_N ?_
  exact A_G ⟨rfl, rfl, rfl, rfl, rfl, rfl, rfl, rfl, A_T (dq_F rfl (fun h => h.elim (fun h => hg69 h.1) (fun h => hg88 h.1))), trivial⟩ rfl
 refine A_v K14 ?_
 refine A_I rfl (fun h104 => ?_) (fun h104 => ?_)
 ·rcases h104 with ⟨ha, (hb | hb) | hb⟩ | ⟨ha, (hb | hb) | hb⟩ <;> first | exact absurd hb1 hb | exact absurd hb2 hb | exact absurd (by rw [Cnv.tR_no (by rw [hb1]; exact ha)]; rfl) hb | exact absurd (by rw [Cnv.tR_no (by rw [hb2]; exact ha)]; rfl) hb
 refine esp K13 ?_
 refine A_E fun _ K15 => ?_
 refine A_E fun _ K16 => ?_
 refine ent_cut (⟨[(1, aInt steps), (2, aEx (.pointer (some ⟨b2_1, 0, none⟩))), (7, aEx (.pointer (some ⟨b7_3, 0, none⟩))), (8, aInt (c.tE steps steps)), (11, aInt (c.tB steps steps)), (118, aBool (decide (((c.tB steps (steps + c.mem)) = 0) /\ (((c.tE steps (steps + c.mem)) ≠ 0) \/ False))))], [oBox b7_3 69 [aInt ((c.tR steps steps).F.P), aInt ((c.tR steps steps).F.M), aSl 1 false aInt ((c.tR steps steps).F.mod), aInt ((c.tR steps steps).N), aSl 1 false aInts ((c.tR steps steps).Gen)], oBox b5_2 69 [aInt ((c.tR steps (steps + c.mem)).F.P), aInt ((c.tR steps (steps + c.mem)).F.M), aSl 1 false aInt ((c.tR steps (steps + c.mem)).F.mod), aInt ((c.tR steps (steps + c.mem)).N), aSl 1 false aInts ((c.tR steps (steps + c.mem)).Gen)], oBox b2_1 27 [aInt c.F.P, aInt c.F.M, aSl 1 false aInt c.F.mod, aSl 1 false aRows c.Gen]]⟩) ?_ ?_
 ·refine A_x 14 mixed (by kernel_rfl) (by kernel_rfl) (by kernel_rfl) ?_
  refine dw_o rfl (A_K rfl) ?_
  refine dw_o rfl (ok_eql rfl rfl) ?_
  refine dw_o rfl (A_K rfl) ?_
  refine dw_guardXDt rfl rfl rfl rfl (fun hg107 => ?_) (fun hg107 => ?_)
  ·have hz1 : c.tE steps (steps + c.mem) = 0 := by rw [hb1]; exact hg107
   have ht1 := Cnv.tE_zero hz1
   have hq1 := Cnv.tR_ok hz1
   refine dw_o rfl (A_K rfl) ?_
   refine dw_guardXT rfl rfl rfl rfl (decide_eq_true hg107) ?_
   refine dw_o rfl (ok_neq rfl rfl) ?_
   refine dw_guardXT rfl rfl rfl rfl (decide_eq_true hg107) ?_
   refine dw_o rfl (A_K rfl) ?_
   refine dw_guardXDf rfl rfl rfl rfl (fun hg110 => ?_) (fun hg110 => ?_)
   ·refine dw_o rfl (A_V (k := 1) ti69 rfl rfl rfl) ?_
    refine dw_guardXT rfl rfl rfl rfl (decide_eq_false hg110) ?_
    refine dw_o rfl (A_V (k := 2) ti27 rfl rfl rfl) ?_
    refine dw_guardXT rfl rfl rfl rfl (decide_eq_false hg110) ?_
    refine dw_o rfl (A_K rfl) ?_
    refine dw_guardXT rfl rfl rfl rfl (decide_eq_false hg110) ?_
    refine dw_o rfl (A_b (rTerminated_ok c steps hFew hOk ht1.2.1 ht1.2.2.2) rfl) ?_
    refine dw_guardXT rfl rfl rfl rfl (decide_eq_false hg110) ?_
    refine dw_o rfl (A_b (rSameC_ok (c.tR steps (steps + c.mem)) (c.tC steps (steps + c.mem)) hq1) rfl) ?_
    refine dw_guardXT rfl rfl rfl rfl (decide_eq_false hg110) ?_
    refine dw_o rfl (ok_not rfl) ?_
    refine dw_guardXT rfl rfl rfl rfl (decide_eq_true hg107) ?_
    refine dw_o rfl (A_h rfl (decide_eq_false hg110) rfl) ?_
    refine dw_o rfl (A_f rfl (decide_eq_true hg107) rfl) ?_
    refine dw_nil ?_
    refine A_N ?_
    exact A_G ⟨rfl, rfl, rfl, rfl, rfl, A_T (dq_F rfl (fun h => (fun h => h.elim hg110 id) h.2)), trivial⟩ rfl
   refine dw_guardXF rfl rfl rfl rfl (decide_eq_true hg110) ?_
   refine dw_guardXF rfl rfl rfl rfl (decide_eq_true hg110) ?_
   refine dw_guardXF rfl rfl rfl rfl (decide_eq_true hg110) ?_
   refine dw_guardXF rfl rfl rfl rfl (decide_eq_true hg110) ?_
   refine dw_guardXF rfl rfl rfl rfl (decide_eq_true hg110) ?_
   refine dw_guardXT rfl rfl rfl rfl (decide_eq_true hg107) ?_
   refine dw_o rfl (A_f rfl (decide_eq_true hg110) rfl) ?_
   refine dw_o rfl (A_f rfl (decide_eq_true hg107) rfl) ?_
   refine dw_nil ?_
   refine A_N ?_
   exact A_G ⟨rfl, rfl, rfl, rfl, rfl, A_T (dq_T rfl ⟨hg107, (Or.inl hg110)⟩), trivial⟩ rfl
  refine dw_guardXF rfl rfl rfl rfl (decide_eq_false hg107) ?_
  refine dw_guardXF rfl rfl rfl rfl (decide_eq_false hg107) ?_
  refine dw_guardU rfl rfl rfl rfl ?_
  refine dw_guardU rfl rfl rfl rfl ?_
  refine dw_guardU rfl rfl rfl rfl ?_
  refine dw_guardU rfl rfl rfl rfl ?_
  refine dw_guardU rfl rfl rfl rfl ?_
  refine dw_guardU rfl rfl rfl rfl ?_
  refine dw_guardXF rfl rfl rfl rfl (decide_eq_false hg107) ?_
  refine dw_o rfl (A_h rfl (decide_eq_false hg107) rfl) ?_
  refine dw_nil ?_
  refine A_N ?_
  exact A_G ⟨rfl, rfl, rfl, rfl, rfl, A_T (dq_F rfl (fun h => hg107 h.1)), trivial⟩ rfl
 refine A_v K16 ?_
 refine A_I rfl (fun h118 => ?_) (fun h118 => ?_)
 ·exact h118.2.elim (fun h => absurd (hb1.trans h118.1) h) (fun h => h.elim)
 refine esp K15 ?_
 refine A_E fun _ K17 => ?_
 refine ent_cut (⟨[(4, aBool (decide (((c.tB steps steps) ≠ 0) \/ (((c.tE steps steps) = 0) \/ False))))], [oBox b7_3 69 [aInt ((c.tR steps steps).F.P), aInt ((c.tR steps steps).F.M), aSl 1 false aInt ((c.tR steps steps).F.mod), aInt ((c.tR steps steps).N), aSl 1 false aInts ((c.tR steps steps).Gen)], oBox b5_2 69 [aInt ((c.tR steps (steps + c.mem)).F.P), aInt ((c.tR steps (steps + c.mem)).F.M), aSl 1 false aInt ((c.tR steps (steps + c.mem)).F.mod), aInt ((c.tR steps (steps + c.mem)).N), aSl 1 false aInts ((c.tR steps (steps + c.mem)).Gen)], oBox b2_1 27 [aInt c.F.P, aInt c.F.M, aSl 1 false aInt c.F.mod, aSl 1 false aRows c.Gen]]⟩) ?_ ?_
 ·refine A_x 14 mixed (by kernel_rfl) (by kernel_rfl) (by kernel_rfl) ?_
  refine dw_o rfl (A_K rfl) ?_
  refine dw_o rfl (ok_neq rfl rfl) ?_
  refine dw_o rfl (A_K rfl) ?_
  refine dw_guardXDf rfl rfl rfl rfl (fun hg121 => ?_) (fun hg121 => ?_)
  ·have hz2 : c.tE steps steps = 0 := by rw [hb2]; exact Classical.not_not.1 hg121
   have ht2 := Cnv.tE_zero hz2
   have hq2 := Cnv.tR_ok hz2
   refine dw_o rfl (A_K rfl) ?_
   refine dw_guardXT rfl rfl rfl rfl (decide_eq_false hg121) ?_
   refine dw_o rfl (ok_eql rfl rfl) ?_
   refine dw_guardXT rfl rfl rfl rfl (decide_eq_false hg121) ?_
   refine dw_o rfl (A_K rfl) ?_
   refine dw_guardXDt rfl rfl rfl rfl (fun hg124 => ?_) (fun hg124 => ?_)
   ·refine dw_o rfl (A_V (k := 0) ti69 rfl rfl rfl) ?_
    refine dw_guardXT rfl rfl rfl rfl (decide_eq_true hg124) ?_
    refine dw_o rfl (A_V (k := 2) ti27 rfl rfl rfl) ?_
    refine dw_guardXT rfl rfl rfl rfl (decide_eq_true hg124) ?_
    refine dw_o rfl (A_K rfl) ?_
    refine dw_guardXT rfl rfl rfl rfl (decide_eq_true hg124) ?_
    refine dw_o rfl (A_b (rTailBiting_ok c steps hFew hOk ht2.2.1 ht2.2.2.2) rfl) ?_
    refine dw_guardXT rfl rfl rfl rfl (decide_eq_true hg124) ?_
    refine dw_o rfl (A_b (rSameC_ok (c.tR steps steps) (c.tC steps steps) hq2) rfl) ?_
    refine dw_guardXT rfl rfl rfl rfl (decide_eq_false hg121) ?_
    refine dw_o rfl (A_f rfl (decide_eq_true hg124) rfl) ?_
    refine dw_o rfl (A_h rfl (decide_eq_false hg121) rfl) ?_
    refine dw_o rfl (ok_assign rfl) ?_
    refine dw_nil ?_
    refine A_N ?_
    exact A_G ⟨A_T (dq_T rfl (Or.inr (Or.inl hg124))), trivial⟩ rfl
   refine dw_guardXF rfl rfl rfl rfl (decide_eq_false hg124) ?_
   refine dw_guardXF rfl rfl rfl rfl (decide_eq_false hg124) ?_
   refine dw_guardXF rfl rfl rfl rfl (decide_eq_false hg124) ?_
   refine dw_guardXF rfl rfl rfl rfl (decide_eq_false hg124) ?_
   refine dw_guardXT rfl rfl rfl rfl (decide_eq_false hg121) ?_
   refine dw_o rfl (A_h rfl (decide_eq_false hg124) rfl) ?_
   refine dw_o rfl (A_h rfl (decide_eq_false hg121) rfl) ?_
   refine dw_o rfl (ok_assign rfl) ?_
   refine dw_nil ?_
   refine A_N ?_
   exact A_G ⟨A_T (dq_F rfl (fun h => h.elim hg121 (fun h => h.elim hg124 id))), trivial⟩ rfl
  refine dw_guardXF rfl rfl rfl rfl (decide_eq_true hg121) ?_
  refine dw_guardXF rfl rfl rfl rfl (decide_eq_true hg121) ?_
  refine dw_guardU rfl rfl rfl rfl ?_
  refine dw_guardU rfl rfl rfl rfl ?_
  refine dw_guardU rfl rfl rfl rfl ?_
  refine dw_guardU rfl rfl rfl rfl ?_
  refine dw_guardU rfl rfl rfl rfl ?_
  refine dw_guardXF rfl rfl rfl rfl (decide_eq_true hg121) ?_
  refine dw_o rfl (A_f rfl (decide_eq_true hg121) rfl) ?_
  refine dw_o rfl (ok_assign rfl) ?_
  refine dw_nil ?_
  refine A_N ?_
  exact A_G ⟨A_T (dq_T rfl (Or.inl hg121)), trivial⟩ rfl
 refine A_v K17 ?_
 refine A_S ?_
 exact retR1 (.inr rfl) results14 (A_O (A_W rfl (cv_bool (by first | rfl | (rw [he1, he2, hr1, hr2]; simp [Cod.no]; done) | (refine decide_eq_true ?_; first | exact Classical.or_iff_not_imp_left.2 fun hn => .inl (hb2.trans (Classical.not_not.1 hn)) | exact Classical.or_iff_not_imp_left.2 fun hn => hb2.trans (Classical.not_not.1 hn))))))
end Go.Proofs.Ytfjhbdfgbpcchaa
