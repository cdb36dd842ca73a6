/-
  Walks of functions of the program and the reference.
-/
import Derived.Test.YtbofipdmoocflaaProg
import Derived.Test.YtbofipdmoocflaaXTab
import Derived.Test.YtbofipdmoocflaaPlainEm
import Derived.Test.YtbofipdmoocflaaCiLib
import Derived.Test.YtbofipdmoocflaaX4
import Derived.Test.YtbofipdmoocflaaX5
import Derived.Test.YtbofipdmoocflaaX6
import Derived.Test.YtbofipdmoocflaaX9
import Derived.Test.YtbofipdmoocflaaX1
import Derived.Test.YtbofipdmoocflaaX10
import Derived.Test.YtbofipdmoocflaaX11
import Derived.Test.YtbofipdmoocflaaX12
import Derived.Test.YtbofipdmoocflaaX13
import Derived.Test.YtbofipdmoocflaaX14
import Derived.Test.YtbofipdmoocflaaX15
import Derived.Test.YtbofipdmoocflaaX18
import Derived.Test.YtbofipdmoocflaaX19
import Derived.Test.YtbofipdmoocflaaX20
import Derived.Test.YtbofipdmoocflaaX30
import Derived.Test.YtbofipdmoocflaaX31
import Derived.Test.YtbofipdmoocflaaX32
import Derived.Test.YtbofipdmoocflaaX33
import Derived.Test.YtbofipdmoocflaaX35
open Go Go.Cw
namespace Go.Proofs.Ytbofipdmoocflaa
set_option maxRecDepth 100000
set_option linter.unusedVariables false
set_option linter.unusedSimpArgs false
theorem rcv_any (c : Cod) (y : List Int)  : Ctr Try.prog 65 [aCod c, aSl 1 false aInt y] (aTup [aAny, aInt (wrdE c y)]) := by
 refine ctr_of Try.call65 Try.func65 rfl rfl ?_
 intro w O
 refine ent_lenC 0 2 rfl rfl (fun hlen0_2 => ?_)
 refine ent_lenC 0 4 rfl rfl (fun hlen0_4 => ?_)
 refine ent_len 1 rfl (fun hlen1 => ?_)
 refine esr rfl fun _ K1 => ?_
 refine ent_boxS rfl rfl (AllOne.mem ⟨(one_int _), (one_int _), one_sl, (one_int _), one_sl, trivial⟩) (fun b2_1 => ?_)
 refine emm rfl ?_
 refine enk K1 ?_
 refine ent_seq fun _ K2 => ?_
 refine esr rfl fun _ K3 => ?_
 refine ent_o rfl (ok_loadBS (k := 0) ti27 rfl rfl rfl) ?_
 refine ent_o rfl (ok_call (cCheck_ok c) rfl) ?_
 refine emm rfl ?_
 refine enk K3 ?_
 refine esr rfl fun _ K4 => ?_
 refine ent_o rfl (ok_neq rfl rfl) ?_
 refine enk K4 ?_
 refine ent_condD rfl (fun h12 => ?_) (fun h12 => ?_)
 ·refine esk rfl ?_
  refine ent_ret ?_
  exact retR2 (.inr rfl) Try.results65 (resr_tmp (res_cv rfl (cv_any))) (resr_tmp (res_cv rfl (cv_int (by unfold wrdE; first | (rw [if_neg h12]; done) | (rw [if_pos (Classical.not_not.1 h12)]; done)))))
 ·refine esp K2 ?_
  refine esr rfl fun _ K6 => ?_
  refine ent_o rfl (ok_fieldAddrEx Try.runUnderlying27 rfl Try.sizeOf24 (by decide) rfl) ?_
  refine ent_o rfl (ok_loadBS (k := 0) ti24 rfl rfl rfl) ?_
  refine ent_o rfl (ok_call (CtrF.ctr (New_ok c.F (codE_zero.1 (Classical.not_not.1 h12)).fld)) rfl) ?_
  refine emm rfl ?_
  refine ent_o rfl (ok_extract rfl rfl) ?_
  refine ent_o rfl (ok_extract rfl rfl) ?_
  refine emm rfl ?_
  refine enk K6 ?_
  refine esr rfl fun _ K7 => ?_
  refine ent_o rfl (ok_fieldAddrEx Try.runUnderlying27 rfl Try.sizeOf3 (by decide) rfl) ?_
  refine ent_o rfl (ok_loadB (k := 0) Try.isAgg3 rfl rfl rfl) ?_
  refine ent_o rfl (ok_call (eEntries_ok c.F y c.N) rfl) ?_
  refine emm rfl ?_
  refine enk K7 ?_
  refine ent_ret ?_
  exact retR2 (.inr rfl) Try.results65 (resr_tmp (res_cv rfl (cv_any))) (resr_tmp (res_cv rfl (cv_int (by unfold wrdE; first | (rw [if_neg h12]; done) | (rw [if_pos (Classical.not_not.1 h12)]; done)))))

theorem eNearest_ok (c : Cod) (y : List Int)  : Ctr Try.prog 29 [aCod c, aSl 1 false aInt y] (aTup [aSl 1 false aInt (neW c y), aInt (neV c y), aInt (neE c y)]) := by
 refine ctrM_of Try.call29 Try.func29 rfl rfl ?_
 intro w O
 refine ent_lenC 0 2 rfl rfl (fun hlen0_2 => ?_)
 refine ent_lenC 0 4 rfl rfl (fun hlen0_4 => ?_)
 refine ent_len 1 rfl (fun hlen1 => ?_)
 refine esr rfl fun _ K1 => ?_
 refine ent_boxS rfl rfl (AllOne.mem ⟨(one_int _), (one_int _), one_sl, (one_int _), one_sl, trivial⟩) (fun b2_1 => ?_)
 refine ent_box1 rfl rfl one_sl (fun b3_2 => ?_)
 refine emm rfl ?_
 refine enk K1 ?_
 refine ent_seq fun _ K2 => ?_
 refine esr rfl fun _ K3 => ?_
 refine ent_o rfl (ok_loadBS (k := 1) ti27 rfl rfl rfl) ?_
 refine ent_o rfl (ok_loadB (k := 0) Try.isAgg22 rfl rfl rfl) ?_
 refine ent_o rfl (ok_call (rcv_any c y) rfl) ?_
 refine emm rfl ?_
 refine ent_o rfl (ok_extract rfl rfl) ?_
 refine ent_o rfl (ok_extract rfl rfl) ?_
 refine emm rfl ?_
 refine enk K3 ?_
 refine esr rfl fun _ K4 => ?_
 refine ent_o rfl (ok_neq rfl rfl) ?_
 refine enk K4 ?_
 refine ent_condD rfl (fun h23 => ?_) (fun h23 => ?_)
 ·have he : neE c y = wrdE c y := if_neg h23
  have hl : neV c y = 0 ∧ neW c y = [] := ⟨if_neg (by rw [he]; exact h23), if_neg (by rw [he]; exact h23)⟩
  refine esk rfl ?_
  refine ent_ret ?_
  refine ent_leave0 (.inr rfl) ?_
  exact retR3 (.inr rfl) Try.results29 (resr_tmp (res_cv rfl (cv_nil (fun _ => rfl) (by first | (rw [hl.2]; done) | (rw [hl.2]; exact hw))))) (resr_tmp (res_cv rfl (cv_int (by first | (rw [hl.1]; done) | (rw [hl.1]; exact hb))))) (resr_tmp (res_cv rfl (cv_int (by exact he.symm))))
 ·have hw0 := Classical.not_not.1 h23
  have hoe2 : neE c y = sizE c := if_pos hw0
  refine esp K2 ?_
  refine ent_seq fun _ K6 => ?_
  refine esr rfl fun _ K7 => ?_
  refine ent_o rfl (ok_loadBS (k := 1) ti27 rfl rfl rfl) ?_
  refine ent_o rfl (ok_call (cSize_ok c) rfl) ?_
  refine emm rfl ?_
  refine ent_o rfl (ok_extract rfl rfl) ?_
  refine ent_o rfl (ok_extract rfl rfl) ?_
  refine emm rfl ?_
  refine enk K7 ?_
  refine esr rfl fun _ K8 => ?_
  refine ent_o rfl (ok_neq rfl rfl) ?_
  refine enk K8 ?_
  refine ent_condD rfl (fun h31 => ?_) (fun h31 => ?_)
  ·have he := hoe2
   have hl : neV c y = 0 ∧ neW c y = [] := ⟨if_neg (by rw [he]; exact h31), if_neg (by rw [he]; exact h31)⟩
   refine esk rfl ?_
   refine ent_ret ?_
   refine ent_leave0 (.inr rfl) ?_
   exact retR3 (.inr rfl) Try.results29 (resr_tmp (res_cv rfl (cv_nil (fun _ => rfl) (by first | (rw [hl.2]; done) | (rw [hl.2]; exact hw))))) (resr_tmp (res_cv rfl (cv_int (by first | (rw [hl.1]; done) | (rw [hl.1]; exact hb))))) (resr_tmp (res_cv rfl (cv_int (by exact he.symm))))
  ·have hs := Classical.not_not.1 h31
   have hk := (sizE_zero.1 hs).1
   have hsv := sizV_ok hs
   have hsq := (sizE_zero.1 hs).2
   have hn1 := hk.n1
   have hn64 := hk.n64
   have hq1 := pow_pos_of c.F.q hk.q2 c.Gen.length
   have hyl : (y.length : Int) = c.N := (wrdE_zero.1 hw0).2.1
   have he : neE c y = 0 := hoe2.trans hs
   have hl : neV c y = bstV (fun z => dst (c.w z) y) (fun _ => true) (c.N + 1) c.n ∧ neW c y = bstW c.w (fun z => dst (c.w z) y) (fun _ => true) c.n := ⟨if_pos he, if_pos he⟩
   refine esp K6 ?_
   refine esr rfl fun _ K10 => ?_
   refine ent_o rfl (ok_fieldAddrEx Try.runUnderlying27 rfl Try.sizeOf3 (by decide) rfl) ?_
   refine ent_o rfl (ok_loadB (k := 1) Try.isAgg3 rfl rfl rfl) ?_
   refine ent_o rfl (ok_add rfl rfl (by omega) (by omega)) ?_
   refine ent_alloc (z := (.int .i64 0)) [aInt 0] rfl zv3 rfl zc3 (fun b11_3 => ?_)
   refine ent_storeB (k := 0) Try.sizeOf3 rfl rfl rfl (one_int _) rfl ?_
   refine enk K10 ?_
   refine esr rfl fun _ K11 => ?_
   refine ent_alloc (z := (.slice none 0 0)) [aEx (.slice none 0 0)] rfl zv22 rfl zc22 (fun b12_4 => ?_)
   refine enk K11 ?_
   refine ent_seq fun _ K12 => ?_
   refine ent_seq fun _ K13 => ?_
   refine ent_cellNil (enc := aInt) (sz := 1) (agg := false) 0 (fun _ => rfl) rfl ?_
   show Ent _ ⟨_, [_, _, _, _]⟩ _
   refine ent_region ?_
   refine ent_o rfl (ok_loadBS (k := 3) ti27 rfl rfl rfl) ?_
   refine ent_o rfl (ok_call (Walk_ok c) rfl) ?_
   refine enk K13 ?_
   refine ent_block ?_
   refine ent_rangeFn (p1 := 38) (p2 := 39) [(3, aEx (.pointer (some ⟨b3_2, 0, none⟩))), (11, aEx (.pointer (some ⟨b11_3, 0, none⟩))), (12, aEx (.pointer (some ⟨b12_4, 0, none⟩))), (37, aClo 79 [aAt 5 true (aCod c)])] (fun (ii : Int) => [(3, aEx (.pointer (some ⟨b3_2, 0, none⟩))), (11, aEx (.pointer (some ⟨b11_3, 0, none⟩))), (12, aEx (.pointer (some ⟨b12_4, 0, none⟩))), (14, aSl 1 false aInt (wdF c.F c.N c.Gen ii))]) (fun (ss : Int × List Int) => match ss with | (best, ws) => ([oBox b12_4 22 [aSl 1 false aInt ws], oBox b11_3 3 [aInt best], oBox b3_2 22 [aSl 1 false aInt y], oBox b2_1 27 [aInt c.F.P, aInt c.F.M, aSl 1 false aInt c.F.mod, aInt c.N, aSl 1 false aInts c.Gen]] : List Own)) (fun (ii : Int) => fun (ss : Int × List Int) => match ss with | (best, ws) => (best = bstV (fun z => dst (c.w z) y) (fun _ => true) (c.N + 1) ii.toNat) ∧ (ws = bstW c.w (fun z => dst (c.w z) y) (fun _ => true) ii.toNat)) (c.F.q ^ c.Gen.length) (fun (ii : Int) => aSl 1 false aInt (wdF c.F c.N c.Gen ii)) (c.N + 1, []) rfl rfl rfl rfl (fun l T hY => Walk1_ok c l T _ _ hk hsq ⟨rfl, rfl⟩ hY) (ent_rep ⟨rfl, rfl, rfl, rfl, trivial⟩ rfl) ?_ ?_ ?_
   ·rintro l ii ⟨best, ws⟩ hi0 hi1 ⟨hb, hw⟩ w' X' M' KK hKK
    show Ent _ ⟨_ :: _, [_, _, _, _]⟩ _
    refine entI_region (fun _ _ h => h) rfl ?_
    refine emm rfl ?_
    refine ent_nil ?_
    exact ent_kk hKK (ent_rep ⟨rfl, rfl, rfl, rfl, trivial⟩ rfl)
   ·rintro l ii ⟨best, ws⟩ hi0 hi1 ⟨hb, hw⟩ w' X' M'
    show Ent _ ⟨_, [_, _, _, _]⟩ _
    have hwl := hk.wdl ii
    have hzz : ∀ z, 0 ≤ dst (c.w z) y ∧ dst (c.w z) y < c.N + 1 := fun z => by have h1 := dst_le (c.w z) y; have h2 := hk.wdl z; have h3 : ((c.w z).length : Int) = c.N := h2; exact ⟨(dst_bd (c.w z) y).1, by omega⟩
    refine entI_block ?_
    refine entI_seq fun _ K14 => ?_
    refine entI_region (fun _ _ h => h) rfl ?_
    refine emm rfl ?_
    refine ent_o rfl (ok_loadB (k := 2) Try.isAgg22 rfl rfl rfl) ?_
    refine ent_o rfl (ok_call (distance_ok (wdF c.F c.N c.Gen ii) y (by omega)) rfl) ?_
    refine emm rfl ?_
    refine ent_nil ?_
    refine entI_k K14 ?_
    refine entI_seq fun _ K15 => ?_
    refine entI_region (fun _ _ h => h) rfl ?_
    refine emm rfl ?_
    refine ent_o rfl (ok_loadB (k := 1) Try.isAgg3 rfl rfl rfl) ?_
    refine ent_o rfl (ok_lss rfl rfl) ?_
    refine ent_nil ?_
    refine entI_k K15 ?_
    refine entI_condD rfl (fun h45 => ?_) (fun h45 => ?_)
    ·have hy := bst_yes (g := (fun z => dst (c.w z) y)) (p := (fun _ => true)) (z := c.N + 1) (wd := c.w) hi0 rfl (by rw [← hb]; exact h45)
     refine entI_region (fun _ _ h => h) rfl ?_
     refine emm rfl ?_
     refine ent_storeB (k := 1) Try.sizeOf3 rfl rfl rfl (one_int _) rfl ?_
     refine ent_storeB (k := 0) Try.sizeOf22 rfl rfl rfl one_sl rfl ?_
     refine ent_nil ?_
     exact ent_roundEnd (dst (wdF c.F c.N c.Gen ii) y, wdF c.F c.N c.Gen ii) ⟨(by first | exact hy.1 | exact hb.trans hy.1), (by first | exact hy.2 | exact hw.trans hy.2)⟩ (ent_rep trivial rfl)
    ·have hy := bst_no (g := (fun z => dst (c.w z) y)) (p := (fun _ => true)) (z := c.N + 1) (wd := c.w) hi0 (fun _ => (hzz ii).2) (fun h => h45 (by rw [hb]; exact h.2))
     refine entI_skip ?_
     exact ent_roundEnd (best, ws) ⟨(by first | exact hy.1 | exact hb.trans hy.1), (by first | exact hy.2 | exact hw.trans hy.2)⟩ (ent_rep trivial rfl)
   rintro D37 ⟨best, ws⟩ ⟨hb, hw⟩
   show Ent _ ⟨_, [_, _, _, _, _]⟩ _
   refine ent_k K12 ?_
   refine ent_seq fun _ K16 => ?_
   refine ent_draw 5 mixed (by kernel_rfl) (by kernel_rfl) (by kernel_rfl) ?_
   refine dw_o rfl (ok_loadB (k := 1) Try.isAgg22 rfl rfl rfl) ?_
   refine dw_o rfl (ok_loadB (k := 2) Try.isAgg3 rfl rfl rfl) ?_
   refine dw_o rfl (ok_assign rfl) ?_
   refine dw_o rfl (ok_assign rfl) ?_
   refine dw_o rfl (ok_assign rfl) ?_
   refine dw_nil ?_
   refine enk K16 ?_
   refine ent_ret ?_
   refine ent_leaveM (.inr rfl) ?_
   exact retR3 (.inr rfl) Try.results29 (resr_tmp (res_cv rfl (cv_sl sub_x (by first | (rw [hl.2]; done) | (rw [hl.2]; exact hw))))) (resr_tmp (res_cv rfl (cv_int (by first | (rw [hl.1]; done) | (rw [hl.1]; exact hb))))) (resr_tmp (res_cv rfl (cv_int (by exact he.symm))))

theorem eWithin_ok (c : Cod) (y : List Int) (t : Int)  : Ctr Try.prog 38 [aCod c, aSl 1 false aInt y, aInt t] (aTup [aSl 1 false aInts (wnL c y 0 t), aInt (wnE c y 0 t)]) := by
 refine ctrM_of Try.call38 Try.func38 rfl rfl ?_
 intro w O
 refine ent_lenC 0 2 rfl rfl (fun hlen0_2 => ?_)
 refine ent_lenC 0 4 rfl rfl (fun hlen0_4 => ?_)
 refine ent_len 1 rfl (fun hlen1 => ?_)
 refine esr rfl fun _ K1 => ?_
 refine ent_boxS rfl rfl (AllOne.mem ⟨(one_int _), (one_int _), one_sl, (one_int _), one_sl, trivial⟩) (fun b3_1 => ?_)
 refine ent_box1 rfl rfl one_sl (fun b4_2 => ?_)
 refine ent_box1 rfl rfl (one_int _) (fun b5_3 => ?_)
 refine emm rfl ?_
 refine enk K1 ?_
 refine ent_seq fun _ K2 => ?_
 refine esr rfl fun _ K3 => ?_
 refine ent_o rfl (ok_loadBS (k := 2) ti27 rfl rfl rfl) ?_
 refine ent_o rfl (ok_loadB (k := 1) Try.isAgg22 rfl rfl rfl) ?_
 refine ent_o rfl (ok_call (rcv_any c y) rfl) ?_
 refine emm rfl ?_
 refine ent_o rfl (ok_extract rfl rfl) ?_
 refine ent_o rfl (ok_extract rfl rfl) ?_
 refine emm rfl ?_
 refine enk K3 ?_
 refine esr rfl fun _ K4 => ?_
 refine ent_o rfl (ok_neq rfl rfl) ?_
 refine enk K4 ?_
 refine ent_condD rfl (fun h22 => ?_) (fun h22 => ?_)
 ·have he : wnE c y 0 t = wrdE c y := if_neg h22
  have hl : wnL c y 0 t = [] := if_neg (by rw [he]; exact h22)
  refine esk rfl ?_
  refine ent_ret ?_
  refine ent_leave0 (.inr rfl) ?_
  exact retR2 (.inr rfl) Try.results38 (resr_tmp (res_cv rfl (cv_nil (fun _ => rfl) (by first | (rw [hl]; done) | (rw [hl]; exact hx))))) (resr_tmp (res_cv rfl (cv_int (by exact he.symm))))
 ·have hw0 := Classical.not_not.1 h22
  have hoe : wnE c y 0 t = (if (0 < (0 : Int) ∨ c.N < t) ∨ t < 0 then 6 else sizE c) := if_pos hw0
  refine esp K2 ?_
  refine ent_seq fun _ K6 => ?_
  refine ent_seq fun _ K7 => ?_
  refine ent_cut (⟨[(3, aEx (.pointer (some ⟨b3_1, 0, none⟩))), (4, aEx (.pointer (some ⟨b4_2, 0, none⟩))), (5, aEx (.pointer (some ⟨b5_3, 0, none⟩))), (31, aBool (decide ((t < 0) ∨ (c.N < t))))], [oBox b5_3 3 [aInt t], oBox b4_2 22 [aSl 1 false aInt y], oBox b3_1 27 [aInt c.F.P, aInt c.F.M, aSl 1 false aInt c.F.mod, aInt c.N, aSl 1 false aInts c.Gen]]⟩) ?_ ?_
  ·refine ent_region ?_
   refine ent_o rfl (ok_loadB (k := 0) Try.isAgg3 rfl rfl rfl) ?_
   refine ent_o rfl (ok_lss rfl rfl) ?_
   refine emm rfl ?_
   refine ent_guardXDf rfl rfl rfl rfl (fun hg26 => ?_) (fun hg26 => ?_)
   ·refine ent_o rfl (ok_loadB (k := 0) Try.isAgg3 rfl rfl rfl) ?_
    refine ent_guardXT rfl rfl rfl rfl (decide_eq_false hg26) ?_
    refine ent_o rfl (ok_fieldAddrEx Try.runUnderlying27 rfl Try.sizeOf3 (by decide) rfl) ?_
    refine ent_guardXT rfl rfl rfl rfl (decide_eq_false hg26) ?_
    refine ent_o rfl (ok_loadB (k := 2) Try.isAgg3 rfl rfl rfl) ?_
    refine ent_guardXT rfl rfl rfl rfl (decide_eq_false hg26) ?_
    refine ent_o rfl (ok_gtr rfl rfl) ?_
    refine ent_o rfl (ok_pickF rfl (decide_eq_false hg26) rfl) ?_
    refine ent_nil ?_
    exact ent_rep ⟨rfl, rfl, rfl, slot_bool (dq_Q ((or_iff_right hg26).trans Iff.rfl)), trivial⟩ rfl
   ·refine ent_guardXF rfl rfl rfl rfl (decide_eq_true hg26) ?_
    refine ent_guardXF rfl rfl rfl rfl (decide_eq_true hg26) ?_
    refine ent_guardXF rfl rfl rfl rfl (decide_eq_true hg26) ?_
    refine ent_o rfl (ok_pickT rfl (decide_eq_true hg26) rfl) ?_
    refine ent_nil ?_
    exact ent_rep ⟨rfl, rfl, rfl, slot_bool (dq_T rfl (Or.inl hg26)), trivial⟩ rfl
  refine ent_k K7 ?_
  refine ent_condD rfl (fun h31 => ?_) (fun h31 => ?_)
  ·have he : wnE c y 0 t = 6 := by rw [hoe, if_pos (by omega)]
   have hl : wnL c y 0 t = [] := if_neg (by rw [he]; decide)
   refine esk rfl ?_
   refine ent_ret ?_
   refine ent_leave0 (.inr rfl) ?_
   exact retR2 (.inr rfl) Try.results38 (resr_tmp (res_cv rfl (cv_nil (fun _ => rfl) (by first | (rw [hl]; done) | (rw [hl]; exact hx))))) (resr_tmp (res_cv rfl (cv_int (by exact he.symm))))
  ·have hoe2 : wnE c y 0 t = sizE c := by rw [hoe, if_neg (by omega)]
   refine esp K6 ?_
   refine ent_seq fun _ K9 => ?_
   refine esr rfl fun _ K10 => ?_
   refine ent_o rfl (ok_loadBS (k := 2) ti27 rfl rfl rfl) ?_
   refine ent_o rfl (ok_call (cSize_ok c) rfl) ?_
   refine emm rfl ?_
   refine ent_o rfl (ok_extract rfl rfl) ?_
   refine ent_o rfl (ok_extract rfl rfl) ?_
   refine emm rfl ?_
   refine enk K10 ?_
   refine esr rfl fun _ K11 => ?_
   refine ent_o rfl (ok_neq rfl rfl) ?_
   refine enk K11 ?_
   refine ent_condD rfl (fun h38 => ?_) (fun h38 => ?_)
   ·have he := hoe2
    have hl : wnL c y 0 t = [] := if_neg (by rw [he]; exact h38)
    refine esk rfl ?_
    refine ent_ret ?_
    refine ent_leave0 (.inr rfl) ?_
    exact retR2 (.inr rfl) Try.results38 (resr_tmp (res_cv rfl (cv_nil (fun _ => rfl) (by first | (rw [hl]; done) | (rw [hl]; exact hx))))) (resr_tmp (res_cv rfl (cv_int (by exact he.symm))))
   ·have hs := Classical.not_not.1 h38
    have hk := (sizE_zero.1 hs).1
    have hsv := sizV_ok hs
    have hsq := (sizE_zero.1 hs).2
    have hn1 := hk.n1
    have hn64 := hk.n64
    have hq1 := pow_pos_of c.F.q hk.q2 c.Gen.length
    have hyl : (y.length : Int) = c.N := (wrdE_zero.1 hw0).2.1
    have he : wnE c y 0 t = 0 := hoe2.trans hs
    have hl : wnL c y 0 t = filTo (fun z => decide (dst (c.w z) y ≤ t)) c.w c.n := wn_pos he
    refine esp K9 ?_
    refine esr rfl fun _ K13 => ?_
    refine ent_alloc (z := (.slice none 0 0)) [aEx (.slice none 0 0)] rfl zv25 rfl zc25 (fun b12_4 => ?_)
    refine enk K13 ?_
    refine ent_seq fun _ K14 => ?_
    refine esr rfl fun _ K15 => ?_
    refine ent_o rfl (ok_loadBS (k := 3) ti27 rfl rfl rfl) ?_
    refine ent_o rfl (ok_call (Walk_ok c) rfl) ?_
    refine enk K15 ?_
    refine ent_block ?_
    refine ent_open 22 1 false aInts (fun _ => rfl) ?_
    refine ent_rangeFn (p1 := 42) (p2 := 43) [(4, aEx (.pointer (some ⟨b4_2, 0, none⟩))), (5, aEx (.pointer (some ⟨b5_3, 0, none⟩))), (12, aEx (.pointer (some ⟨b12_4, 0, none⟩))), (41, aClo 79 [aAt 5 true (aCod c)])] (fun (ii : Int) => [(4, aEx (.pointer (some ⟨b4_2, 0, none⟩))), (5, aEx (.pointer (some ⟨b5_3, 0, none⟩))), (12, aEx (.pointer (some ⟨b12_4, 0, none⟩))), (14, aSl 1 false aInt (wdF c.F c.N c.Gen ii))]) (fun (ss : List (List Int) × Option Nat × Nat) => match ss with | (xss, rr6, cc6) => ([oVec rr6 cc6 22 1 false aInts xss, oBox b12_4 25 [aEx (vec rr6 ((xss).length) cc6)], oBox b5_3 3 [aInt t], oBox b4_2 22 [aSl 1 false aInt y], oBox b3_1 27 [aInt c.F.P, aInt c.F.M, aSl 1 false aInt c.F.mod, aInt c.N, aSl 1 false aInts c.Gen]] : List Own)) (fun (ii : Int) => fun (ss : List (List Int) × Option Nat × Nat) => match ss with | (xss, rr6, cc6) => (xss = filTo (fun z => decide (dst (c.w z) y ≤ t)) c.w ii.toNat)) (c.F.q ^ c.Gen.length) (fun (ii : Int) => aSl 1 false aInt (wdF c.F c.N c.Gen ii)) ([], none, 0) rfl rfl rfl rfl (fun l T hY => Walk1_ok c l T _ _ hk hsq rfl hY) (ent_rep ⟨rfl, rfl, rfl, rfl, trivial⟩ (own_cons (rfl) (own_cons (own_box (av_cons ((by first | rfl | assumption | omega | (simp_all; done) | grind)) (rfl))) (rfl)))) ?_ ?_ ?_
    ·rintro l ii ⟨xss, rr6, cc6⟩ hi0 hi1 hx w' X' M' KK hKK
     show Ent _ ⟨_ :: _, [_, _, _, _, _]⟩ _
     refine entI_region (fun _ _ h => h) rfl ?_
     refine emm rfl ?_
     refine ent_nil ?_
     exact ent_kk hKK (ent_rep ⟨rfl, rfl, rfl, rfl, trivial⟩ rfl)
    ·rintro l ii ⟨xss, rr6, cc6⟩ hi0 hi1 hx w' X' M'
     show Ent _ ⟨_, [_, _, _, _, _]⟩ _
     have lxs := length_filTo_le (fun z => decide (dst (c.w z) y ≤ t)) c.w ii.toNat
     rw [show filTo (fun z => decide (dst (c.w z) y ≤ t)) c.w ii.toNat = xss from hx.symm] at lxs
     have hwl := hk.wdl ii
     refine entI_block ?_
     refine entI_seq fun _ K16 => ?_
     refine entI_draw 5 mixed rfl (by kernel_rfl) (by kernel_rfl) (by kernel_rfl) ?_
     refine dw_o rfl (ok_move rfl) ?_
     refine dw_o rfl (ok_loadB (k := 3) Try.isAgg22 rfl rfl rfl) ?_
     refine dw_o rfl (ok_call (distance_ok (wdF c.F c.N c.Gen ii) y (by omega)) rfl) ?_
     refine dw_o rfl (ok_loadB (k := 2) Try.isAgg3 rfl rfl rfl) ?_
     refine dw_o rfl (ok_leq rfl rfl) ?_
     refine dw_nil ?_
     refine entL_list (fun _ _ h => h) rfl ?_
     refine ent_nil ?_
     refine entI_k K16 ?_
     refine entI_condD rfl (fun h48 => ?_) (fun h48 => ?_)
     ·refine entI_region (fun _ _ h => h) rfl ?_
      refine ent_o rfl (ok_loadB (k := 1) Try.isAgg25 rfl rfl rfl) ?_
      refine emm rfl ?_
      refine ent_appendL (k := 0) (enc := aInts) (y := wdF c.F c.N c.Gen ii) rfl rfl vt25 rfl rfl (by first | rfl | assumption | (simp; done) | (simp_all; done) | omega) rfl ((elem_one one_sl)) (by first | omega | (simp only [List.length_append, List.length_cons, List.length_nil]; omega) | (simp; omega)) (by first | omega | (simp only [List.length_append, List.length_cons, List.length_nil]; omega) | (simp; omega)) (by decide) (fun b52_7 c52_7 => ?_)
      refine ent_storeB (k := 1) Try.sizeOf25 rfl rfl rfl (one_ex rfl) rfl ?_
      refine ent_nil ?_
      exact ent_roundEnd (xss ++ [wdF c.F c.N c.Gen ii], (some b52_7), c52_7) (by rw [hx]; first | exact filTo_yes hi0 (decide_eq_true h48) | exact filTo_no hi0 (decide_eq_false h48)) (ent_rep trivial (own_cons (rfl) (own_cons (own_box (av_cons (av_vec (congrArg List.length (show (xss ++ [wdF c.F c.N c.Gen ii]) = xss ++ [wdF c.F c.N c.Gen ii] by first | rfl | assumption | omega | (simp_all; done) | grind))) (rfl))) (rfl))))
     ·refine entI_skip ?_
      exact ent_roundEnd (xss, rr6, cc6) (by rw [hx]; first | exact filTo_yes hi0 (decide_eq_true h48) | exact filTo_no hi0 (decide_eq_false h48)) (ent_rep trivial rfl)
    rintro D41 ⟨xss, rr6, cc6⟩ hx
    show Ent _ ⟨_, [_, _, _, _, _, _]⟩ _
    refine ent_k K14 ?_
    refine esr rfl fun _ K17 => ?_
    refine ent_o rfl (ok_loadB (k := 2) Try.isAgg25 rfl rfl rfl) ?_
    refine emm rfl ?_
    refine enk K17 ?_
    refine ent_ret ?_
    refine ent_leaveM (.inr rfl) ?_
    exact retR2 (.inr rfl) Try.results38 (resr_tmp (res_cv rfl (cv_vec (k := 0) (off_x rfl) (by first | rfl | assumption | (simp; done) | (simp_all; done) | omega) (by first | (rw [hl]; done) | (rw [hl]; exact hx))))) (resr_tmp (res_cv rfl (cv_int (by exact he.symm))))

theorem rNear_ok (c : Cod) (y : List Int)  : Ctr Try.prog 30 [aCod c, aSl 1 false aInt y] (aTup [aSl 1 false aInts (if neE c y = 0 then (wds c.F c.N c.Gen) else []), aInt (neE c y)]) := by
 refine ctr_of Try.call30 Try.func30 rfl rfl ?_
 intro w O
 refine ent_lenC 0 2 rfl rfl (fun hlen0_2 => ?_)
 refine ent_lenC 0 4 rfl rfl (fun hlen0_4 => ?_)
 refine ent_len 1 rfl (fun hlen1 => ?_)
 refine esr rfl fun _ K1 => ?_
 refine ent_boxS rfl rfl (AllOne.mem ⟨(one_int _), (one_int _), one_sl, (one_int _), one_sl, trivial⟩) (fun b2_1 => ?_)
 refine emm rfl ?_
 refine enk K1 ?_
 refine esr rfl fun _ K2 => ?_
 refine ent_o rfl (ok_loadBS (k := 0) ti27 rfl rfl rfl) ?_
 refine emm rfl ?_
 refine ent_o rfl (ok_call (rWord_ok c y) rfl) ?_
 refine emm rfl ?_
 refine enk K2 ?_
 refine ent_seq fun _ K3 => ?_
 refine esr rfl fun _ K4 => ?_
 refine ent_o rfl (ok_neq rfl rfl) ?_
 refine enk K4 ?_
 refine ent_condD rfl (fun h11 => ?_) (fun h11 => ?_)
 ·have he : neE c y = wrdE c y := if_neg h11
  have hne : ¬ neE c y = 0 := by rw [he]; exact h11
  refine esk rfl ?_
  refine ent_ret ?_
  exact retR2 (.inr rfl) Try.results30 (resr_tmp (res_cv rfl (cv_nil (fun _ => rfl) (by rw [if_neg hne])))) (resr_tmp (res_cv rfl (cv_int (by exact he.symm))))
 ·have hoe2 : neE c y = sizE c := if_pos (Classical.not_not.1 h11)
  refine esp K3 ?_
  refine esr rfl fun _ K6 => ?_
  refine ent_o rfl (ok_loadBS (k := 0) ti27 rfl rfl rfl) ?_
  refine ent_o rfl (ok_call (rWords_ok c) rfl) ?_
  refine ent_o rfl (ok_extract rfl rfl) ?_
  refine ent_o rfl (ok_extract rfl rfl) ?_
  refine emm rfl ?_
  refine enk K6 ?_
  refine ent_ret ?_
  exact retR2 (.inr rfl) Try.results30 (resr_tmp (res_cv rfl (cv_sl sub_x (by rw [hoe2]; rfl)))) (resr_tmp (res_cv rfl (cv_int (by exact hoe2.symm))))

theorem rWithin_ok (c : Cod) (y : List Int) (lo hi : Int)  : Ctr Try.prog 22 [aCod c, aSl 1 false aInt y, aInt lo, aInt hi] (aTup [aSl 1 false aInts (wnL c y lo hi), aInt (wnE c y lo hi)]) := by
 refine ctr_of Try.call22 Try.func22 rfl rfl ?_
 intro w O
 refine ent_lenC 0 2 rfl rfl (fun hlen0_2 => ?_)
 refine ent_lenC 0 4 rfl rfl (fun hlen0_4 => ?_)
 refine ent_len 1 rfl (fun hlen1 => ?_)
 refine esr rfl fun _ K1 => ?_
 refine ent_boxS rfl rfl (AllOne.mem ⟨(one_int _), (one_int _), one_sl, (one_int _), one_sl, trivial⟩) (fun b4_1 => ?_)
 refine emm rfl ?_
 refine enk K1 ?_
 refine esr rfl fun _ K2 => ?_
 refine ent_o rfl (ok_loadBS (k := 0) ti27 rfl rfl rfl) ?_
 refine emm rfl ?_
 refine ent_o rfl (ok_call (rWord_ok c y) rfl) ?_
 refine emm rfl ?_
 refine enk K2 ?_
 refine ent_seq fun _ K3 => ?_
 refine esr rfl fun _ K4 => ?_
 refine ent_o rfl (ok_neq rfl rfl) ?_
 refine enk K4 ?_
 refine ent_condD rfl (fun h19 => ?_) (fun h19 => ?_)
 ·have he : wnE c y lo hi = wrdE c y := if_neg h19
  have hl : wnL c y lo hi = [] := if_neg (by rw [he]; exact h19)
  refine esk rfl ?_
  refine ent_ret ?_
  exact retR2 (.inr rfl) Try.results22 (resr_tmp (res_cv rfl (cv_nil (fun _ => rfl) (by first | (rw [hl]; done) | (rw [hl]; congr 1; omega))))) (resr_tmp (res_cv rfl (cv_int (by exact he.symm))))
 ·have hw0 := Classical.not_not.1 h19
  have hoe : wnE c y lo hi = (if (lo < 0 ∨ c.N < hi) ∨ hi < 0 then 6 else sizE c) := if_pos hw0
  refine esp K3 ?_
  refine ent_seq fun _ K6 => ?_
  refine ent_seq fun _ K7 => ?_
  refine ent_cut (⟨[(1, aSl 1 false aInt y), (2, aInt lo), (3, aInt hi), (4, aEx (.pointer (some ⟨b4_1, 0, none⟩))), (32, aBool (decide (((lo < 0) ∨ (c.N < hi)) ∨ (hi < 0))))], [oBox b4_1 27 [aInt c.F.P, aInt c.F.M, aSl 1 false aInt c.F.mod, aInt c.N, aSl 1 false aInts c.Gen]]⟩) ?_ ?_
  ·refine ent_region ?_
   refine emm rfl ?_
   refine ent_o rfl (ok_lss rfl rfl) ?_
   refine emm rfl ?_
   refine ent_guardXDf rfl rfl rfl rfl (fun hg23 => ?_) (fun hg23 => ?_)
   ·refine emm rfl ?_
    refine ent_guardXT rfl rfl rfl rfl (decide_eq_false hg23) ?_
    refine ent_o rfl (ok_fieldAddrEx Try.runUnderlying27 rfl Try.sizeOf3 (by decide) rfl) ?_
    refine ent_guardXT rfl rfl rfl rfl (decide_eq_false hg23) ?_
    refine ent_o rfl (ok_loadB (k := 0) Try.isAgg3 rfl rfl rfl) ?_
    refine ent_guardXT rfl rfl rfl rfl (decide_eq_false hg23) ?_
    refine ent_o rfl (ok_gtr rfl rfl) ?_
    refine ent_o rfl (ok_pickF rfl (decide_eq_false hg23) rfl) ?_
    refine emm rfl ?_
    refine ent_guardXDf rfl rfl rfl rfl (fun hg29 => ?_) (fun hg29 => ?_)
    ·refine emm rfl ?_
     refine ent_guardXT rfl rfl rfl rfl (decide_eq_false hg29) ?_
     refine ent_o rfl (ok_lss rfl rfl) ?_
     refine ent_o rfl (ok_pickF rfl (decide_eq_false hg29) rfl) ?_
     refine ent_nil ?_
     exact ent_rep ⟨rfl, rfl, rfl, rfl, slot_bool (dq_Q ((or_iff_right (fun h => h.elim hg23 hg29)).trans Iff.rfl)), trivial⟩ rfl
    ·refine ent_guardXF rfl rfl rfl rfl (decide_eq_true hg29) ?_
     refine ent_o rfl (ok_pickT rfl (decide_eq_true hg29) rfl) ?_
     refine ent_nil ?_
     exact ent_rep ⟨rfl, rfl, rfl, rfl, slot_bool (dq_T rfl (Or.inl (Or.inr hg29))), trivial⟩ rfl
   ·refine ent_guardXF rfl rfl rfl rfl (decide_eq_true hg23) ?_
    refine ent_guardXF rfl rfl rfl rfl (decide_eq_true hg23) ?_
    refine ent_guardXF rfl rfl rfl rfl (decide_eq_true hg23) ?_
    refine ent_o rfl (ok_pickT rfl (decide_eq_true hg23) rfl) ?_
    refine emm rfl ?_
    refine ent_guardXF rfl rfl rfl rfl rfl ?_
    refine ent_guardXF rfl rfl rfl rfl rfl ?_
    refine ent_o rfl (ok_pickT rfl rfl rfl) ?_
    refine ent_nil ?_
    exact ent_rep ⟨rfl, rfl, rfl, rfl, slot_bool (dq_T rfl (Or.inl (Or.inl hg23))), trivial⟩ rfl
  refine ent_k K7 ?_
  refine ent_condD rfl (fun h32 => ?_) (fun h32 => ?_)
  ·have he : wnE c y lo hi = 6 := by rw [hoe, if_pos h32]
   have hl : wnL c y lo hi = [] := if_neg (by rw [he]; decide)
   refine esk rfl ?_
   refine ent_ret ?_
   exact retR2 (.inr rfl) Try.results22 (resr_tmp (res_cv rfl (cv_nil (fun _ => rfl) (by first | (rw [hl]; done) | (rw [hl]; congr 1; omega))))) (resr_tmp (res_cv rfl (cv_int (by exact he.symm))))
  ·have hoe2 : wnE c y lo hi = sizE c := by rw [hoe, if_neg h32]
   refine esp K6 ?_
   refine esr rfl fun _ K9 => ?_
   refine ent_o rfl (ok_loadBS (k := 0) ti27 rfl rfl rfl) ?_
   refine ent_o rfl (ok_call (rWords_ok c) rfl) ?_
   refine emm rfl ?_
   refine ent_o rfl (ok_extract rfl rfl) ?_
   refine ent_o rfl (ok_extract rfl rfl) ?_
   refine emm rfl ?_
   refine enk K9 ?_
   refine ent_seq fun _ K10 => ?_
   refine esr rfl fun _ K11 => ?_
   refine ent_o rfl (ok_neq rfl rfl) ?_
   refine enk K11 ?_
   refine ent_condD rfl (fun h39 => ?_) (fun h39 => ?_)
   ·have he := hoe2
    have hl : wnL c y lo hi = [] := if_neg (by rw [he]; exact h39)
    refine esk rfl ?_
    refine ent_ret ?_
    exact retR2 (.inr rfl) Try.results22 (resr_tmp (res_cv rfl (cv_nil (fun _ => rfl) (by first | (rw [hl]; done) | (rw [hl]; congr 1; omega))))) (resr_tmp (res_cv rfl (cv_int (by exact he.symm))))
   ·have hs := Classical.not_not.1 h39
    have hk := (sizE_zero.1 hs).1
    have hsv := sizV_ok hs
    have hsq := (sizE_zero.1 hs).2
    have hn1 := hk.n1
    have hn64 := hk.n64
    have hq1 := pow_pos_of c.F.q hk.q2 c.Gen.length
    have he : wnE c y lo hi = 0 := hoe2.trans hs
    have hwe := wdsL_ok hs
    have hl : wnL c y lo hi = filTo (fun z => decide (lo ≤ dst (ix [] (wdsL c) z) y ∧ dst (ix [] (wdsL c) z) y ≤ hi)) (ix [] (wdsL c)) (wdsL c).length := by rw [hwe]; exact wn_ref he
    have lwn : (wdsL c).length = c.n := by rw [hwe]; exact wds_len c
    have hcn := hk.cn
    refine esp K10 ?_
    refine esr rfl fun _ K13 => ?_
    refine ent_buildN aInts [] rfl vt25 (by decide) (rfl) rfl (fun b41_2 => ?_)
    refine emm rfl ?_
    refine enk K13 ?_
    refine ent_seq fun _ K14 => ?_
    refine esk rfl ?_
    refine ent_block ?_
    refine ent_loop (fun (ss : Int × Option Nat × Nat) => match ss with | (i, rr3, cc3) => (⟨[(1, aSl 1 false aInt y), (2, aInt lo), (3, aInt hi), (11, aSl 1 false aInts (wdsL c)), (12, aEx (vec rr3 ((filTo (fun z => decide (lo ≤ dst (ix [] (wdsL c) z) y ∧ dst (ix [] (wdsL c) z) y ≤ hi)) (ix [] (wdsL c)) i.toNat).length) cc3)), (13, aInt i)], [oVec rr3 cc3 22 1 false aInts (filTo (fun z => decide (lo ≤ dst (ix [] (wdsL c) z) y ∧ dst (ix [] (wdsL c) z) y ≤ hi)) (ix [] (wdsL c)) i.toNat), oBox b4_1 27 [aInt c.F.P, aInt c.F.M, aSl 1 false aInt c.F.mod, aInt c.N, aSl 1 false aInts c.Gen]]⟩ : St)) (fun (ss : Int × Option Nat × Nat) => match ss with | (i, rr3, cc3) => (0 ≤ i) ∧ (i ≤ (wdsL c).length)) (fun (ss : Int × Option Nat × Nat) => match ss with | (i, rr3, cc3) => ((wdsL c).length - i).toNat) (0, (some b41_2), 0) ⟨(by first | rfl | assumption | omega | (simp_all; done) | grind), (by first | rfl | assumption | omega | (simp_all; done) | grind)⟩ (ent_rep ⟨rfl, rfl, rfl, rfl, slot_av (av_vec (congrArg List.length (show filTo (fun z => decide (lo ≤ dst (ix [] (wdsL c) z) y ∧ dst (ix [] (wdsL c) z) y ≤ hi)) (ix [] (wdsL c)) (0 : Int).toNat = [] by rfl).symm)), slot_av (av_int (show 0 = (0 : Int) by first | rfl | assumption | omega | (simp_all; done) | grind)), trivial⟩ (own_cons (own_vec (show filTo (fun z => decide (lo ≤ dst (ix [] (wdsL c) z) y ∧ dst (ix [] (wdsL c) z) y ≤ hi)) (ix [] (wdsL c)) (0 : Int).toNat = [] by rfl)) (rfl))) ?_
    rintro ⟨i, rr3, cc3⟩ ⟨h0, h1⟩
    show Ent _ ⟨_, [_, _]⟩ _
    have lfl := length_filTo_le (fun z => decide (lo ≤ dst (ix [] (wdsL c) z) y ∧ dst (ix [] (wdsL c) z) y ≤ hi)) (ix [] (wdsL c)) i.toNat
    refine ent_seq fun _ K16 => ?_
    refine esr rfl fun _ K17 => ?_
    refine ent_o rfl (ok_len rfl Try.runUnderlying25 rfl) ?_
    refine ent_o rfl (ok_lss rfl rfl) ?_
    refine enk K17 ?_
    refine ent_condD rfl (fun h45 => ?_) (fun h45 => ?_)
    ·refine esp K16 ?_
     refine ent_seq fun _ K18 => ?_
     refine ent_block ?_
     refine esr rfl fun _ K19 => ?_
     refine ent_o rfl (ok_index [] sl25 rfl rfl (by omega) (by omega)) ?_
     refine ent_o rfl (ok_load ti22 rfl) ?_
     refine emm rfl ?_
     refine ent_o rfl (ok_call (rDistance_ok (ix [] (wdsL c) i) y) rfl) ?_
     refine emm rfl ?_
     refine enk K19 ?_
     refine ent_seq fun _ K20 => ?_
     refine ent_cut (⟨[(1, aSl 1 false aInt y), (2, aInt lo), (3, aInt hi), (11, aSl 1 false aInts (wdsL c)), (12, aEx (vec rr3 ((filTo (fun z => decide (lo ≤ dst (ix [] (wdsL c) z) y ∧ dst (ix [] (wdsL c) z) y ≤ hi)) (ix [] (wdsL c)) i.toNat).length) cc3)), (13, aInt i), (61, aBool (decide ((lo ≤ (dst (ix [] (wdsL c) i) y)) ∧ ((dst (ix [] (wdsL c) i) y) ≤ hi))))], [oVec rr3 cc3 22 1 false aInts (filTo (fun z => decide (lo ≤ dst (ix [] (wdsL c) z) y ∧ dst (ix [] (wdsL c) z) y ≤ hi)) (ix [] (wdsL c)) i.toNat), oBox b4_1 27 [aInt c.F.P, aInt c.F.M, aSl 1 false aInt c.F.mod, aInt c.N, aSl 1 false aInts c.Gen]]⟩) ?_ ?_
     ·refine ent_region ?_
      refine emm rfl ?_
      refine ent_o rfl (ok_geq rfl rfl) ?_
      refine emm rfl ?_
      refine ent_guardXDt rfl rfl rfl rfl (fun hg57 => ?_) (fun hg57 => ?_)
      ·refine emm rfl ?_
       refine ent_guardXT rfl rfl rfl rfl (decide_eq_true hg57) ?_
       refine emm rfl ?_
       refine ent_guardXT rfl rfl rfl rfl (decide_eq_true hg57) ?_
       refine ent_o rfl (ok_leq rfl rfl) ?_
       refine ent_o rfl (ok_pickT rfl (decide_eq_true hg57) rfl) ?_
       refine ent_nil ?_
       exact ent_rep ⟨rfl, rfl, rfl, rfl, rfl, rfl, slot_bool (dq_Q ((and_iff_right hg57).trans Iff.rfl)), trivial⟩ rfl
      ·refine ent_guardXF rfl rfl rfl rfl (decide_eq_false hg57) ?_
       refine ent_guardXF rfl rfl rfl rfl (decide_eq_false hg57) ?_
       refine ent_o rfl (ok_pickF rfl (decide_eq_false hg57) rfl) ?_
       refine ent_nil ?_
       exact ent_rep ⟨rfl, rfl, rfl, rfl, rfl, rfl, slot_bool (dq_F rfl (fun h => hg57 h.1)), trivial⟩ rfl
     refine ent_k K20 ?_
     refine ent_condD rfl (fun h61 => ?_) (fun h61 => ?_)
     ·refine ent_region ?_
      refine emm rfl ?_
      refine ent_o rfl (ok_index [] sl25 rfl rfl (by omega) (by omega)) ?_
      refine ent_o rfl (ok_load ti22 rfl) ?_
      refine ent_appendL (k := 0) (enc := aInts) (y := ix [] (wdsL c) i) rfl rfl vt25 rfl rfl (by first | rfl | assumption | (simp; done) | (simp_all; done) | omega) rfl ((elem_one one_sl)) (by first | omega | (simp only [List.length_append, List.length_cons, List.length_nil]; omega) | (simp; omega)) (by first | omega | (simp only [List.length_append, List.length_cons, List.length_nil]; omega) | (simp; omega)) (by decide) (fun b68_4 c68_4 => ?_)
      refine emm rfl ?_
      refine enk K18 ?_
      refine ent_region ?_
      refine emm rfl ?_
      refine ent_o rfl (ok_add rfl rfl (by omega) (by omega)) ?_
      refine emm rfl ?_
      refine ent_nil ?_
      refine ent_again (s := (i, rr3, cc3)) (i + 1, (some b68_4), c68_4) ⟨(by first | rfl | assumption | omega | (simp_all; done) | grind), (by first | rfl | assumption | omega | (simp_all; done) | grind)⟩ (by first | omega | (dsimp only; omega)) (ent_rep ⟨rfl, rfl, rfl, rfl, slot_av (av_vec (congrArg List.length (show filTo (fun z => decide (lo ≤ dst (ix [] (wdsL c) z) y ∧ dst (ix [] (wdsL c) z) y ≤ hi)) (ix [] (wdsL c)) (i + 1).toNat = (filTo (fun z => decide (lo ≤ dst (ix [] (wdsL c) z) y ∧ dst (ix [] (wdsL c) z) y ≤ hi)) (ix [] (wdsL c)) i.toNat) ++ [ix [] (wdsL c) i] by first | exact (filTo_yes h0 (decide_eq_true h61)).symm | exact (filTo_no h0 (decide_eq_false h61)).symm).symm)), rfl, trivial⟩ (own_cons (own_vec (show filTo (fun z => decide (lo ≤ dst (ix [] (wdsL c) z) y ∧ dst (ix [] (wdsL c) z) y ≤ hi)) (ix [] (wdsL c)) (i + 1).toNat = (filTo (fun z => decide (lo ≤ dst (ix [] (wdsL c) z) y ∧ dst (ix [] (wdsL c) z) y ≤ hi)) (ix [] (wdsL c)) i.toNat) ++ [ix [] (wdsL c) i] by first | exact (filTo_yes h0 (decide_eq_true h61)).symm | exact (filTo_no h0 (decide_eq_false h61)).symm)) (rfl)))
     ·refine esp K18 ?_
      refine ent_region ?_
      refine emm rfl ?_
      refine ent_o rfl (ok_add rfl rfl (by omega) (by omega)) ?_
      refine emm rfl ?_
      refine ent_nil ?_
      refine ent_again (s := (i, rr3, cc3)) (i + 1, rr3, cc3) ⟨(by first | rfl | assumption | omega | (simp_all; done) | grind), (by first | rfl | assumption | omega | (simp_all; done) | grind)⟩ (by first | omega | (dsimp only; omega)) (ent_rep ⟨rfl, rfl, rfl, rfl, slot_av (av_vec (congrArg List.length (show filTo (fun z => decide (lo ≤ dst (ix [] (wdsL c) z) y ∧ dst (ix [] (wdsL c) z) y ≤ hi)) (ix [] (wdsL c)) (i + 1).toNat = filTo (fun z => decide (lo ≤ dst (ix [] (wdsL c) z) y ∧ dst (ix [] (wdsL c) z) y ≤ hi)) (ix [] (wdsL c)) i.toNat by first | exact (filTo_yes h0 (decide_eq_true h61)).symm | exact (filTo_no h0 (decide_eq_false h61)).symm).symm)), rfl, trivial⟩ (own_cons (own_vec (show filTo (fun z => decide (lo ≤ dst (ix [] (wdsL c) z) y ∧ dst (ix [] (wdsL c) z) y ≤ hi)) (ix [] (wdsL c)) (i + 1).toNat = filTo (fun z => decide (lo ≤ dst (ix [] (wdsL c) z) y ∧ dst (ix [] (wdsL c) z) y ≤ hi)) (ix [] (wdsL c)) i.toNat by first | exact (filTo_yes h0 (decide_eq_true h61)).symm | exact (filTo_no h0 (decide_eq_false h61)).symm)) (rfl)))
    ·refine ent_exit ?_
     refine ent_k K14 ?_
     refine esk rfl ?_
     refine ent_ret ?_
     exact retR2 (.inr rfl) Try.results22 (resr_tmp (res_cv rfl (cv_vec (k := 0) (off_x rfl) (by first | rfl | assumption | (simp; done) | (simp_all; done) | omega) (by first | (rw [hl]; done) | (rw [hl]; congr 1; omega))))) (resr_tmp (res_cv rfl (cv_int (by exact he.symm))))

theorem rNearest_ok (l : List (List Int)) (y : List Int) (o : Bool)  : Ctr Try.prog 26 [aSl 1 false aInts l, aSl 1 false aInt y, aBool o] (aTup [aSl 1 false aInt (bstW (ix [] l) (fun z => dst (ix [] l z) y) (fun z => !o || decide (¬ dst (ix [] l z) y = 0)) l.length), aInt (bstV (fun z => dst (ix [] l z) y) (fun z => !o || decide (¬ dst (ix [] l z) y = 0)) (-1) l.length)]) := by
 refine ctr_of Try.call26 Try.func26 rfl rfl ?_
 intro w O
 refine ent_len 0 rfl (fun hlen0 => ?_)
 refine ent_len 1 rfl (fun hlen1 => ?_)
 refine esk rfl ?_
 refine esk rfl ?_
 refine esk rfl ?_
 refine ent_seq fun _ K4 => ?_
 refine ent_seq fun _ K5 => ?_
 refine ent_cv (A' := aSl 1 false aInt []) 9 rfl (cv_nil (fun _ => rfl) rfl) ?_
 refine ent_region ?_
 refine emm rfl ?_
 refine enk K5 ?_
 refine ent_block ?_
 refine ent_loop (fun (i : Int) => (⟨[(0, aSl 1 false aInts l), (1, aSl 1 false aInt y), (2, aBool o), (8, aInt (bstV (fun z => dst (ix [] l z) y) (fun z => !o || decide (¬ dst (ix [] l z) y = 0)) (-1) i.toNat)), (9, aSl 1 false aInt (bstW (ix [] l) (fun z => dst (ix [] l z) y) (fun z => !o || decide (¬ dst (ix [] l z) y = 0)) i.toNat)), (10, aInt i)], []⟩ : St)) (fun (i : Int) => (0 ≤ i) ∧ (i ≤ l.length)) (fun (i : Int) => (l.length - i).toNat) 0 ⟨(by first | rfl | assumption | omega | (simp_all; done) | grind), (by first | rfl | assumption | omega | (simp_all; done) | grind)⟩ (ent_rep ⟨rfl, rfl, rfl, slot_av (av_int (show (-1) = bstV (fun z => dst (ix [] l z) y) (fun z => !o || decide (¬ dst (ix [] l z) y = 0)) (-1) (0 : Int).toNat by rfl)), slot_av (av_sl (show [] = bstW (ix [] l) (fun z => dst (ix [] l z) y) (fun z => !o || decide (¬ dst (ix [] l z) y = 0)) (0 : Int).toNat by first | rfl | assumption | omega | (simp_all; done) | grind)), slot_av (av_int (show 0 = (0 : Int) by first | rfl | assumption | omega | (simp_all; done) | grind)), trivial⟩ rfl) ?_
 rintro i ⟨h0, h1⟩
 show Ent _ ⟨_, []⟩ _
 refine ent_seq fun _ K6 => ?_
 refine esr rfl fun _ K7 => ?_
 refine ent_o rfl (ok_len rfl Try.runUnderlying25 rfl) ?_
 refine ent_o rfl (ok_lss rfl rfl) ?_
 refine enk K7 ?_
 refine ent_condD rfl (fun h15 => ?_) (fun h15 => ?_)
 ·refine esp K6 ?_
  refine ent_seq fun _ K8 => ?_
  refine ent_block ?_
  refine esr rfl fun _ K9 => ?_
  refine ent_o rfl (ok_index [] sl25 rfl rfl (by omega) (by omega)) ?_
  refine ent_o rfl (ok_load ti22 rfl) ?_
  refine emm rfl ?_
  refine ent_o rfl (ok_call (rDistance_ok (ix [] l i) y) rfl) ?_
  refine emm rfl ?_
  refine enk K9 ?_
  refine ent_seq fun _ K10 => ?_
  refine ent_seq fun _ K11 => ?_
  refine ent_cut (⟨[(0, aSl 1 false aInts l), (1, aSl 1 false aInt y), (2, aBool o), (8, aInt (bstV (fun z => dst (ix [] l z) y) (fun z => !o || decide (¬ dst (ix [] l z) y = 0)) (-1) i.toNat)), (9, aSl 1 false aInt (bstW (ix [] l) (fun z => dst (ix [] l z) y) (fun z => !o || decide (¬ dst (ix [] l z) y = 0)) i.toNat)), (10, aInt i), (11, aInt (dst (ix [] l i) y)), (28, aBool (decide ((o = true) ∧ ((dst (ix [] l i) y) = 0))))], []⟩) ?_ ?_
  ·refine ent_region ?_
   refine emm rfl ?_
   refine ent_guardX rfl rfl rfl rfl (fun hg25 => ?_) (fun hg25 => ?_)
   ·refine emm rfl ?_
    refine ent_guardXT rfl rfl rfl rfl hg25 ?_
    refine ent_o rfl (ok_eql rfl rfl) ?_
    refine ent_o rfl (ok_pickT rfl hg25 rfl) ?_
    refine ent_nil ?_
    exact ent_rep ⟨rfl, rfl, rfl, rfl, rfl, rfl, rfl, slot_bool (dq_Q ((and_iff_right hg25).trans Iff.rfl)), trivial⟩ rfl
   ·refine ent_guardXF rfl rfl rfl rfl hg25 ?_
    refine ent_o rfl (ok_pickF rfl hg25 rfl) ?_
    refine ent_nil ?_
    exact ent_rep ⟨rfl, rfl, rfl, rfl, rfl, rfl, rfl, slot_bool (dq_F rfl (fun h => (nt_of hg25) h.1)), trivial⟩ rfl
  refine ent_k K11 ?_
  refine ent_condD rfl (fun h28 => ?_) (fun h28 => ?_)
  ·have hy := bst_skip (g := fun z => dst (ix [] l z) y) (p := fun z => !o || decide (¬ dst (ix [] l z) y = 0)) (z := -1) (wd := ix [] l) h0 (by simp [h28.1, h28.2])
   refine ent_exit ?_
   refine ent_k K8 ?_
   refine ent_region ?_
   refine emm rfl ?_
   refine ent_o rfl (ok_add rfl rfl (by omega) (by omega)) ?_
   refine emm rfl ?_
   refine ent_nil ?_
   refine ent_again (s := (i)) (i + 1) ⟨(by first | rfl | assumption | omega | (simp_all; done) | grind), (by first | rfl | assumption | omega | (simp_all; done) | grind)⟩ (by first | omega | (dsimp only; omega)) (ent_rep ⟨rfl, rfl, rfl, slot_av (av_int (show bstV (fun z => dst (ix [] l z) y) (fun z => !o || decide (¬ dst (ix [] l z) y = 0)) (-1) i.toNat = bstV (fun z => dst (ix [] l z) y) (fun z => !o || decide (¬ dst (ix [] l z) y = 0)) (-1) (i + 1).toNat by first | exact hy.1 | exact hy.1.symm)), slot_av (av_sl (show bstW (ix [] l) (fun z => dst (ix [] l z) y) (fun z => !o || decide (¬ dst (ix [] l z) y = 0)) i.toNat = bstW (ix [] l) (fun z => dst (ix [] l z) y) (fun z => !o || decide (¬ dst (ix [] l z) y = 0)) (i + 1).toNat by first | exact hy.2 | exact hy.2.symm)), rfl, trivial⟩ rfl)
  ·have hpp : (!o || decide (¬ dst (ix [] l i) y = 0)) = true := by cases o <;> simp_all
   refine esp K10 ?_
   refine ent_seq fun _ K12 => ?_
   refine ent_cut (⟨[(0, aSl 1 false aInts l), (1, aSl 1 false aInt y), (2, aBool o), (8, aInt (bstV (fun z => dst (ix [] l z) y) (fun z => !o || decide (¬ dst (ix [] l z) y = 0)) (-1) i.toNat)), (9, aSl 1 false aInt (bstW (ix [] l) (fun z => dst (ix [] l z) y) (fun z => !o || decide (¬ dst (ix [] l z) y = 0)) i.toNat)), (10, aInt i), (11, aInt (dst (ix [] l i) y)), (35, aBool (decide (((bstV (fun z => dst (ix [] l z) y) (fun z => !o || decide (¬ dst (ix [] l z) y = 0)) (-1) i.toNat) < 0) ∨ ((dst (ix [] l i) y) < (bstV (fun z => dst (ix [] l z) y) (fun z => !o || decide (¬ dst (ix [] l z) y = 0)) (-1) i.toNat)))))], []⟩) ?_ ?_
   ·refine ent_region ?_
    refine emm rfl ?_
    refine ent_o rfl (ok_lss rfl rfl) ?_
    refine emm rfl ?_
    refine ent_guardXDf rfl rfl rfl rfl (fun hg31 => ?_) (fun hg31 => ?_)
    ·refine emm rfl ?_
     refine ent_guardXT rfl rfl rfl rfl (decide_eq_false hg31) ?_
     refine emm rfl ?_
     refine ent_guardXT rfl rfl rfl rfl (decide_eq_false hg31) ?_
     refine ent_o rfl (ok_lss rfl rfl) ?_
     refine ent_o rfl (ok_pickF rfl (decide_eq_false hg31) rfl) ?_
     refine ent_nil ?_
     exact ent_rep ⟨rfl, rfl, rfl, rfl, rfl, rfl, rfl, slot_bool (dq_Q ((or_iff_right hg31).trans Iff.rfl)), trivial⟩ rfl
    ·refine ent_guardXF rfl rfl rfl rfl (decide_eq_true hg31) ?_
     refine ent_guardXF rfl rfl rfl rfl (decide_eq_true hg31) ?_
     refine ent_o rfl (ok_pickT rfl (decide_eq_true hg31) rfl) ?_
     refine ent_nil ?_
     exact ent_rep ⟨rfl, rfl, rfl, rfl, rfl, rfl, rfl, slot_bool (dq_T rfl (Or.inl hg31)), trivial⟩ rfl
   refine ent_k K12 ?_
   refine ent_condD rfl (fun h35 => ?_) (fun h35 => ?_)
   ·have hy := bstr_yes (g := fun z => dst (ix [] l z) y) (p := fun z => !o || decide (¬ dst (ix [] l z) y = 0)) (wd := ix [] l) h0 (fun z => (dst_bd _ _).1) hpp h35
    refine esk rfl ?_
    refine ent_region ?_
    refine emm rfl ?_
    refine ent_o rfl (ok_index [] sl25 rfl rfl (by omega) (by omega)) ?_
    refine ent_o rfl (ok_load ti22 rfl) ?_
    refine emm rfl ?_
    refine enk K8 ?_
    refine ent_region ?_
    refine emm rfl ?_
    refine ent_o rfl (ok_add rfl rfl (by omega) (by omega)) ?_
    refine emm rfl ?_
    refine ent_nil ?_
    refine ent_again (s := (i)) (i + 1) ⟨(by first | rfl | assumption | omega | (simp_all; done) | grind), (by first | rfl | assumption | omega | (simp_all; done) | grind)⟩ (by first | omega | (dsimp only; omega)) (ent_rep ⟨rfl, rfl, rfl, slot_av (av_int (show dst (ix [] l i) y = bstV (fun z => dst (ix [] l z) y) (fun z => !o || decide (¬ dst (ix [] l z) y = 0)) (-1) (i + 1).toNat by first | exact hy.1 | exact hy.1.symm)), slot_av (av_sl (show ix [] l i = bstW (ix [] l) (fun z => dst (ix [] l z) y) (fun z => !o || decide (¬ dst (ix [] l z) y = 0)) (i + 1).toNat by first | exact hy.2 | exact hy.2.symm)), rfl, trivial⟩ rfl)
   ·have hy := bstr_no (g := fun z => dst (ix [] l z) y) (p := fun z => !o || decide (¬ dst (ix [] l z) y = 0)) (wd := ix [] l) h0 h35
    refine esp K8 ?_
    refine ent_region ?_
    refine emm rfl ?_
    refine ent_o rfl (ok_add rfl rfl (by omega) (by omega)) ?_
    refine emm rfl ?_
    refine ent_nil ?_
    refine ent_again (s := (i)) (i + 1) ⟨(by first | rfl | assumption | omega | (simp_all; done) | grind), (by first | rfl | assumption | omega | (simp_all; done) | grind)⟩ (by first | omega | (dsimp only; omega)) (ent_rep ⟨rfl, rfl, rfl, slot_av (av_int (show bstV (fun z => dst (ix [] l z) y) (fun z => !o || decide (¬ dst (ix [] l z) y = 0)) (-1) i.toNat = bstV (fun z => dst (ix [] l z) y) (fun z => !o || decide (¬ dst (ix [] l z) y = 0)) (-1) (i + 1).toNat by first | exact hy.1 | exact hy.1.symm)), slot_av (av_sl (show bstW (ix [] l) (fun z => dst (ix [] l z) y) (fun z => !o || decide (¬ dst (ix [] l z) y = 0)) i.toNat = bstW (ix [] l) (fun z => dst (ix [] l z) y) (fun z => !o || decide (¬ dst (ix [] l z) y = 0)) (i + 1).toNat by first | exact hy.2 | exact hy.2.symm)), rfl, trivial⟩ rfl)
 ·refine ent_exit ?_
  refine ent_k K4 ?_
  refine esk rfl ?_
  refine ent_ret ?_
  exact retR2 (.inr rfl) Try.results26 (resr_tmp (res_cv rfl (cv_sl sub_x (by rw [show i.toNat = l.length by omega])))) (resr_tmp (res_cv rfl (cv_int (by rw [show i.toNat = l.length by omega]))))
end Go.Proofs.Ytbofipdmoocflaa

