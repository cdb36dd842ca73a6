/-
  Walks of functions of the program and the reference.
-/
import Derived.Test.YtbofipdmoocflaaProg
import Derived.Test.YtbofipdmoocflaaXTab
import Derived.Test.YtbofipdmoocflaaPlainJ2
import Derived.Test.YtbofipdmoocflaaCiLib
import Derived.Test.YtbofipdmoocflaaX4
import Derived.Test.YtbofipdmoocflaaX5
import Derived.Test.YtbofipdmoocflaaX6
import Derived.Test.YtbofipdmoocflaaX9
import Derived.Test.YtbofipdmoocflaaX1
import Derived.Test.YtbofipdmoocflaaX10
import Derived.Test.YtbofipdmoocflaaX11
import Derived.Test.YtbofipdmoocflaaX12
import Derived.Test.YtbofipdmoocflaaX13
import Derived.Test.YtbofipdmoocflaaX14
import Derived.Test.YtbofipdmoocflaaX15
import Derived.Test.YtbofipdmoocflaaX18
import Derived.Test.YtbofipdmoocflaaX19
import Derived.Test.YtbofipdmoocflaaX20
import Derived.Test.YtbofipdmoocflaaX30
import Derived.Test.YtbofipdmoocflaaX31
import Derived.Test.YtbofipdmoocflaaX32
import Derived.Test.YtbofipdmoocflaaX33
import Derived.Test.YtbofipdmoocflaaX35
import Derived.Test.YtbofipdmoocflaaX36
open Go Go.Cw
namespace Go.Proofs.Ytbofipdmoocflaa
set_option maxRecDepth 100000
set_option linter.unusedVariables false
set_option linter.unusedSimpArgs false
theorem eCoset_yes (c : Cod) (y : List Int) (hcd : codE c = 0) : Ctr Try.prog 35 [aCod c, aSl 1 false aInt y] (aTup [aSl 1 false aInt (coL c y), aInt (neE c y)]) := by
 refine ctrM_of Try.call35 Try.func35 rfl rfl ?_
 intro w O
 refine ent_lenC 0 2 rfl rfl (fun hlen0_2 => ?_)
 refine ent_lenC 0 4 rfl rfl (fun hlen0_4 => ?_)
 refine ent_len 1 rfl (fun hlen1 => ?_)
 refine esr rfl fun _ K1 => ?_
 refine ent_boxS rfl rfl (AllOne.mem ⟨(one_int _), (one_int _), one_sl, (one_int _), one_sl, trivial⟩) (fun b2_1 => ?_)
 refine emm rfl ?_
 refine enk K1 ?_
 refine esr rfl fun _ K2 => ?_
 refine ent_o rfl (ok_loadBS (k := 0) ti27 rfl rfl rfl) ?_
 refine emm rfl ?_
 refine ent_o rfl (ok_call (rcv_ok c y hcd) rfl) ?_
 refine emm rfl ?_
 refine ent_o rfl (ok_extract rfl rfl) ?_
 refine ent_o rfl (ok_extract rfl rfl) ?_
 refine emm rfl ?_
 refine enk K2 ?_
 refine ent_seq fun _ K3 => ?_
 refine esr rfl fun _ K4 => ?_
 refine ent_o rfl (ok_neq rfl rfl) ?_
 refine enk K4 ?_
 refine ent_condD rfl (fun h23 => ?_) (fun h23 => ?_)
 ·have he : neE c y = wrdE c y := if_neg h23
  have hl : coL c y = [] := coL_no (by rw [he]; exact h23)
  refine esk rfl ?_
  refine ent_ret ?_
  refine ent_leave0 (.inr rfl) ?_
  exact retR2 (.inr rfl) Try.results35 (resr_tmp (res_cv rfl (cv_nil (fun _ => rfl) (by first | (rw [hl]; done) | (rw [hx]; exact co_prog he))))) (resr_tmp (res_cv rfl (cv_int (by exact he.symm))))
 ·have hw0 := Classical.not_not.1 h23
  have hoe2 : neE c y = sizE c := if_pos hw0
  refine esp K3 ?_
  refine ent_seq fun _ K6 => ?_
  refine esr rfl fun _ K7 => ?_
  refine ent_o rfl (ok_loadBS (k := 0) ti27 rfl rfl rfl) ?_
  refine ent_o rfl (ok_call (cSize_ok c) rfl) ?_
  refine emm rfl ?_
  refine ent_o rfl (ok_extract rfl rfl) ?_
  refine ent_o rfl (ok_extract rfl rfl) ?_
  refine emm rfl ?_
  refine enk K7 ?_
  refine esr rfl fun _ K8 => ?_
  refine ent_o rfl (ok_neq rfl rfl) ?_
  refine enk K8 ?_
  refine ent_condD rfl (fun h31 => ?_) (fun h31 => ?_)
  ·have he := hoe2
   have hl : coL c y = [] := coL_no (by rw [he]; exact h31)
   refine esk rfl ?_
   refine ent_ret ?_
   refine ent_leave0 (.inr rfl) ?_
   exact retR2 (.inr rfl) Try.results35 (resr_tmp (res_cv rfl (cv_nil (fun _ => rfl) (by first | (rw [hl]; done) | (rw [hx]; exact co_prog he))))) (resr_tmp (res_cv rfl (cv_int (by exact he.symm))))
  ·have hs := Classical.not_not.1 h31
   have hk := (sizE_zero.1 hs).1
   have hsv := sizV_ok hs
   have hsq := (sizE_zero.1 hs).2
   have hn1 := hk.n1
   have hn64 := hk.n64
   have hq1 := pow_pos_of c.F.q hk.q2 c.Gen.length
   have hyl : (y.length : Int) = c.N := (wrdE_zero.1 hw0).2.1
   have hF := hk.fld
   have he : neE c y = 0 := hoe2.trans hs
   have lvn : (vneg c.F y).length = y.length := length_vneg _ _
   refine esp K6 ?_
   refine esr rfl fun _ K10 => ?_
   refine ent_o rfl (ok_fieldAddrEx Try.runUnderlying27 rfl Try.sizeOf3 (by decide) rfl) ?_
   refine ent_o rfl (ok_loadB (k := 0) Try.isAgg3 rfl rfl rfl) ?_
   refine ent_make aInt 0 rfl vt22 rfl rfl (by omega) (by omega) (by omega) (fun _ _ => rfl) (AllV.mem ⟨rfl, trivial⟩) (fun b35_2 => ?_)
   refine ent_alloc (z := (.slice none 0 0)) [aEx (.slice none 0 0)] rfl zv22 rfl zc22 (fun b10_3 => ?_)
   refine ent_storeB (k := 0) Try.sizeOf22 rfl rfl rfl (one_ex rfl) rfl ?_
   refine enk K10 ?_
   refine ent_seq fun _ K11 => ?_
   refine esr rfl fun _ K12 => ?_
   refine ent_o rfl (ok_len rfl Try.runUnderlying22 rfl) ?_
   refine emm rfl ?_
   refine enk K12 ?_
   refine ent_block ?_
   refine ent_loop (fun (i : Int) => (⟨[(2, aEx (.pointer (some ⟨b2_1, 0, none⟩))), (6, aGF c.F), (10, aEx (.pointer (some ⟨b10_3, 0, none⟩))), (36, aSl 1 false aInt y), (37, aInt (↑y.length : Int)), (38, aInt i)], [oBox b10_3 22 [aEx (vec (some b35_2) ((c.N).toNat) ((c.N).toNat))], oVec (some b35_2) ((c.N).toNat) 3 1 false aInt (mixL (vneg c.F y) (List.replicate (c.N).toNat 0) i), oBox b2_1 27 [aInt c.F.P, aInt c.F.M, aSl 1 false aInt c.F.mod, aInt c.N, aSl 1 false aInts c.Gen]]⟩ : St)) (fun (i : Int) => (0 ≤ i) ∧ (i ≤ y.length)) (fun (i : Int) => (y.length - i).toNat) 0 ⟨(by first | rfl | assumption | omega | (simp_all; done) | grind), (by first | rfl | assumption | omega | (simp_all; done) | grind)⟩ (ent_rep ⟨rfl, rfl, rfl, rfl, rfl, slot_av (av_int (show 0 = (0 : Int) by first | rfl | assumption | omega | (simp_all; done) | grind)), trivial⟩ (own_cons (rfl) (own_cons (own_vec (show mixL (vneg c.F y) (List.replicate (c.N).toNat 0) (0 : Int) = List.replicate ((c.N).toNat) 0 by exact mixL_zero _ _)) (rfl)))) ?_
   rintro i ⟨h0, h1⟩
   show Ent _ ⟨_, [_, _, _]⟩ _
   have lmx : (mixL (vneg c.F y) (List.replicate (c.N).toNat 0) i).length = (c.N).toNat := by rw [length_mixL _ _ (by simp; omega)]; simp
   refine esr rfl fun _ K13 => ?_
   refine ent_o rfl (ok_lss rfl rfl) ?_
   refine enk K13 ?_
   refine ent_seq fun _ K14 => ?_
   refine ent_condD rfl (fun h39 => ?_) (fun h39 => ?_)
   ·refine esp K14 ?_
    refine ent_seq fun _ K15 => ?_
    refine ent_block ?_
    refine esr rfl fun _ K16 => ?_
    refine ent_o rfl (ok_index 0 sl22 rfl rfl (by omega) (by omega)) ?_
    refine ent_o rfl (ok_load ti3 rfl) ?_
    refine emm rfl ?_
    refine enk K16 ?_
    refine ent_draw 6 mixed (by kernel_rfl) (by kernel_rfl) (by kernel_rfl) ?_
    refine dw_o rfl (ok_loadB (k := 0) Try.isAgg22 rfl rfl rfl) ?_
    refine dw_o rfl (ok_move rfl) ?_
    refine dw_o rfl (ok_move rfl) ?_
    refine dw_o rfl (ok_move rfl) ?_
    refine dw_o rfl (ok_call (Neg_ok c.F (ix 0 y i) (by first | rfl | assumption | omega | (simp_all; done) | grind)) rfl) ?_
    refine dw_o rfl (ok_indexV sl22 rfl rfl (by omega) (by omega)) ?_
    refine dw_nil ?_
    refine ent_storeV (k := 1) (z := negF c.F (ix 0 y i)) ti3 rfl rfl rfl (elem_one (one_int _)) (by omega) (by omega) ?_
    refine enk K15 ?_
    refine ent_region ?_
    refine ent_o rfl (ok_add rfl rfl (by omega) (by omega)) ?_
    refine emm rfl ?_
    refine ent_nil ?_
    refine ent_again (s := (i)) (i + 1) ⟨(by first | rfl | assumption | omega | (simp_all; done) | grind), (by first | rfl | assumption | omega | (simp_all; done) | grind)⟩ (by first | omega | (dsimp only; omega)) (ent_rep ⟨rfl, rfl, rfl, rfl, rfl, rfl, trivial⟩ (own_cons (rfl) (own_cons (own_vec (show mixL (vneg c.F y) (List.replicate (c.N).toNat 0) (i + 1) = List.set (mixL (vneg c.F y) (List.replicate (c.N).toNat 0) i) (i).toNat (negF c.F (ix 0 y i)) by exact (mixL_set _ _ h0 (by simp; omega) (by simp; omega) (ix_vneg h0 h39).symm).symm)) (rfl))))
   ·refine ent_exit ?_
    refine ent_k K11 ?_
    refine ent_seq fun _ K17 => ?_
    have hma : mixL (vneg c.F y) (List.replicate (c.N).toNat 0) i = vneg c.F y := mixL_all _ _ (by omega) (by simp; omega)
    rw [hma]
    refine ent_region ?_
    refine ent_o rfl (ok_fieldAddrEx Try.runUnderlying27 rfl Try.sizeOf3 (by decide) rfl) ?_
    refine ent_o rfl (ok_loadB (k := 2) Try.isAgg3 rfl rfl rfl) ?_
    refine ent_o rfl (ok_add rfl rfl (by omega) (by omega)) ?_
    refine ent_make aInt 0 rfl vt22 rfl rfl (by omega) (by omega) (by omega) (fun _ _ => rfl) (AllV.mem ⟨rfl, trivial⟩) (fun b53_4 => ?_)
    refine ent_alloc (z := (.slice none 0 0)) [aEx (.slice none 0 0)] rfl zv22 rfl zc22 (fun b13_5 => ?_)
    refine ent_storeB (k := 0) Try.sizeOf22 rfl rfl rfl (one_ex rfl) rfl ?_
    refine enk K17 ?_
    refine ent_seq fun _ K18 => ?_
    refine esr rfl fun _ K19 => ?_
    refine ent_o rfl (ok_loadBS (k := 4) ti27 rfl rfl rfl) ?_
    refine ent_o rfl (ok_call (Walk_ok c) rfl) ?_
    refine enk K19 ?_
    refine ent_block ?_
    refine ent_rangeFn (p1 := 56) (p2 := 57) [(10, aEx (.pointer (some ⟨b10_3, 0, none⟩))), (13, aEx (.pointer (some ⟨b13_5, 0, none⟩))), (55, aClo 79 [aAt 5 true (aCod c)])] (fun (ii : Int) => [(10, aEx (.pointer (some ⟨b10_3, 0, none⟩))), (13, aEx (.pointer (some ⟨b13_5, 0, none⟩))), (15, aSl 1 false aInt (wdF c.F c.N c.Gen ii))]) (fun (xs : List Int) => ([oBox b13_5 22 [aEx (vec (some b53_4) ((c.N + 1).toNat) ((c.N + 1).toNat))], oVec (some b53_4) ((c.N + 1).toNat) 3 1 false aInt xs, oBox b10_3 22 [aEx (vec (some b35_2) ((c.N).toNat) ((c.N).toNat))], oVec (some b35_2) ((c.N).toNat) 3 1 false aInt (vneg c.F y), oBox b2_1 27 [aInt c.F.P, aInt c.F.M, aSl 1 false aInt c.F.mod, aInt c.N, aSl 1 false aInts c.Gen]] : List Own)) (fun (ii : Int) => fun (xs : List Int) => (xs = hisTo (c.N + 1) (fun z => dst (c.w z) (vneg c.F y)) ii.toNat)) (c.F.q ^ c.Gen.length) (fun (ii : Int) => aSl 1 false aInt (wdF c.F c.N c.Gen ii)) (List.replicate ((c.N + 1).toNat) 0) rfl rfl rfl rfl (fun l T hY => Walk1_ok c l T _ _ hk hsq rfl hY) (ent_rep ⟨rfl, rfl, rfl, trivial⟩ rfl) ?_ ?_ ?_
    ·rintro l ii xs hi0 hi1 hx w' X' M' KK hKK
     show Ent _ ⟨_ :: _, [_, _, _, _, _]⟩ _
     refine entI_region (fun _ _ h => h) rfl ?_
     refine emm rfl ?_
     refine ent_nil ?_
     exact ent_kk hKK (ent_rep ⟨rfl, rfl, rfl, trivial⟩ rfl)
    ·rintro l ii xs hi0 hi1 hx w' X' M'
     show Ent _ ⟨_, [_, _, _, _, _]⟩ _
     have lxs : xs.length = (c.N + 1).toNat := by rw [hx]; exact length_hisTo _ _ _
     have hwb : 0 ≤ dst (wdF c.F c.N c.Gen ii) (vneg c.F y) ∧ dst (wdF c.F c.N c.Gen ii) (vneg c.F y) < c.N + 1 := dst_rng hk (vneg c.F y) ii
     have hhb := his_bd (n := c.N + 1) (g := fun z => dst (c.w z) (vneg c.F y)) (k := ii.toNat) (j := dst (wdF c.F c.N c.Gen ii) (vneg c.F y)) (fun i _ _ => dst_rng hk _ i) hwb.1 hwb.2
     rw [← hx] at hhb
     refine entI_block ?_
     refine entI_draw 8 mixed rfl (by kernel_rfl) (by kernel_rfl) (by kernel_rfl) ?_
     refine dw_o rfl (ok_loadB (k := 0) Try.isAgg22 rfl rfl rfl) ?_
     refine dw_o rfl (ok_move rfl) ?_
     refine dw_o rfl (ok_loadB (k := 2) Try.isAgg22 rfl rfl rfl) ?_
     refine dw_o rfl (ok_callP [3] (by exact pl_ex) (distance_ok (wdF c.F c.N c.Gen ii) (vneg c.F y) (by rw [hk.wl]; omega)) ⟨arg_a rfl (cv_id (sub_lent _)), arg_a rfl (cv_vec (k := 3) (off_lent rfl (by decide)) (by first | rfl | assumption | (simp; done) | (simp_all; done) | omega) (by first | rfl | assumption | omega | (simp_all; done) | grind)), trivial⟩) ?_
     refine dw_o rfl (ok_indexV sl22 rfl rfl (by omega) (by omega)) ?_
     refine dw_o rfl (ok_loadV (k := 1) 0 ti3 rfl rfl (by omega) (by omega)) ?_
     refine dw_o rfl (ok_add rfl rfl (by omega) (by omega)) ?_
     refine dw_o rfl (ok_indexV sl22 rfl rfl (by omega) (by omega)) ?_
     refine dw_nil ?_
     refine entL_list (fun _ _ h => h) rfl ?_
     refine ent_storeV (k := 1) (z := (ix 0 xs (dst (wdF c.F c.N c.Gen ii) (vneg c.F y))) + 1) ti3 rfl rfl rfl (elem_one (one_int _)) (by omega) (by omega) ?_
     refine ent_nil ?_
     exact ent_roundEnd (List.set xs (dst (wdF c.F c.N c.Gen ii) (vneg c.F y)).toNat ((ix 0 xs (dst (wdF c.F c.N c.Gen ii) (vneg c.F y))) + 1)) (by rw [hx, his_step hi0]) (ent_rep trivial rfl)
    rintro D55 xs hx
    show Ent _ ⟨_, [_, _, _, _, _, _]⟩ _
    refine ent_k K18 ?_
    refine esr rfl fun _ K20 => ?_
    refine ent_o rfl (ok_loadB (k := 1) Try.isAgg22 rfl rfl rfl) ?_
    refine emm rfl ?_
    refine enk K20 ?_
    refine ent_ret ?_
    refine ent_leaveM (.inr rfl) ?_
    exact retR2 (.inr rfl) Try.results35 (resr_tmp (res_cv rfl (cv_vec (k := 1) (off_x rfl) (by first | rfl | assumption | (simp; done) | (simp_all; done) | omega) (by first | (rw [hl]; done) | (rw [hx]; exact co_prog he))))) (resr_tmp (res_cv rfl (cv_int (by exact he.symm))))

theorem eCoset_no (c : Cod) (y : List Int) (hcd : codE c ≠ 0) : Ctr Try.prog 35 [aCod c, aSl 1 false aInt y] (aTup [aSl 1 false aInt (coL c y), aInt (neE c y)]) := by
 refine ctrM_of Try.call35 Try.func35 rfl rfl ?_
 intro w O
 refine ent_lenC 0 2 rfl rfl (fun hlen0_2 => ?_)
 refine ent_lenC 0 4 rfl rfl (fun hlen0_4 => ?_)
 refine ent_len 1 rfl (fun hlen1 => ?_)
 refine esr rfl fun _ K1 => ?_
 refine ent_boxS rfl rfl (AllOne.mem ⟨(one_int _), (one_int _), one_sl, (one_int _), one_sl, trivial⟩) (fun b2_1 => ?_)
 refine emm rfl ?_
 refine enk K1 ?_
 refine esr rfl fun _ K2 => ?_
 refine ent_o rfl (ok_loadBS (k := 0) ti27 rfl rfl rfl) ?_
 refine emm rfl ?_
 refine ent_o rfl (ok_call (rcv_no c y hcd) rfl) ?_
 refine emm rfl ?_
 refine ent_o rfl (ok_extract rfl rfl) ?_
 refine ent_o rfl (ok_extract rfl rfl) ?_
 refine emm rfl ?_
 refine enk K2 ?_
 refine ent_seq fun _ K3 => ?_
 refine esr rfl fun _ K4 => ?_
 refine ent_o rfl (ok_neq rfl rfl) ?_
 refine enk K4 ?_
 refine ent_condD rfl (fun h23 => ?_) (fun h23 => ?_)
 ·have he : neE c y = wrdE c y := if_neg h23
  have hl : coL c y = [] := coL_no (by rw [he]; exact h23)
  refine esk rfl ?_
  refine ent_ret ?_
  refine ent_leave0 (.inr rfl) ?_
  exact retR2 (.inr rfl) Try.results35 (resr_tmp (res_cv rfl (cv_nil (fun _ => rfl) (by rw [hl])))) (resr_tmp (res_cv rfl (cv_int (by exact he.symm))))
 ·exact absurd (codE_zero.2 (wrdE_zero.1 (Classical.not_not.1 h23)).1) hcd

theorem eCoset_ok (c : Cod) (y : List Int) : Ctr Try.prog 35 [aCod c, aSl 1 false aInt y] (aTup [aSl 1 false aInt (coL c y), aInt (neE c y)]) := by
 by_cases h : codE c = 0
 ·exact eCoset_yes c y h
 ·exact eCoset_no c y h

end Go.Proofs.Ytbofipdmoocflaa

