/-
  Walks of functions of the program and the reference.
-/
import Derived.Test.YtbofipdmoocflaaProg
import Derived.Test.YtbofipdmoocflaaXTab
import Derived.Test.YtbofipdmoocflaaPlainJ2
import Derived.Test.YtbofipdmoocflaaCiLib
import Derived.Test.YtbofipdmoocflaaX4
import Derived.Test.YtbofipdmoocflaaX5
import Derived.Test.YtbofipdmoocflaaX6
import Derived.Test.YtbofipdmoocflaaX9
import Derived.Test.YtbofipdmoocflaaX1
import Derived.Test.YtbofipdmoocflaaX10
import Derived.Test.YtbofipdmoocflaaX11
import Derived.Test.YtbofipdmoocflaaX12
import Derived.Test.YtbofipdmoocflaaX13
import Derived.Test.YtbofipdmoocflaaX14
import Derived.Test.YtbofipdmoocflaaX15
import Derived.Test.YtbofipdmoocflaaX18
import Derived.Test.YtbofipdmoocflaaX19
import Derived.Test.YtbofipdmoocflaaX20
import Derived.Test.YtbofipdmoocflaaX30
import Derived.Test.YtbofipdmoocflaaX31
import Derived.Test.YtbofipdmoocflaaX32
import Derived.Test.YtbofipdmoocflaaX33
import Derived.Test.YtbofipdmoocflaaX34
import Derived.Test.YtbofipdmoocflaaX35
import Derived.Test.YtbofipdmoocflaaX36
import Derived.Test.YtbofipdmoocflaaX38
import Derived.Test.YtbofipdmoocflaaX39
import Derived.Test.YtbofipdmoocflaaX43
open Go Go.Cw
namespace Go.Proofs.Ytbofipdmoocflaa
set_option maxRecDepth 100000
set_option linter.unusedVariables false
set_option linter.unusedSimpArgs false
theorem eSide_ok (c : Cod) (d : Bool) (hk : COk c) : Ctr Try.prog 75 [aCod c, aBool d] (aTup [aCod (sidV c d), aInt (sizE (sidC c d))]) := by
 have hn1 := hk.n1
 have hn64 := hk.n64
 have hln := hk.len
 have hqb := hk.fld.1.bd
 have hdd := hk.dim_dua
 refine ctr_of Try.call75 Try.func75 rfl rfl ?_
 intro w O
 refine ent_lenC 0 2 rfl rfl (fun hlen0_2 => ?_)
 refine ent_lenC 0 4 rfl rfl (fun hlen0_4 => ?_)
 refine esr rfl fun _ K1 => ?_
 refine ent_boxS rfl rfl (AllOne.mem ⟨(one_int _), (one_int _), one_sl, (one_int _), one_sl, trivial⟩) (fun b2_1 => ?_)
 refine ent_alloc (z := .agg #[.int .i64 0, .int .i64 0, .slice none 0 0, .int .i64 0, .slice none 0 0]) [aInt 0, aInt 0, aEx (.slice none 0 0), aInt 0, aEx (.slice none 0 0)] rfl zv27 rfl zc27 (fun b4_2 => ?_)
 refine emm rfl ?_
 refine enk K1 ?_
 refine esr rfl fun _ K2 => ?_
 refine ent_o rfl (ok_fieldAddrEx Try.runUnderlying27 rfl Try.sizeOf25 (by decide) rfl) ?_
 refine ent_o rfl (ok_loadB (k := 1) Try.isAgg25 rfl rfl rfl) ?_
 refine ent_o rfl (ok_len rfl Try.runUnderlying25 rfl) ?_
 refine emm rfl ?_
 refine enk K2 ?_
 refine ent_seq fun _ K3 => ?_
 refine esk rfl ?_
 refine ent_cond rfl (fun h14 => ?_) (fun h14 => ?_)
 ·have hse := side_size hk d (k := c.N - c.Gen.length) (by rw [if_pos h14])
  refine ent_region ?_
  refine ent_o rfl (ok_fieldAddrEx Try.runUnderlying27 rfl Try.sizeOf3 (by decide) rfl) ?_
  refine ent_o rfl (ok_loadB (k := 1) Try.isAgg3 rfl rfl rfl) ?_
  refine emm rfl ?_
  refine ent_o rfl (ok_sub rfl rfl (by omega) (by omega)) ?_
  refine emm rfl ?_
  refine enk K3 ?_
  refine esr rfl fun _ K5 => ?_
  refine ent_o rfl (ok_fieldAddrEx Try.runUnderlying27 rfl Try.sizeOf24 (by decide) rfl) ?_
  refine ent_o rfl (ok_loadBS (k := 1) ti24 rfl rfl rfl) ?_
  refine ent_o rfl (ok_call (CtrF.ctr (New_ok c.F hk.fld)) rfl) ?_
  refine emm rfl ?_
  refine ent_o rfl (ok_extract rfl rfl) ?_
  refine ent_o rfl (ok_extract rfl rfl) ?_
  refine emm rfl ?_
  refine enk K5 ?_
  refine ent_seq fun _ K6 => ?_
  refine esr rfl fun _ K7 => ?_
  refine ent_o rfl (ok_call (Order_ok c.F) rfl) ?_
  refine emm rfl ?_
  refine ent_o rfl (ok_call (Exp_ok c.F.q (c.N - (↑c.Gen.length : Int)) 65536 (by first | rfl | assumption | omega | (simp_all; done) | grind) (by first | rfl | assumption | omega | (simp_all; done) | grind) (by first | rfl | assumption | omega | (simp_all; done) | grind) (by first | rfl | assumption | omega | (simp_all; done) | grind) (by first | rfl | assumption | omega | (simp_all; done) | grind) (by first | rfl | assumption | omega | (simp_all; done) | grind)) rfl) ?_
  refine emm rfl ?_
  refine ent_o rfl (ok_extract rfl rfl) ?_
  refine ent_o rfl (ok_extract rfl rfl) ?_
  refine emm rfl ?_
  refine enk K7 ?_
  refine esr rfl fun _ K8 => ?_
  refine ent_o rfl (ok_neq rfl rfl) ?_
  refine enk K8 ?_
  refine ent_condD rfl (fun h33 => ?_) (fun h33 => ?_)
  ·have hsz := hse
   have h33s : sizE (sidC c d) ≠ 0 := by rw [hse]; exact h33
   refine esr rfl fun _ K9 => ?_
   refine ent_o rfl (ok_build st27 (As := [aInt 0, aInt 0, aEx (.slice none 0 0), aInt 0, aEx (.slice none 0 0)]) z27 (rfl)) ?_
   refine ent_storeBS (k := 0) Try.sizeOf27 rfl rfl rfl (AllOne.mem ⟨(one_int _), (one_int _), (one_ex rfl), (one_int _), (one_ex rfl), trivial⟩) rfl rfl ?_
   show Ent _ ⟨_, [_, _]⟩ _
   refine emm rfl ?_
   refine enk K9 ?_
   refine ent_ret ?_
   exact retR2 (.inr rfl) Try.results75 (resr_cell (k := 0) ti27 rfl rfl rfl (cv_agg ⟨cv_int (by first | (rw [sidV_no h33s]; rfl) | (rw [sidV_ok hz, sidC_yes h14]; done) | (rw [sidV_ok hz, sidC_no h14]; done)), cv_int (by first | (rw [sidV_no h33s]; rfl) | (rw [sidV_ok hz, sidC_yes h14]; done) | (rw [sidV_ok hz, sidC_no h14]; done)), cv_nil (fun _ => rfl) (by first | (rw [sidV_no h33s]; rfl) | (rw [sidV_ok hz, sidC_yes h14]; done) | (rw [sidV_ok hz, sidC_no h14]; done)), cv_int (by first | (rw [sidV_no h33s]; rfl) | (rw [sidV_ok hz, sidC_yes h14]; done) | (rw [sidV_ok hz, sidC_no h14]; done)), cv_nil (fun _ => rfl) (by first | (rw [sidV_no h33s]; rfl) | (rw [sidV_ok hz, sidC_yes h14]; done) | (rw [sidV_ok hz, sidC_no h14]; done)), trivial⟩)) (resr_tmp (res_cv rfl (cv_int (by first | exact hz.symm | (rw [hse]; exact (expE_err h33).symm)))))
  ·have hz : sizE (sidC c d) = 0 := by rw [hse]; exact Classical.not_not.1 h33
   refine esp K6 ?_
   refine ent_seq fun _ K10 => ?_
   refine esk rfl ?_
   refine ent_condTP rfl h14 ?_
   refine esr rfl fun _ K12 => ?_
   refine ent_o rfl (ok_loadBS (k := 1) ti27 rfl rfl rfl) ?_
   refine ent_o rfl (ok_call (Dual_ok c hk) rfl) ?_
   refine ent_o rfl (ok_extract rfl rfl) ?_
   refine ent_o rfl (ok_extract rfl rfl) ?_
   refine ent_storeBS (k := 0) Try.sizeOf27 rfl rfl rfl (AllOne.mem ⟨(one_int _), (one_int _), one_sl, (one_int _), one_sl, trivial⟩) rfl rfl ?_
   show Ent _ ⟨_, [_, _]⟩ _
   refine emm rfl ?_
   refine enk K12 ?_
   refine ent_ret ?_
   exact retR2 (.inr rfl) Try.results75 (resr_cell (k := 0) ti27 rfl rfl rfl (cv_agg ⟨cv_int (by first | (rw [sidV_no h33s]; rfl) | (rw [sidV_ok hz, sidC_yes h14]; done) | (rw [sidV_ok hz, sidC_no h14]; done)), cv_int (by first | (rw [sidV_no h33s]; rfl) | (rw [sidV_ok hz, sidC_yes h14]; done) | (rw [sidV_ok hz, sidC_no h14]; done)), cv_sl sub_x (by first | (rw [sidV_no h33s]; rfl) | (rw [sidV_ok hz, sidC_yes h14]; done) | (rw [sidV_ok hz, sidC_no h14]; done)), cv_int (by first | (rw [sidV_no h33s]; rfl) | (rw [sidV_ok hz, sidC_yes h14]; done) | (rw [sidV_ok hz, sidC_no h14]; done)), cv_sl sub_x (by first | (rw [sidV_no h33s]; rfl) | (rw [sidV_ok hz, sidC_yes h14]; done) | (rw [sidV_ok hz, sidC_no h14]; done)), trivial⟩)) (resr_tmp (res_cv rfl (cv_int (by first | exact hz.symm | (rw [hse]; exact (expE_err h33).symm)))))
 ·have hse := side_size hk d (k := (c.Gen.length : Int)) (by rw [if_neg (by simp [h14])])
  refine esp K3 ?_
  refine esr rfl fun _ K13 => ?_
  refine ent_o rfl (ok_fieldAddrEx Try.runUnderlying27 rfl Try.sizeOf24 (by decide) rfl) ?_
  refine ent_o rfl (ok_loadBS (k := 1) ti24 rfl rfl rfl) ?_
  refine ent_o rfl (ok_call (CtrF.ctr (New_ok c.F hk.fld)) rfl) ?_
  refine emm rfl ?_
  refine ent_o rfl (ok_extract rfl rfl) ?_
  refine ent_o rfl (ok_extract rfl rfl) ?_
  refine emm rfl ?_
  refine enk K13 ?_
  refine ent_seq fun _ K14 => ?_
  refine esr rfl fun _ K15 => ?_
  refine ent_o rfl (ok_call (Order_ok c.F) rfl) ?_
  refine emm rfl ?_
  refine ent_o rfl (ok_call (Exp_ok c.F.q (↑c.Gen.length : Int) 65536 (by first | rfl | assumption | omega | (simp_all; done) | grind) (by first | rfl | assumption | omega | (simp_all; done) | grind) (by first | rfl | assumption | omega | (simp_all; done) | grind) (by first | rfl | assumption | omega | (simp_all; done) | grind) (by first | rfl | assumption | omega | (simp_all; done) | grind) (by first | rfl | assumption | omega | (simp_all; done) | grind)) rfl) ?_
  refine emm rfl ?_
  refine ent_o rfl (ok_extract rfl rfl) ?_
  refine ent_o rfl (ok_extract rfl rfl) ?_
  refine emm rfl ?_
  refine enk K15 ?_
  refine esr rfl fun _ K16 => ?_
  refine ent_o rfl (ok_neq rfl rfl) ?_
  refine enk K16 ?_
  refine ent_condD rfl (fun h33 => ?_) (fun h33 => ?_)
  ·have hsz := hse
   have h33s : sizE (sidC c d) ≠ 0 := by rw [hse]; exact h33
   refine esr rfl fun _ K17 => ?_
   refine ent_o rfl (ok_build st27 (As := [aInt 0, aInt 0, aEx (.slice none 0 0), aInt 0, aEx (.slice none 0 0)]) z27 (rfl)) ?_
   refine ent_storeBS (k := 0) Try.sizeOf27 rfl rfl rfl (AllOne.mem ⟨(one_int _), (one_int _), (one_ex rfl), (one_int _), (one_ex rfl), trivial⟩) rfl rfl ?_
   show Ent _ ⟨_, [_, _]⟩ _
   refine emm rfl ?_
   refine enk K17 ?_
   refine ent_ret ?_
   exact retR2 (.inr rfl) Try.results75 (resr_cell (k := 0) ti27 rfl rfl rfl (cv_agg ⟨cv_int (by first | (rw [sidV_no h33s]; rfl) | (rw [sidV_ok hz, sidC_yes h14]; done) | (rw [sidV_ok hz, sidC_no h14]; done)), cv_int (by first | (rw [sidV_no h33s]; rfl) | (rw [sidV_ok hz, sidC_yes h14]; done) | (rw [sidV_ok hz, sidC_no h14]; done)), cv_nil (fun _ => rfl) (by first | (rw [sidV_no h33s]; rfl) | (rw [sidV_ok hz, sidC_yes h14]; done) | (rw [sidV_ok hz, sidC_no h14]; done)), cv_int (by first | (rw [sidV_no h33s]; rfl) | (rw [sidV_ok hz, sidC_yes h14]; done) | (rw [sidV_ok hz, sidC_no h14]; done)), cv_nil (fun _ => rfl) (by first | (rw [sidV_no h33s]; rfl) | (rw [sidV_ok hz, sidC_yes h14]; done) | (rw [sidV_ok hz, sidC_no h14]; done)), trivial⟩)) (resr_tmp (res_cv rfl (cv_int (by first | exact hz.symm | (rw [hse]; exact (expE_err h33).symm)))))
  ·have hz : sizE (sidC c d) = 0 := by rw [hse]; exact Classical.not_not.1 h33
   refine esp K14 ?_
   refine ent_seq fun _ K18 => ?_
   refine esk rfl ?_
   refine ent_condFP rfl h14 ?_
   refine esp K18 ?_
   refine esr rfl fun _ K20 => ?_
   refine ent_o rfl (ok_loadBS (k := 1) ti27 rfl rfl rfl) ?_
   refine ent_storeBS (k := 0) Try.sizeOf27 rfl rfl rfl (AllOne.mem ⟨(one_int _), (one_int _), one_sl, (one_int _), one_sl, trivial⟩) rfl rfl ?_
   show Ent _ ⟨_, [_, _]⟩ _
   refine emm rfl ?_
   refine enk K20 ?_
   refine ent_ret ?_
   exact retR2 (.inr rfl) Try.results75 (resr_cell (k := 0) ti27 rfl rfl rfl (cv_agg ⟨cv_int (by first | (rw [sidV_no h33s]; rfl) | (rw [sidV_ok hz, sidC_yes h14]; done) | (rw [sidV_ok hz, sidC_no h14]; done)), cv_int (by first | (rw [sidV_no h33s]; rfl) | (rw [sidV_ok hz, sidC_yes h14]; done) | (rw [sidV_ok hz, sidC_no h14]; done)), cv_sl sub_x (by first | (rw [sidV_no h33s]; rfl) | (rw [sidV_ok hz, sidC_yes h14]; done) | (rw [sidV_ok hz, sidC_no h14]; done)), cv_int (by first | (rw [sidV_no h33s]; rfl) | (rw [sidV_ok hz, sidC_yes h14]; done) | (rw [sidV_ok hz, sidC_no h14]; done)), cv_sl sub_x (by first | (rw [sidV_no h33s]; rfl) | (rw [sidV_ok hz, sidC_yes h14]; done) | (rw [sidV_ok hz, sidC_no h14]; done)), trivial⟩)) (resr_tmp (res_cv rfl (cv_int (by first | exact hz.symm | (rw [hse]; exact (expE_err h33).symm)))))

theorem eCheck_ok (c : Cod) (t : Tly)  : Ctr Try.prog 47 [aCod c, aTly t] (aInt (chkT c t)) := by
 refine ctr_of Try.call47 Try.func47 rfl rfl ?_
 intro w O
 refine ent_lenC 0 2 rfl rfl (fun hlen0_2 => ?_)
 refine ent_lenC 0 4 rfl rfl (fun hlen0_4 => ?_)
 refine ent_lenC 1 1 rfl rfl (fun hlen1_1 => ?_)
 refine esr rfl fun _ K1 => ?_
 refine ent_boxS rfl rfl (AllOne.mem ⟨(one_int _), (one_int _), one_sl, (one_int _), one_sl, trivial⟩) (fun b2_1 => ?_)
 refine ent_boxS rfl rfl (AllOne.mem ⟨(one_bool _), one_sl, trivial⟩) (fun b3_2 => ?_)
 refine emm rfl ?_
 refine enk K1 ?_
 refine ent_seq fun _ K2 => ?_
 refine esr rfl fun _ K3 => ?_
 refine ent_o rfl (ok_loadBS (k := 1) ti27 rfl rfl rfl) ?_
 refine ent_o rfl (ok_call (cCheck_ok c) rfl) ?_
 refine emm rfl ?_
 refine enk K3 ?_
 refine esr rfl fun _ K4 => ?_
 refine ent_o rfl (ok_neq rfl rfl) ?_
 refine enk K4 ?_
 refine ent_condD rfl (fun h12 => ?_) (fun h12 => ?_)
 ·refine esk rfl ?_
  refine ent_ret ?_
  exact retR1 (.inr rfl) Try.results47 (resr_tmp (res_cv rfl (cv_int (by exact (chkT_code h12).symm))))
 ·have hc0 := Classical.not_not.1 h12
  have hk := codE_zero.1 hc0
  refine esp K2 ?_
  refine esr rfl fun _ K6 => ?_
  refine ent_o rfl (ok_loadBS (k := 1) ti27 rfl rfl rfl) ?_
  refine ent_o rfl (ok_fieldAddrEx Try.runUnderlying68 rfl Try.sizeOf4 (by decide) rfl) ?_
  refine ent_o rfl (ok_loadB (k := 0) Try.isAgg4 rfl rfl rfl) ?_
  refine ent_o rfl (ok_call (eSide_ok c t.dual hk) rfl) ?_
  refine emm rfl ?_
  refine ent_o rfl (ok_extract rfl rfl) ?_
  refine ent_o rfl (ok_extract rfl rfl) ?_
  refine ent_alloc (z := .agg #[.int .i64 0, .int .i64 0, .slice none 0 0, .int .i64 0, .slice none 0 0]) [aInt 0, aInt 0, aEx (.slice none 0 0), aInt 0, aEx (.slice none 0 0)] rfl zv27 rfl zc27 (fun b6_3 => ?_)
  refine ent_storeBS (k := 0) Try.sizeOf27 rfl rfl rfl (AllOne.mem ⟨(one_int _), (one_int _), one_sl, (one_int _), one_sl, trivial⟩) rfl rfl ?_
  show Ent _ ⟨_, [_, _, _]⟩ _
  refine emm rfl ?_
  refine enk K6 ?_
  refine ent_seq fun _ K7 => ?_
  refine esr rfl fun _ K8 => ?_
  refine ent_o rfl (ok_neq rfl rfl) ?_
  refine enk K8 ?_
  refine ent_condD rfl (fun h22 => ?_) (fun h22 => ?_)
  ·refine esk rfl ?_
   refine ent_ret ?_
   exact retR1 (.inr rfl) Try.results47 (resr_tmp (res_cv rfl (cv_int (by exact (chkT_side hc0 h22).symm))))
  ·have hs0 := Classical.not_not.1 h22
   have hv := sidV_ok hs0
   refine esp K7 ?_
   refine esr rfl fun _ K10 => ?_
   refine ent_o rfl (ok_loadBS (k := 0) ti27 rfl rfl rfl) ?_
   refine ent_o rfl (ok_call (eWeights_ok (sidV c t.dual)) rfl) ?_
   refine emm rfl ?_
   refine ent_o rfl (ok_extract rfl rfl) ?_
   refine ent_o rfl (ok_extract rfl rfl) ?_
   refine emm rfl ?_
   refine enk K10 ?_
   refine ent_seq fun _ K11 => ?_
   refine ent_seq fun _ K12 => ?_
   refine ent_cut (⟨[(7, aInt (sizE (sidV c t.dual))), (37, aBool (decide (((sizE (sidV c t.dual)) = 0) ∧ (¬ ((wtsL (sidV c t.dual)) = t.count)))))], [oBox b6_3 27 [aInt ((sidV c t.dual).F.P), aInt ((sidV c t.dual).F.M), aSl 1 false aInt ((sidV c t.dual).F.mod), aInt ((sidV c t.dual).N), aSl 1 false aInts ((sidV c t.dual).Gen)], oBox b3_2 68 [aBool t.dual, aSl 1 false aInt t.count], oBox b2_1 27 [aInt c.F.P, aInt c.F.M, aSl 1 false aInt c.F.mod, aInt c.N, aSl 1 false aInts c.Gen]]⟩) ?_ ?_
   ·refine ent_region ?_
    refine emm rfl ?_
    refine ent_o rfl (ok_eql rfl rfl) ?_
    refine emm rfl ?_
    refine ent_guardXDt rfl rfl rfl rfl (fun hg31 => ?_) (fun hg31 => ?_)
    ·refine emm rfl ?_
     refine ent_guardXT rfl rfl rfl rfl (decide_eq_true hg31) ?_
     refine ent_o rfl (ok_fieldAddrEx Try.runUnderlying68 rfl Try.sizeOf22 (by decide) rfl) ?_
     refine ent_guardXT rfl rfl rfl rfl (decide_eq_true hg31) ?_
     refine ent_o rfl (ok_loadB (k := 1) Try.isAgg22 rfl rfl rfl) ?_
     refine ent_guardXT rfl rfl rfl rfl (decide_eq_true hg31) ?_
     refine ent_o rfl (ok_call (Equal_ok (wtsL (sidV c t.dual)) t.count) rfl) ?_
     refine ent_guardXT rfl rfl rfl rfl (decide_eq_true hg31) ?_
     refine ent_o rfl (ok_notD rfl) ?_
     refine ent_o rfl (ok_pickT rfl (decide_eq_true hg31) rfl) ?_
     refine ent_nil ?_
     exact ent_rep ⟨rfl, slot_bool (dq_Q ((and_iff_right hg31).trans Iff.rfl)), trivial⟩ rfl
    ·refine ent_guardXF rfl rfl rfl rfl (decide_eq_false hg31) ?_
     refine ent_guardXF rfl rfl rfl rfl (decide_eq_false hg31) ?_
     refine ent_guardXF rfl rfl rfl rfl (decide_eq_false hg31) ?_
     refine ent_guardXF rfl rfl rfl rfl (decide_eq_false hg31) ?_
     refine ent_o rfl (ok_pickF rfl (decide_eq_false hg31) rfl) ?_
     refine ent_nil ?_
     exact ent_rep ⟨rfl, slot_bool (dq_F rfl (fun h => hg31 h.1)), trivial⟩ rfl
   refine ent_k K12 ?_
   refine ent_condD rfl (fun h37 => ?_) (fun h37 => ?_)
   ·have hne : ¬ wtsL (sidC c t.dual) = t.count := by rw [← hv]; exact h37.2
    refine esk rfl ?_
    refine ent_ret ?_
    exact retR1 (.inr rfl) Try.results47 (resr_tmp (res_cv rfl (cv_int (by exact (chkT_no hc0 hs0 hne).symm))))
   ·have heq : wtsL (sidC c t.dual) = t.count := Classical.byContradiction fun hn => h37 ⟨by rw [hv]; exact hs0, by rw [hv]; exact hn⟩
    refine esp K11 ?_
    refine esk rfl ?_
    refine ent_ret ?_
    exact retR1 (.inr rfl) Try.results47 (resr_tmp (res_cv rfl (cv_int (by rw [hv, hs0]; exact (chkT_yes hc0 hs0 heq).symm))))

theorem rCheckT_ok (c : Cod) (t : Tly)  : Ctr Try.prog 48 [aCod c, aTly t] (aInt (chkT c t)) := by
 refine ctr_of Try.call48 Try.func48 rfl rfl ?_
 intro w O
 refine ent_lenC 0 2 rfl rfl (fun hlen0_2 => ?_)
 refine ent_lenC 0 4 rfl rfl (fun hlen0_4 => ?_)
 refine ent_lenC 1 1 rfl rfl (fun hlen1_1 => ?_)
 refine esr rfl fun _ K1 => ?_
 refine ent_boxS rfl rfl (AllOne.mem ⟨(one_int _), (one_int _), one_sl, (one_int _), one_sl, trivial⟩) (fun b2_1 => ?_)
 refine ent_boxS rfl rfl (AllOne.mem ⟨(one_bool _), one_sl, trivial⟩) (fun b3_2 => ?_)
 refine emm rfl ?_
 refine enk K1 ?_
 refine esr rfl fun _ K2 => ?_
 refine ent_o rfl (ok_loadBS (k := 1) ti27 rfl rfl rfl) ?_
 refine ent_o rfl (ok_call (rcCheck_ok c) rfl) ?_
 refine emm rfl ?_
 refine enk K2 ?_
 refine ent_seq fun _ K3 => ?_
 refine esr rfl fun _ K4 => ?_
 refine ent_o rfl (ok_neq rfl rfl) ?_
 refine enk K4 ?_
 refine ent_condD rfl (fun h10 => ?_) (fun h10 => ?_)
 ·refine esk rfl ?_
  refine ent_ret ?_
  exact retR1 (.inr rfl) Try.results48 (resr_tmp (res_cv rfl (cv_int (by exact (chkT_code h10).symm))))
 ·have hc0 := Classical.not_not.1 h10
  have hk := codE_zero.1 hc0
  refine esp K3 ?_
  refine esr rfl fun _ K6 => ?_
  refine ent_o rfl (ok_loadBS (k := 1) ti27 rfl rfl rfl) ?_
  refine ent_o rfl (ok_fieldAddrEx Try.runUnderlying68 rfl Try.sizeOf4 (by decide) rfl) ?_
  refine ent_o rfl (ok_loadB (k := 0) Try.isAgg4 rfl rfl rfl) ?_
  refine ent_o rfl (ok_call (rSide_ok c t.dual hk) rfl) ?_
  refine ent_o rfl (ok_call (rWeights_ok (sidC c t.dual)) rfl) ?_
  refine emm rfl ?_
  refine ent_o rfl (ok_extract rfl rfl) ?_
  refine ent_o rfl (ok_extract rfl rfl) ?_
  refine emm rfl ?_
  refine enk K6 ?_
  refine ent_seq fun _ K7 => ?_
  refine esr rfl fun _ K8 => ?_
  refine ent_o rfl (ok_neq rfl rfl) ?_
  refine enk K8 ?_
  refine ent_condD rfl (fun h21 => ?_) (fun h21 => ?_)
  ·refine esk rfl ?_
   refine ent_ret ?_
   exact retR1 (.inr rfl) Try.results48 (resr_tmp (res_cv rfl (cv_int (by exact (chkT_side hc0 h21).symm))))
  ·have hs0 := Classical.not_not.1 h21
   refine esp K7 ?_
   refine ent_seq fun _ K10 => ?_
   refine esr rfl fun _ K11 => ?_
   refine ent_o rfl (ok_fieldAddrEx Try.runUnderlying68 rfl Try.sizeOf22 (by decide) rfl) ?_
   refine ent_o rfl (ok_loadB (k := 0) Try.isAgg22 rfl rfl rfl) ?_
   refine ent_o rfl (ok_call (rSame_ok (wtsL (sidC c t.dual)) t.count) rfl) ?_
   refine ent_o rfl (ok_notD rfl) ?_
   refine enk K11 ?_
   refine ent_condD rfl (fun h27 => ?_) (fun h27 => ?_)
   ·refine esk rfl ?_
    refine ent_ret ?_
    exact retR1 (.inr rfl) Try.results48 (resr_tmp (res_cv rfl (cv_int (by exact (chkT_no hc0 hs0 h27).symm))))
   ·refine esp K10 ?_
    refine esk rfl ?_
    refine ent_ret ?_
    exact retR1 (.inr rfl) Try.results48 (resr_tmp (res_cv rfl (cv_int (by exact (chkT_yes hc0 hs0 (Classical.not_not.1 h27)).symm))))

theorem eCertify_ok (c : Cod)  : Ctr Try.prog 49 [aCod c] (aTup [aTly (cerT c), aInt (cerE c)]) := by
 refine ctr_of Try.call49 Try.func49 rfl rfl ?_
 intro w O
 refine ent_lenC 0 2 rfl rfl (fun hlen0_2 => ?_)
 refine ent_lenC 0 4 rfl rfl (fun hlen0_4 => ?_)
 refine esr rfl fun _ K1 => ?_
 refine ent_boxS rfl rfl (AllOne.mem ⟨(one_int _), (one_int _), one_sl, (one_int _), one_sl, trivial⟩) (fun b1_1 => ?_)
 refine ent_alloc (z := .agg #[.bool false, .slice none 0 0]) [aBool false, aEx (.slice none 0 0)] rfl zv68 rfl zc68 (fun b2_2 => ?_)
 refine emm rfl ?_
 refine enk K1 ?_
 refine ent_seq fun _ K2 => ?_
 refine esr rfl fun _ K3 => ?_
 refine ent_o rfl (ok_loadBS (k := 1) ti27 rfl rfl rfl) ?_
 refine ent_o rfl (ok_call (cCheck_ok c) rfl) ?_
 refine emm rfl ?_
 refine enk K3 ?_
 refine esr rfl fun _ K4 => ?_
 refine ent_o rfl (ok_neq rfl rfl) ?_
 refine enk K4 ?_
 refine ent_condD rfl (fun h12 => ?_) (fun h12 => ?_)
 ·have he := cerE_code h12
  have hT := cerT_no (by rw [he]; exact h12)
  refine esr rfl fun _ K5 => ?_
  refine ent_o rfl (ok_build st68 (As := [aBool false, aEx (.slice none 0 0)]) z68 (rfl)) ?_
  refine emm rfl ?_
  refine ent_storeBS (k := 0) Try.sizeOf68 rfl rfl rfl (AllOne.mem ⟨(one_bool _), (one_ex rfl), trivial⟩) rfl rfl ?_
  show Ent _ ⟨_, [_, _]⟩ _
  refine emm rfl ?_
  refine enk K5 ?_
  refine ent_ret ?_
  exact retR2 (.inr rfl) Try.results49 (resr_cell (k := 0) ti68 rfl rfl rfl (cv_agg ⟨cv_bool (by first | (rw [hT]; done) | (rw [hT]; rfl) | (rw [hT, ← hv]; rfl)), cv_nil (fun _ => rfl) (by first | (rw [hT]; done) | (rw [hT]; rfl) | (rw [hT, ← hv]; rfl)), trivial⟩)) (resr_tmp (res_cv rfl (cv_int (by first | exact he.symm | (rw [hD]; exact he.symm) | (rw [hD, hv]; exact he.symm)))))
 ·have hc0 := Classical.not_not.1 h12
  have hk := codE_zero.1 hc0
  have hn1 := hk.n1
  have hn64 := hk.n64
  have hln := hk.len
  have hqb := hk.fld.1.bd
  have hdd := hk.dim_dua
  have he := cerE_side hc0
  have hD : decide (c.N - (c.Gen.length : Int) < c.Gen.length) = cerD c := rfl
  refine esp K2 ?_
  refine esr rfl fun _ K6 => ?_
  refine ent_o rfl (ok_fieldAddrEx Try.runUnderlying27 rfl Try.sizeOf25 (by decide) rfl) ?_
  refine ent_o rfl (ok_loadB (k := 1) Try.isAgg25 rfl rfl rfl) ?_
  refine ent_o rfl (ok_len rfl Try.runUnderlying25 rfl) ?_
  refine ent_o rfl (ok_fieldAddrEx Try.runUnderlying27 rfl Try.sizeOf3 (by decide) rfl) ?_
  refine ent_o rfl (ok_loadB (k := 1) Try.isAgg3 rfl rfl rfl) ?_
  refine ent_o rfl (ok_fieldAddrEx Try.runUnderlying27 rfl Try.sizeOf25 (by decide) rfl) ?_
  refine ent_o rfl (ok_loadB (k := 1) Try.isAgg25 rfl rfl rfl) ?_
  refine ent_o rfl (ok_len rfl Try.runUnderlying25 rfl) ?_
  refine ent_o rfl (ok_sub rfl rfl (by omega) (by omega)) ?_
  refine ent_o rfl (ok_gtr rfl rfl) ?_
  refine emm rfl ?_
  refine enk K6 ?_
  refine esr rfl fun _ K7 => ?_
  refine ent_o rfl (ok_loadBS (k := 1) ti27 rfl rfl rfl) ?_
  refine emm rfl ?_
  refine ent_o rfl (ok_call (eSide_ok c (decide ((c.N - (↑c.Gen.length : Int)) < (↑c.Gen.length : Int))) hk) rfl) ?_
  refine emm rfl ?_
  refine ent_o rfl (ok_extract rfl rfl) ?_
  refine ent_o rfl (ok_extract rfl rfl) ?_
  refine ent_alloc (z := .agg #[.int .i64 0, .int .i64 0, .slice none 0 0, .int .i64 0, .slice none 0 0]) [aInt 0, aInt 0, aEx (.slice none 0 0), aInt 0, aEx (.slice none 0 0)] rfl zv27 rfl zc27 (fun b6_3 => ?_)
  refine ent_storeBS (k := 0) Try.sizeOf27 rfl rfl rfl (AllOne.mem ⟨(one_int _), (one_int _), one_sl, (one_int _), one_sl, trivial⟩) rfl rfl ?_
  show Ent _ ⟨_, [_, _, _]⟩ _
  refine emm rfl ?_
  refine enk K7 ?_
  refine ent_seq fun _ K8 => ?_
  refine esr rfl fun _ K9 => ?_
  refine ent_o rfl (ok_neq rfl rfl) ?_
  refine enk K9 ?_
  refine ent_condD rfl (fun h32 => ?_) (fun h32 => ?_)
  ·rw [hD] at h32
   have hT := cerT_no (by rw [he]; exact h32)
   refine esr rfl fun _ K10 => ?_
   refine ent_o rfl (ok_build st68 (As := [aBool false, aEx (.slice none 0 0)]) z68 (rfl)) ?_
   refine emm rfl ?_
   refine ent_storeBS (k := 1) Try.sizeOf68 rfl rfl rfl (AllOne.mem ⟨(one_bool _), (one_ex rfl), trivial⟩) rfl rfl ?_
   show Ent _ ⟨_, [_, _, _]⟩ _
   refine emm rfl ?_
   refine enk K10 ?_
   refine ent_ret ?_
   exact retR2 (.inr rfl) Try.results49 (resr_cell (k := 1) ti68 rfl rfl rfl (cv_agg ⟨cv_bool (by first | (rw [hT]; done) | (rw [hT]; rfl) | (rw [hT, ← hv]; rfl)), cv_nil (fun _ => rfl) (by first | (rw [hT]; done) | (rw [hT]; rfl) | (rw [hT, ← hv]; rfl)), trivial⟩)) (resr_tmp (res_cv rfl (cv_int (by first | exact he.symm | (rw [hD]; exact he.symm) | (rw [hD, hv]; exact he.symm)))))
  ·have hs0 := Classical.not_not.1 h32
   rw [hD] at hs0
   have hT := cerT_ok (by rw [he]; exact hs0)
   have hv := sidV_ok hs0
   refine esp K8 ?_
   refine esr rfl fun _ K11 => ?_
   refine ent_o rfl (ok_loadBS (k := 0) ti27 rfl rfl rfl) ?_
   refine ent_o rfl (ok_call (eWeights_ok (sidV c (decide ((c.N - (↑c.Gen.length : Int)) < (↑c.Gen.length : Int))))) rfl) ?_
   refine emm rfl ?_
   refine ent_o rfl (ok_extract rfl rfl) ?_
   refine ent_o rfl (ok_extract rfl rfl) ?_
   refine emm rfl ?_
   refine enk K11 ?_
   refine esr rfl fun _ K12 => ?_
   refine ent_o rfl (ok_build st68 (As := [aBool false, aEx (.slice none 0 0)]) z68 (⟨0, 1, rfl, .inl ⟨rfl, _, rfl, (one_bool _), rfl, ⟨1, 1, rfl, .inl ⟨rfl, _, rfl, one_sl, rfl, rfl⟩⟩⟩⟩)) ?_
   refine emm rfl ?_
   refine ent_storeBS (k := 1) Try.sizeOf68 rfl rfl rfl (AllOne.mem ⟨(one_bool _), one_sl, trivial⟩) rfl rfl ?_
   show Ent _ ⟨_, [_, _, _]⟩ _
   refine emm rfl ?_
   refine enk K12 ?_
   refine ent_ret ?_
   exact retR2 (.inr rfl) Try.results49 (resr_cell (k := 1) ti68 rfl rfl rfl (cv_agg ⟨cv_bool (by first | (rw [hT]; done) | (rw [hT]; rfl) | (rw [hT, ← hv]; rfl)), cv_sl sub_x (by first | (rw [hT]; done) | (rw [hT]; rfl) | (rw [hT, ← hv]; rfl)), trivial⟩)) (resr_tmp (res_cv rfl (cv_int (by first | exact he.symm | (rw [hD]; exact he.symm) | (rw [hD, hv]; exact he.symm)))))

theorem rCertify_ok (c : Cod)  : Ctr Try.prog 50 [aCod c] (aTup [aTly (cerT c), aInt (cerE c)]) := by
 refine ctr_of Try.call50 Try.func50 rfl rfl ?_
 intro w O
 refine ent_lenC 0 2 rfl rfl (fun hlen0_2 => ?_)
 refine ent_lenC 0 4 rfl rfl (fun hlen0_4 => ?_)
 refine esr rfl fun _ K1 => ?_
 refine ent_boxS rfl rfl (AllOne.mem ⟨(one_int _), (one_int _), one_sl, (one_int _), one_sl, trivial⟩) (fun b1_1 => ?_)
 refine ent_alloc (z := .agg #[.bool false, .slice none 0 0]) [aBool false, aEx (.slice none 0 0)] rfl zv68 rfl zc68 (fun b2_2 => ?_)
 refine emm rfl ?_
 refine enk K1 ?_
 refine esr rfl fun _ K2 => ?_
 refine ent_o rfl (ok_loadBS (k := 1) ti27 rfl rfl rfl) ?_
 refine ent_o rfl (ok_call (rcCheck_ok c) rfl) ?_
 refine emm rfl ?_
 refine enk K2 ?_
 refine ent_seq fun _ K3 => ?_
 refine esr rfl fun _ K4 => ?_
 refine ent_o rfl (ok_neq rfl rfl) ?_
 refine enk K4 ?_
 refine ent_condD rfl (fun h10 => ?_) (fun h10 => ?_)
 ·have he := cerE_code h10
  have hT := cerT_no (by rw [he]; exact h10)
  refine esr rfl fun _ K5 => ?_
  refine ent_o rfl (ok_build st68 (As := [aBool false, aEx (.slice none 0 0)]) z68 (rfl)) ?_
  refine emm rfl ?_
  refine ent_storeBS (k := 0) Try.sizeOf68 rfl rfl rfl (AllOne.mem ⟨(one_bool _), (one_ex rfl), trivial⟩) rfl rfl ?_
  show Ent _ ⟨_, [_, _]⟩ _
  refine emm rfl ?_
  refine enk K5 ?_
  refine ent_ret ?_
  exact retR2 (.inr rfl) Try.results50 (resr_cell (k := 0) ti68 rfl rfl rfl (cv_agg ⟨cv_bool (by first | (rw [hT]; done) | (rw [hT]; rfl) | (rw [hT, ← hD]; done)), cv_nil (fun _ => rfl) (by first | (rw [hT]; done) | (rw [hT]; rfl) | (rw [hT, ← hD]; done)), trivial⟩)) (resr_tmp (res_cv rfl (cv_int (by first | exact he.symm | (rw [hD]; exact he.symm) | (rw [he, hs0]; done)))))
 ·have hc0 := Classical.not_not.1 h10
  have hk := codE_zero.1 hc0
  have hn1 := hk.n1
  have hn64 := hk.n64
  have hln := hk.len
  have hqb := hk.fld.1.bd
  have hdd := hk.dim_dua
  have he := cerE_side hc0
  have hD : decide (c.N < 2 * (c.Gen.length : Int)) = cerD c := decide_eq_decide.2 (by omega)
  refine esp K3 ?_
  refine esr rfl fun _ K6 => ?_
  refine ent_o rfl (ok_fieldAddrEx Try.runUnderlying27 rfl Try.sizeOf25 (by decide) rfl) ?_
  refine ent_o rfl (ok_loadB (k := 1) Try.isAgg25 rfl rfl rfl) ?_
  refine ent_o rfl (ok_len rfl Try.runUnderlying25 rfl) ?_
  refine ent_o rfl (ok_mul rfl rfl (by omega) (by omega)) ?_
  refine ent_o rfl (ok_fieldAddrEx Try.runUnderlying27 rfl Try.sizeOf3 (by decide) rfl) ?_
  refine ent_o rfl (ok_loadB (k := 1) Try.isAgg3 rfl rfl rfl) ?_
  refine ent_o rfl (ok_gtr rfl rfl) ?_
  refine emm rfl ?_
  refine enk K6 ?_
  refine esr rfl fun _ K7 => ?_
  refine ent_o rfl (ok_loadBS (k := 1) ti27 rfl rfl rfl) ?_
  refine emm rfl ?_
  refine ent_o rfl (ok_call (rSide_ok c (decide (c.N < (2 * (↑c.Gen.length : Int)))) hk) rfl) ?_
  refine ent_o rfl (ok_call (rWeights_ok (sidC c (decide (c.N < (2 * (↑c.Gen.length : Int)))))) rfl) ?_
  refine emm rfl ?_
  refine ent_o rfl (ok_extract rfl rfl) ?_
  refine ent_o rfl (ok_extract rfl rfl) ?_
  refine emm rfl ?_
  refine enk K7 ?_
  refine ent_seq fun _ K8 => ?_
  refine esr rfl fun _ K9 => ?_
  refine ent_o rfl (ok_neq rfl rfl) ?_
  refine enk K9 ?_
  refine ent_condD rfl (fun h28 => ?_) (fun h28 => ?_)
  ·rw [hD] at h28
   have hT := cerT_no (by rw [he]; exact h28)
   refine esr rfl fun _ K10 => ?_
   refine ent_o rfl (ok_build st68 (As := [aBool false, aEx (.slice none 0 0)]) z68 (rfl)) ?_
   refine emm rfl ?_
   refine ent_storeBS (k := 0) Try.sizeOf68 rfl rfl rfl (AllOne.mem ⟨(one_bool _), (one_ex rfl), trivial⟩) rfl rfl ?_
   show Ent _ ⟨_, [_, _]⟩ _
   refine emm rfl ?_
   refine enk K10 ?_
   refine ent_ret ?_
   exact retR2 (.inr rfl) Try.results50 (resr_cell (k := 0) ti68 rfl rfl rfl (cv_agg ⟨cv_bool (by first | (rw [hT]; done) | (rw [hT]; rfl) | (rw [hT, ← hD]; done)), cv_nil (fun _ => rfl) (by first | (rw [hT]; done) | (rw [hT]; rfl) | (rw [hT, ← hD]; done)), trivial⟩)) (resr_tmp (res_cv rfl (cv_int (by first | exact he.symm | (rw [hD]; exact he.symm) | (rw [he, hs0]; done)))))
  ·have hs0 := Classical.not_not.1 h28
   rw [hD] at hs0
   have hT := cerT_ok (by rw [he]; exact hs0)
   refine esp K8 ?_
   refine esr rfl fun _ K11 => ?_
   refine ent_o rfl (ok_build st68 (As := [aBool false, aEx (.slice none 0 0)]) z68 (⟨0, 1, rfl, .inl ⟨rfl, _, rfl, (one_bool _), rfl, ⟨1, 1, rfl, .inl ⟨rfl, _, rfl, one_sl, rfl, rfl⟩⟩⟩⟩)) ?_
   refine ent_storeBS (k := 0) Try.sizeOf68 rfl rfl rfl (AllOne.mem ⟨(one_bool _), one_sl, trivial⟩) rfl rfl ?_
   show Ent _ ⟨_, [_, _]⟩ _
   refine emm rfl ?_
   refine enk K11 ?_
   refine ent_ret ?_
   exact retR2 (.inr rfl) Try.results50 (resr_cell (k := 0) ti68 rfl rfl rfl (cv_agg ⟨cv_bool (by first | (rw [hT]; done) | (rw [hT]; rfl) | (rw [hT, ← hD]; done)), cv_sl sub_x (by first | (rw [hT]; done) | (rw [hT]; rfl) | (rw [hT, ← hD]; done)), trivial⟩)) (resr_tmp (res_cv rfl (cv_int (by first | exact he.symm | (rw [hD]; exact he.symm) | (rw [he, hs0]; done)))))
end Go.Proofs.Ytbofipdmoocflaa

