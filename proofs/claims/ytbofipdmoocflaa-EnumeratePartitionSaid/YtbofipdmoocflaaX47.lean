/-
  Facts for the law EnumeratePartition.
-/
import Derived.Test.YtbofipdmoocflaaProg
import Derived.Test.YtbofipdmoocflaaXTab
import Derived.Test.YtbofipdmoocflaaPlainJ2
import Derived.Test.YtbofipdmoocflaaCiLib
import Derived.Test.YtbofipdmoocflaaX4
import Derived.Test.YtbofipdmoocflaaX5
import Derived.Test.YtbofipdmoocflaaX6
import Derived.Test.YtbofipdmoocflaaX9
import Derived.Test.YtbofipdmoocflaaX1
import Derived.Test.YtbofipdmoocflaaX10
import Derived.Test.YtbofipdmoocflaaX11
import Derived.Test.YtbofipdmoocflaaX12
import Derived.Test.YtbofipdmoocflaaX13
import Derived.Test.YtbofipdmoocflaaX14
import Derived.Test.YtbofipdmoocflaaX15
import Derived.Test.YtbofipdmoocflaaX18
import Derived.Test.YtbofipdmoocflaaX19
import Derived.Test.YtbofipdmoocflaaX20
import Derived.Test.YtbofipdmoocflaaX30
import Derived.Test.YtbofipdmoocflaaX31
import Derived.Test.YtbofipdmoocflaaX32
import Derived.Test.YtbofipdmoocflaaX33
import Derived.Test.YtbofipdmoocflaaX34
import Derived.Test.YtbofipdmoocflaaX35
import Derived.Test.YtbofipdmoocflaaX36
import Derived.Test.YtbofipdmoocflaaX38
import Derived.Test.YtbofipdmoocflaaX39
import Derived.Test.YtbofipdmoocflaaX46
open Go Go.Cw
namespace Go.Proofs.Ytbofipdmoocflaa
set_option maxRecDepth 100000
set_option linter.unusedVariables false
set_option linter.unusedSimpArgs false
theorem EnumeratePartition_walk (c : Cod)  : Ctr Try.prog 11 [aCod c] (aBool true) := by
 refine ctr_of Try.call11 Try.func11 rfl rfl ?_
 intro w O
 refine ent_lenC 0 2 rfl rfl (fun hlen0_2 => ?_)
 refine ent_lenC 0 4 rfl rfl (fun hlen0_4 => ?_)
 refine esr rfl fun _ K1 => ?_
 refine ent_boxS rfl rfl (AllOne.mem ⟨(one_int _), (one_int _), one_sl, (one_int _), one_sl, trivial⟩) (fun b1_1 => ?_)
 refine emm rfl ?_
 refine enk K1 ?_
 refine ent_seq fun _ K2 => ?_
 refine esr rfl fun _ K3 => ?_
 refine ent_o rfl (ok_call alive_ok rfl) ?_
 refine ent_o rfl (ok_not rfl) ?_
 refine enk K3 ?_
 refine ent_condF rfl ?_
 refine esp K2 ?_
 refine ent_seq fun _ K4 => ?_
 refine esr rfl fun _ K5 => ?_
 refine ent_o rfl (ok_loadBS (k := 0) ti27 rfl rfl rfl) ?_
 refine ent_o rfl (ok_call (rCountC_ok c 256) rfl) ?_
 refine ent_o rfl (ok_eql rfl rfl) ?_
 refine enk K5 ?_
 refine ent_condD rfl (fun h23 => ?_) (fun h23 => ?_)
 ·refine esk rfl ?_
  refine ent_ret ?_
  exact retR1 (.inr rfl) Try.results11 (resr_tmp (res_cv rfl (cv_bool (by rfl))))
 ·have hcc : ¬ (sizE c ≠ 0 ∨ 256 < sizV c) := fun h => h23 (if_pos h)
  have hs : sizE c = 0 := Classical.not_not.1 fun h => hcc (.inl h)
  have hv : sizV c ≤ 256 := by have h2 : ¬ 256 < sizV c := fun h => hcc (.inr h); omega
  have hk := (sizE_zero.1 hs).1
  have hn1 := hk.n1
  have hn64 := hk.n64
  have hcn := hk.cn
  have hsv := sizV_ok hs
  have hqb := hk.fld.1.bd
  have hdd : ((nullR c.F c.Gen c.N).length : Int) + c.Gen.length = c.N := hk.dim_dua
  have hln := hk.len
  have hpl := hk.plen
  refine esp K4 ?_
  refine esr rfl fun _ K7 => ?_
  refine ent_o rfl (ok_fieldAddrEx Try.runUnderlying27 rfl Try.sizeOf24 (by decide) rfl) ?_
  refine ent_o rfl (ok_loadBS (k := 0) ti24 rfl rfl rfl) ?_
  refine ent_o rfl (ok_fieldAddrEx Try.runUnderlying27 rfl Try.sizeOf25 (by decide) rfl) ?_
  refine ent_o rfl (ok_loadB (k := 0) Try.isAgg25 rfl rfl rfl) ?_
  refine ent_o rfl (ok_fieldAddrEx Try.runUnderlying27 rfl Try.sizeOf3 (by decide) rfl) ?_
  refine ent_o rfl (ok_loadB (k := 0) Try.isAgg3 rfl rfl rfl) ?_
  refine ent_o rfl (ok_call (rNull_ok c.F c.Gen c.N c.N.toNat hk.fld hk.good (by first | rfl | assumption | omega | (simp_all; done) | grind) (by first | rfl | assumption | omega | (simp_all; done) | grind) (by first | rfl | assumption | omega | (simp_all; done) | grind) (by first | rfl | assumption | omega | (simp_all; done) | grind)) rfl) ?_
  refine emm rfl ?_
  refine enk K7 ?_
  refine esr rfl fun _ K8 => ?_
  refine ent_o rfl (ok_fieldAddrEx Try.runUnderlying27 rfl Try.sizeOf24 (by decide) rfl) ?_
  refine ent_o rfl (ok_loadBS (k := 0) ti24 rfl rfl rfl) ?_
  refine emm rfl ?_
  refine ent_o rfl (ok_len rfl Try.runUnderlying25 rfl) ?_
  refine ent_o rfl (ok_call (rCountN_ok c.F (↑(nullR c.F c.Gen c.N).length : Int) hk.fld.1 (by first | rfl | assumption | omega | (simp_all; done) | grind) (by first | rfl | assumption | omega | (simp_all; done) | grind)) rfl) ?_
  refine emm rfl ?_
  refine ent_o rfl (ok_extract rfl rfl) ?_
  refine ent_o rfl (ok_extract rfl rfl) ?_
  refine emm rfl ?_
  refine enk K8 ?_
  refine ent_seq fun _ K9 => ?_
  refine ent_seq fun _ K10 => ?_
  refine ent_cut (⟨[(1, aEx (.pointer (some ⟨b1_1, 0, none⟩))), (3, aSl 1 false aInts (nullR c.F c.Gen c.N)), (4, aInt (expF c.F.q (↑(nullR c.F c.Gen c.N).length : Int) 65536)), (44, aBool (decide (((expE c.F.q (↑(nullR c.F c.Gen c.N).length : Int) 65536) ≠ 0) ∨ (256 < (expF c.F.q (↑(nullR c.F c.Gen c.N).length : Int) 65536)))))], [oBox b1_1 27 [aInt c.F.P, aInt c.F.M, aSl 1 false aInt c.F.mod, aInt c.N, aSl 1 false aInts c.Gen]]⟩) ?_ ?_
  ·refine ent_region ?_
   refine emm rfl ?_
   refine ent_o rfl (ok_neq rfl rfl) ?_
   refine emm rfl ?_
   refine ent_guardXDf rfl rfl rfl rfl (fun hg41 => ?_) (fun hg41 => ?_)
   ·refine emm rfl ?_
    refine ent_guardXT rfl rfl rfl rfl (decide_eq_false hg41) ?_
    refine ent_o rfl (ok_gtr rfl rfl) ?_
    refine ent_o rfl (ok_pickF rfl (decide_eq_false hg41) rfl) ?_
    refine ent_nil ?_
    exact ent_rep ⟨rfl, rfl, rfl, slot_bool (dq_Q ((or_iff_right hg41).trans Iff.rfl)), trivial⟩ rfl
   ·refine ent_guardXF rfl rfl rfl rfl (decide_eq_true hg41) ?_
    refine ent_o rfl (ok_pickT rfl (decide_eq_true hg41) rfl) ?_
    refine ent_nil ?_
    exact ent_rep ⟨rfl, rfl, rfl, slot_bool (dq_T rfl (Or.inl hg41)), trivial⟩ rfl
  refine ent_k K10 ?_
  refine ent_condD rfl (fun h44 => ?_) (fun h44 => ?_)
  ·refine esk rfl ?_
   refine ent_ret ?_
   exact retR1 (.inr rfl) Try.results11 (resr_tmp (res_cv rfl (cv_bool (by rfl))))
  ·have hx0 : expE c.F.q ((nullR c.F c.Gen c.N).length : Int) 65536 = 0 := Classical.not_not.1 fun h => h44 (.inl h)
   have hxl : expF c.F.q ((nullR c.F c.Gen c.N).length : Int) 65536 ≤ 256 := by have h2 : ¬ 256 < expF c.F.q ((nullR c.F c.Gen c.N).length : Int) 65536 := fun h => h44 (.inr h); omega
   have hxe : expF c.F.q ((nullR c.F c.Gen c.N).length : Int) 65536 = c.F.q ^ (dua c).Gen.length := by
     unfold expE at hx0
     unfold expF
     by_cases h : c.F.q ^ ((nullR c.F c.Gen c.N).length : Int).toNat ≤ 65536
     ·rw [if_pos h]; rfl
     ·rw [if_neg h] at hx0; cases hx0
   have hxp := pow_pos_of c.F.q (by omega) (dua c).Gen.length
   have hall := all_bd hk (by omega) (by omega)
   refine esp K9 ?_
   refine esr rfl fun _ K12 => ?_
   refine ent_o rfl (ok_loadBS (k := 0) ti27 rfl rfl rfl) ?_
   refine ent_o rfl (ok_call (rcPivots_ok c hk) rfl) ?_
   refine emm rfl ?_
   refine ent_o rfl (ok_extract rfl rfl) ?_
   refine ent_o rfl (ok_extract rfl rfl) ?_
   refine emm rfl ?_
   refine enk K12 ?_
   refine esr rfl fun _ K13 => ?_
   refine ent_o rfl (ok_fieldAddrEx Try.runUnderlying27 rfl Try.sizeOf3 (by decide) rfl) ?_
   refine ent_o rfl (ok_loadB (k := 0) Try.isAgg3 rfl rfl rfl) ?_
   refine ent_o rfl (ok_add rfl rfl (by omega) (by omega)) ?_
   refine ent_make aInt 0 rfl vt22 rfl rfl (by omega) (by omega) (by omega) (fun _ _ => rfl) (AllV.mem ⟨rfl, trivial⟩) (fun b53_2 => ?_)
   refine emm rfl ?_
   refine enk K13 ?_
   refine ent_seq fun _ K14 => ?_
   refine esk rfl ?_
   refine ent_block ?_
   refine ent_loop (fun (i : Int) => (⟨[(1, aEx (.pointer (some ⟨b1_1, 0, none⟩))), (3, aSl 1 false aInts (nullR c.F c.Gen c.N)), (4, aInt (expF c.F.q (↑(nullR c.F c.Gen c.N).length : Int) 65536)), (6, aSl 1 false aInt (canP c.F c.m)), (8, aEx (vec (some b53_2) ((c.N + 1).toNat) ((c.N + 1).toNat))), (9, aInt i)], [oVec (some b53_2) ((c.N + 1).toNat) 3 1 false aInt (totL c i), oBox b1_1 27 [aInt c.F.P, aInt c.F.M, aSl 1 false aInt c.F.mod, aInt c.N, aSl 1 false aInts c.Gen]]⟩ : St)) (fun (i : Int) => (0 ≤ i) ∧ (i ≤ expF c.F.q ((nullR c.F c.Gen c.N).length : Int) 65536)) (fun (i : Int) => (expF c.F.q ((nullR c.F c.Gen c.N).length : Int) 65536 - i).toNat) 0 ⟨(by first | rfl | assumption | omega | (simp_all; done) | grind), (by omega)⟩ (ent_rep ⟨rfl, rfl, rfl, rfl, rfl, slot_av (av_int (show 0 = (0 : Int) by first | rfl | assumption | omega | (simp_all; done) | grind)), trivial⟩ (own_cons (own_vec (show totL c (0 : Int) = List.replicate ((c.N + 1).toNat) 0 by exact (totL_zero c).symm)) (rfl))) ?_
   rintro i ⟨i0, i1⟩
   show Ent _ ⟨_, [_, _]⟩ _
   have hlt := length_totL c i
   refine ent_seq fun _ K16 => ?_
   refine esr rfl fun _ K17 => ?_
   refine ent_o rfl (ok_lss rfl rfl) ?_
   refine enk K17 ?_
   refine ent_condD rfl (fun h56 => ?_) (fun h56 => ?_)
   ·refine esp K16 ?_
    refine ent_seq fun _ K18 => ?_
    refine ent_block ?_
    refine esr rfl fun _ K19 => ?_
    refine ent_o rfl (ok_fieldAddrEx Try.runUnderlying27 rfl Try.sizeOf24 (by decide) rfl) ?_
    refine ent_o rfl (ok_loadBS (k := 1) ti24 rfl rfl rfl) ?_
    refine emm rfl ?_
    refine ent_o rfl (ok_len rfl Try.runUnderlying25 rfl) ?_
    refine emm rfl ?_
    have hne : neE c (sprd c.N (canP c.F c.m) (dgs c.F.q ((nullR c.F c.Gen c.N).length : Int).toNat i)) = 0 := ne_zero.2 ⟨hk.cosW_wrd i, hs⟩
    have hcf := coL_facts hne
    have hlt1 := length_totL c i
    have hlt2 := length_totL c (i + 1)
    refine ent_o rfl (ok_call (rFromIdx_ok c.F (↑(nullR c.F c.Gen c.N).length : Int) i hk.fld.1 (by first | rfl | assumption | omega | (simp_all; done) | grind) (by first | rfl | assumption | omega | (simp_all; done) | grind) hx0 (by first | rfl | assumption | omega | (simp_all; done) | grind) (by first | rfl | assumption | omega | (simp_all; done) | grind) (by first | rfl | assumption | omega | (simp_all; done) | grind)) rfl) ?_
    refine emm rfl ?_
    refine ent_o rfl (ok_extract rfl rfl) ?_
    refine ent_o rfl (ok_extract rfl rfl) ?_
    refine emm rfl ?_
    refine enk K19 ?_
    refine ent_seq fun _ K20 => ?_
    refine ent_draw 12 mixed (by kernel_rfl) (by kernel_rfl) (by kernel_rfl) ?_
    refine dw_o rfl (ok_loadBS (k := 1) ti27 rfl rfl rfl) ?_
    refine dw_o rfl (ok_fieldAddrEx Try.runUnderlying27 rfl Try.sizeOf3 (by decide) rfl) ?_
    refine dw_o rfl (ok_loadB (k := 1) Try.isAgg3 rfl rfl rfl) ?_
    refine dw_o rfl (ok_move rfl) ?_
    refine dw_o rfl (ok_move rfl) ?_
    refine dw_o rfl (ok_call (spread_ok c.N (canP c.F c.m) (dgs c.F.q (↑(nullR c.F c.Gen c.N).length : Int).toNat i) (by first | rfl | assumption | omega | (simp_all; done) | grind) (by first | rfl | assumption | omega | (simp_all; done) | grind) (by first | rfl | assumption | omega | (simp_all; done) | grind) (by rw [length_dgs]; omega)) rfl) ?_
    refine dw_o rfl (ok_call (eCoset_ok c (sprd c.N (canP c.F c.m) (dgs c.F.q (↑(nullR c.F c.Gen c.N).length : Int).toNat i))) rfl) ?_
    refine dw_o rfl (ok_move rfl) ?_
    refine dw_o rfl (ok_extract rfl rfl) ?_
    refine dw_o rfl (ok_extract rfl rfl) ?_
    refine dw_o rfl (ok_assign rfl) ?_
    refine dw_o rfl (ok_assign rfl) ?_
    refine dw_nil ?_
    refine enk K20 ?_
    refine ent_seq fun _ K21 => ?_
    refine ent_seq fun _ K22 => ?_
    refine ent_cut (⟨[(1, aEx (.pointer (some ⟨b1_1, 0, none⟩))), (3, aSl 1 false aInts (nullR c.F c.Gen c.N)), (4, aInt (expF c.F.q (↑(nullR c.F c.Gen c.N).length : Int) 65536)), (6, aSl 1 false aInt (canP c.F c.m)), (8, aEx (vec (some b53_2) ((c.N + 1).toNat) ((c.N + 1).toNat))), (9, aInt i), (12, aSl 1 false aInt (coL c (sprd c.N (canP c.F c.m) (dgs c.F.q (↑(nullR c.F c.Gen c.N).length : Int).toNat i)))), (87, aBool (decide (((neE c (sprd c.N (canP c.F c.m) (dgs c.F.q (↑(nullR c.F c.Gen c.N).length : Int).toNat i))) ≠ 0) ∨ ((↑(coL c (sprd c.N (canP c.F c.m) (dgs c.F.q (↑(nullR c.F c.Gen c.N).length : Int).toNat i))).length : Int) ≠ (c.N + 1)))))], [oVec (some b53_2) ((c.N + 1).toNat) 3 1 false aInt (totL c i), oBox b1_1 27 [aInt c.F.P, aInt c.F.M, aSl 1 false aInt c.F.mod, aInt c.N, aSl 1 false aInts c.Gen]]⟩) ?_ ?_
    ·refine ent_region ?_
     refine emm rfl ?_
     refine ent_o rfl (ok_neq rfl rfl) ?_
     refine emm rfl ?_
     refine ent_guardXDf rfl rfl rfl rfl (fun hg80 => ?_) (fun hg80 => ?_)
     ·refine emm rfl ?_
      refine ent_guardXT rfl rfl rfl rfl (decide_eq_false hg80) ?_
      refine ent_o rfl (ok_len rfl Try.runUnderlying22 rfl) ?_
      refine ent_guardXT rfl rfl rfl rfl (decide_eq_false hg80) ?_
      refine ent_o rfl (ok_fieldAddrEx Try.runUnderlying27 rfl Try.sizeOf3 (by decide) rfl) ?_
      refine ent_guardXT rfl rfl rfl rfl (decide_eq_false hg80) ?_
      refine ent_o rfl (ok_loadB (k := 1) Try.isAgg3 rfl rfl rfl) ?_
      refine ent_guardXT rfl rfl rfl rfl (decide_eq_false hg80) ?_
      refine ent_o rfl (ok_add rfl rfl (by omega) (by omega)) ?_
      refine ent_guardXT rfl rfl rfl rfl (decide_eq_false hg80) ?_
      refine ent_o rfl (ok_neq rfl rfl) ?_
      refine ent_o rfl (ok_pickF rfl (decide_eq_false hg80) rfl) ?_
      refine ent_nil ?_
      exact ent_rep ⟨rfl, rfl, rfl, rfl, rfl, rfl, rfl, slot_bool (dq_Q ((or_iff_right hg80).trans Iff.rfl)), trivial⟩ rfl
     ·refine ent_guardXF rfl rfl rfl rfl (decide_eq_true hg80) ?_
      refine ent_guardXF rfl rfl rfl rfl (decide_eq_true hg80) ?_
      refine ent_guardXF rfl rfl rfl rfl (decide_eq_true hg80) ?_
      refine ent_guardXF rfl rfl rfl rfl (decide_eq_true hg80) ?_
      refine ent_guardXF rfl rfl rfl rfl (decide_eq_true hg80) ?_
      refine ent_o rfl (ok_pickT rfl (decide_eq_true hg80) rfl) ?_
      refine ent_nil ?_
      exact ent_rep ⟨rfl, rfl, rfl, rfl, rfl, rfl, rfl, slot_bool (dq_T rfl (Or.inl hg80)), trivial⟩ rfl
    refine ent_k K22 ?_
    refine ent_condD rfl (fun h87 => ?_) (fun h87 => ?_)
    ·exact (h87.elim (fun h => h hne) (fun h => h hcf.1)).elim
    ·refine esp K21 ?_
     refine esk rfl ?_
     refine ent_block ?_
     refine ent_loop (fun (j : Int) => (⟨[(1, aEx (.pointer (some ⟨b1_1, 0, none⟩))), (3, aSl 1 false aInts (nullR c.F c.Gen c.N)), (4, aInt (expF c.F.q (↑(nullR c.F c.Gen c.N).length : Int) 65536)), (6, aSl 1 false aInt (canP c.F c.m)), (8, aEx (vec (some b53_2) ((c.N + 1).toNat) ((c.N + 1).toNat))), (9, aInt i), (12, aSl 1 false aInt (coL c (sprd c.N (canP c.F c.m) (dgs c.F.q (↑(nullR c.F c.Gen c.N).length : Int).toNat i)))), (14, aInt j)], [oVec (some b53_2) ((c.N + 1).toNat) 3 1 false aInt (mixL (totL c (i + 1)) (totL c i) j), oBox b1_1 27 [aInt c.F.P, aInt c.F.M, aSl 1 false aInt c.F.mod, aInt c.N, aSl 1 false aInts c.Gen]]⟩ : St)) (fun (j : Int) => (0 ≤ j) ∧ (j ≤ c.N + 1)) (fun (j : Int) => (c.N + 1 - j).toNat) 0 ⟨(by first | rfl | assumption | omega | (simp_all; done) | grind), (by omega)⟩ (ent_rep ⟨rfl, rfl, rfl, rfl, rfl, rfl, rfl, slot_av (av_int (show 0 = (0 : Int) by first | rfl | assumption | omega | (simp_all; done) | grind)), trivial⟩ (own_cons (own_vec (show mixL (totL c (i + 1)) (totL c i) (0 : Int) = totL c i by exact mixL_zero _ _)) (rfl))) ?_
     rintro j ⟨j0, j1⟩
     show Ent _ ⟨_, [_, _]⟩ _
     have lmx : (mixL (totL c (i + 1)) (totL c i) j).length = (c.N + 1).toNat := by rw [length_mixL _ _ (by omega)]; omega
     refine ent_seq fun _ K24 => ?_
     refine esr rfl fun _ K25 => ?_
     refine ent_o rfl (ok_fieldAddrEx Try.runUnderlying27 rfl Try.sizeOf3 (by decide) rfl) ?_
     refine ent_o rfl (ok_loadB (k := 1) Try.isAgg3 rfl rfl rfl) ?_
     refine ent_o rfl (ok_leq rfl rfl) ?_
     refine enk K25 ?_
     refine ent_condD rfl (fun h91 => ?_) (fun h91 => ?_)
     ·have hmx := ix_mixL (totL c (i + 1)) (totL c i) j0 (by omega) (by omega)
      have htt := ix_totL (c := c) (i := i) j0 (by omega)
      have htb := tot_bd hk hs j0 (show j < c.N + 1 by omega) i.toNat
      have hcb := hcf.2 j j0 (by omega)
      have hmm : (i.toNat : Int) * c.n ≤ 256 * 256 := Int.mul_le_mul (by omega) (by omega) (by omega) (by decide)
      refine esp K24 ?_
      refine ent_seq fun _ K26 => ?_
      refine ent_block ?_
      refine ent_draw 10 mixed (by kernel_rfl) (by kernel_rfl) (by kernel_rfl) ?_
      refine dw_o rfl (ok_move rfl) ?_
      refine dw_o rfl (ok_move rfl) ?_
      refine dw_o rfl (ok_indexV sl22 rfl rfl (by omega) (by omega)) ?_
      refine dw_o rfl (ok_loadV (k := 0) 0 ti3 rfl rfl (by omega) (by omega)) ?_
      refine dw_o rfl (ok_move rfl) ?_
      refine dw_o rfl (ok_move rfl) ?_
      refine dw_o rfl (ok_index 0 sl22 rfl rfl (by omega) (by omega)) ?_
      refine dw_o rfl (ok_load ti3 rfl) ?_
      refine dw_o rfl (ok_add rfl rfl (by omega) (by omega)) ?_
      refine dw_o rfl (ok_indexV sl22 rfl rfl (by omega) (by omega)) ?_
      refine dw_nil ?_
      refine ent_storeV (k := 0) (z := (ix 0 (mixL (totL c (i + 1)) (totL c i) j) j) + (ix 0 (coL c (sprd c.N (canP c.F c.m) (dgs c.F.q (↑(nullR c.F c.Gen c.N).length : Int).toNat i))) j)) ti3 rfl rfl rfl (elem_one (one_int _)) (by omega) (by omega) ?_
      refine enk K26 ?_
      refine ent_region ?_
      refine emm rfl ?_
      refine ent_o rfl (ok_add rfl rfl (by omega) (by omega)) ?_
      refine emm rfl ?_
      refine ent_nil ?_
      refine ent_again (s := (j)) (j + 1) ⟨(by first | rfl | assumption | omega | (simp_all; done) | grind), (by omega)⟩ (by first | omega | (dsimp only; omega)) (ent_rep ⟨rfl, rfl, rfl, rfl, rfl, rfl, rfl, rfl, trivial⟩ (own_cons (own_vec (show mixL (totL c (i + 1)) (totL c i) (j + 1) = List.set (mixL (totL c (i + 1)) (totL c i) j) (j).toNat ((ix 0 (mixL (totL c (i + 1)) (totL c i) j) j) + (ix 0 (coL c (sprd c.N (canP c.F c.m) (dgs c.F.q (↑(nullR c.F c.Gen c.N).length : Int).toNat i))) j)) by exact (totL_set i0 j0 (by omega)).symm)) (rfl)))
     ·refine ent_exit ?_
      refine ent_k K18 ?_
      refine ent_region ?_
      refine emm rfl ?_
      refine ent_o rfl (ok_add rfl rfl (by omega) (by omega)) ?_
      refine emm rfl ?_
      refine ent_nil ?_
      refine ent_again (s := (i)) (i + 1) ⟨(by first | rfl | assumption | omega | (simp_all; done) | grind), (by first | rfl | assumption | omega | (simp_all; done) | grind)⟩ (by first | omega | (dsimp only; omega)) (ent_rep ⟨rfl, rfl, rfl, rfl, rfl, rfl, trivial⟩ (own_cons (own_vec (show totL c (i + 1) = mixL (totL c (i + 1)) (totL c i) j by exact (mixL_all _ _ (by rw [length_totL]; omega) (by rw [length_totL]; omega)).symm)) (rfl)))
   ·refine ent_exit ?_
    refine ent_k K14 ?_
    refine esk rfl ?_
    refine ent_seq fun _ K28 => ?_
    refine esk rfl ?_
    refine ent_block ?_
    refine ent_loop (fun (j : Int) => (⟨[(1, aEx (.pointer (some ⟨b1_1, 0, none⟩))), (8, aEx (vec (some b53_2) ((c.N + 1).toNat) ((c.N + 1).toNat))), (15, aInt ((c.F.q - 1) ^ j.toNat)), (16, aInt j)], [oVec (some b53_2) ((c.N + 1).toNat) 3 1 false aInt (totL c i), oBox b1_1 27 [aInt c.F.P, aInt c.F.M, aSl 1 false aInt c.F.mod, aInt c.N, aSl 1 false aInts c.Gen]]⟩ : St)) (fun (j : Int) => (0 ≤ j) ∧ (j ≤ c.N + 1)) (fun (j : Int) => (c.N + 1 - j).toNat) 0 ⟨(by first | rfl | assumption | omega | (simp_all; done) | grind), (by omega)⟩ (ent_rep ⟨rfl, rfl, slot_av (av_int (show 1 = (c.F.q - 1) ^ (0 : Int).toNat by simp)), slot_av (av_int (show 0 = (0 : Int) by first | rfl | assumption | omega | (simp_all; done) | grind)), trivial⟩ rfl) ?_
    rintro j ⟨j0, j1⟩
    show Ent _ ⟨_, [_, _]⟩ _
    refine ent_seq fun _ K30 => ?_
    refine esr rfl fun _ K31 => ?_
    refine ent_o rfl (ok_fieldAddrEx Try.runUnderlying27 rfl Try.sizeOf3 (by decide) rfl) ?_
    refine ent_o rfl (ok_loadB (k := 1) Try.isAgg3 rfl rfl rfl) ?_
    refine ent_o rfl (ok_leq rfl rfl) ?_
    refine enk K31 ?_
    refine ent_condD rfl (fun h107 => ?_) (fun h107 => ?_)
    ·have hpt := hk.partition hs j0 (by omega)
     have hpb := part_bd (q := c.F.q) (by omega) c.N.toNat j
     have hpp := pow_pred_le (q := c.F.q) (by omega) j.toNat
     have hpm := pow_mono_of c.F.q (by omega) (show j.toNat ≤ c.N.toNat by omega)
     have hm2 : 0 ≤ (c.F.q - 1) ^ j.toNat * (c.F.q - 1) ∧ (c.F.q - 1) ^ j.toNat * (c.F.q - 1) ≤ 65536 * 256 := ⟨Int.mul_nonneg hpp.1 (by omega), Int.mul_le_mul (by omega) (by omega) (by omega) (by decide)⟩
     refine esp K30 ?_
     refine ent_seq fun _ K32 => ?_
     refine ent_block ?_
     refine esr rfl fun _ K33 => ?_
     refine ent_o rfl (ok_fieldAddrEx Try.runUnderlying27 rfl Try.sizeOf3 (by decide) rfl) ?_
     refine ent_o rfl (ok_loadB (k := 1) Try.isAgg3 rfl rfl rfl) ?_
     refine emm rfl ?_
     refine ent_o rfl (ok_call (rBinom_ok c.N j (by first | rfl | assumption | omega | (simp_all; done) | grind) (by first | rfl | assumption | omega | (simp_all; done) | grind) (by first | rfl | assumption | omega | (simp_all; done) | grind) (by first | rfl | assumption | omega | (simp_all; done) | grind)) rfl) ?_
     refine emm rfl ?_
     refine ent_o rfl (ok_extract rfl rfl) ?_
     refine ent_o rfl (ok_extract rfl rfl) ?_
     refine emm rfl ?_
     refine enk K33 ?_
     refine ent_seq fun _ K34 => ?_
     refine esr rfl fun _ K35 => ?_
     refine ent_o rfl (ok_indexV sl22 rfl rfl (by omega) (by omega)) ?_
     refine ent_o rfl (ok_loadV (k := 0) 0 ti3 rfl rfl (by omega) (by omega)) ?_
     refine emm rfl ?_
     refine ent_o rfl (ok_mul rfl rfl (by omega) (by omega)) ?_
     refine ent_o rfl (ok_neq rfl rfl) ?_
     refine enk K35 ?_
     refine ent_condD rfl (fun h124 => ?_) (fun h124 => ?_)
     ·refine absurd ?_ h124; rw [ix_totL j0 (by omega), show i.toNat = (c.F.q ^ (dua c).Gen.length).toNat by omega]; exact hpt
     ·refine esp K34 ?_
      refine ent_region ?_
      refine emm rfl ?_
      refine ent_o rfl (ok_fieldAddrEx Try.runUnderlying27 rfl Try.sizeOf24 (by decide) rfl) ?_
      refine ent_o rfl (ok_loadBS (k := 1) ti24 rfl rfl rfl) ?_
      refine ent_o rfl (ok_call (rOrder_ok c.F) rfl) ?_
      refine ent_o rfl (ok_sub rfl rfl (by omega) (by omega)) ?_
      refine ent_o rfl (ok_mul rfl rfl (by omega) (by omega)) ?_
      refine emm rfl ?_
      refine enk K32 ?_
      refine ent_region ?_
      refine emm rfl ?_
      refine ent_o rfl (ok_add rfl rfl (by omega) (by omega)) ?_
      refine emm rfl ?_
      refine ent_nil ?_
      refine ent_again (s := (j)) (j + 1) ⟨(by first | rfl | assumption | omega | (simp_all; done) | grind), (by omega)⟩ (by first | omega | (dsimp only; omega)) (ent_rep ⟨rfl, rfl, slot_av (av_int (show ((c.F.q - 1) ^ j.toNat) * (c.F.q - 1) = (c.F.q - 1) ^ (j + 1).toNat by rw [pow_succ_toNat _ _ j0])), rfl, trivial⟩ rfl)
    ·refine ent_exit ?_
     refine ent_k K28 ?_
     refine esk rfl ?_
     refine ent_ret ?_
     exact retR1 (.inr rfl) Try.results11 (resr_tmp (res_cv rfl (cv_bool (by rfl))))
end Go.Proofs.Ytbofipdmoocflaa
