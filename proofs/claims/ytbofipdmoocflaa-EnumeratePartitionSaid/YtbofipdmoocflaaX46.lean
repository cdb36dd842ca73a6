/-
  Walks of functions of the program and the reference.
-/
import Derived.Test.YtbofipdmoocflaaProg
import Derived.Test.YtbofipdmoocflaaXTab
import Derived.Test.YtbofipdmoocflaaPlainJ2
import Derived.Test.YtbofipdmoocflaaCiLib
import Derived.Test.YtbofipdmoocflaaX4
import Derived.Test.YtbofipdmoocflaaX5
import Derived.Test.YtbofipdmoocflaaX6
import Derived.Test.YtbofipdmoocflaaX9
import Derived.Test.YtbofipdmoocflaaX1
import Derived.Test.YtbofipdmoocflaaX10
import Derived.Test.YtbofipdmoocflaaX11
import Derived.Test.YtbofipdmoocflaaX12
import Derived.Test.YtbofipdmoocflaaX13
import Derived.Test.YtbofipdmoocflaaX14
import Derived.Test.YtbofipdmoocflaaX15
import Derived.Test.YtbofipdmoocflaaX18
import Derived.Test.YtbofipdmoocflaaX19
import Derived.Test.YtbofipdmoocflaaX20
import Derived.Test.YtbofipdmoocflaaX30
import Derived.Test.YtbofipdmoocflaaX31
import Derived.Test.YtbofipdmoocflaaX32
import Derived.Test.YtbofipdmoocflaaX33
import Derived.Test.YtbofipdmoocflaaX34
import Derived.Test.YtbofipdmoocflaaX35
import Derived.Test.YtbofipdmoocflaaX36
import Derived.Test.YtbofipdmoocflaaX38
import Derived.Test.YtbofipdmoocflaaX39
open Go Go.Cw
namespace Go.Proofs.Ytbofipdmoocflaa
set_option maxRecDepth 100000
set_option linter.unusedVariables false
set_option linter.unusedSimpArgs false
theorem rCountC_ok (c : Cod) (m : Int)  : Ctr Try.prog 34 [aCod c, aInt m] (aInt (if sizE c ≠ 0 ∨ m < sizV c then 0 else sizV c)) := by
 refine ctr_of Try.call34 Try.func34 rfl rfl ?_
 intro w O
 refine ent_lenC 0 2 rfl rfl (fun hlen0_2 => ?_)
 refine ent_lenC 0 4 rfl rfl (fun hlen0_4 => ?_)
 refine esr rfl fun _ K1 => ?_
 refine ent_boxS rfl rfl (AllOne.mem ⟨(one_int _), (one_int _), one_sl, (one_int _), one_sl, trivial⟩) (fun b2_1 => ?_)
 refine emm rfl ?_
 refine enk K1 ?_
 refine esr rfl fun _ K2 => ?_
 refine ent_o rfl (ok_loadBS (k := 0) ti27 rfl rfl rfl) ?_
 refine ent_o rfl (ok_call (rSize_ok c) rfl) ?_
 refine emm rfl ?_
 refine ent_o rfl (ok_extract rfl rfl) ?_
 refine ent_o rfl (ok_extract rfl rfl) ?_
 refine emm rfl ?_
 refine enk K2 ?_
 refine ent_seq fun _ K3 => ?_
 refine ent_seq fun _ K4 => ?_
 refine ent_cut (⟨[(5, aInt (sizV c)), (18, aBool (decide (((sizE c) ≠ 0) ∨ (m < (sizV c)))))], [oBox b2_1 27 [aInt c.F.P, aInt c.F.M, aSl 1 false aInt c.F.mod, aInt c.N, aSl 1 false aInts c.Gen]]⟩) ?_ ?_
 ·refine ent_region ?_
  refine emm rfl ?_
  refine ent_o rfl (ok_neq rfl rfl) ?_
  refine emm rfl ?_
  refine ent_guardXDf rfl rfl rfl rfl (fun hg14 => ?_) (fun hg14 => ?_)
  ·refine emm rfl ?_
   refine ent_guardXT rfl rfl rfl rfl (decide_eq_false hg14) ?_
   refine emm rfl ?_
   refine ent_guardXT rfl rfl rfl rfl (decide_eq_false hg14) ?_
   refine ent_o rfl (ok_gtr rfl rfl) ?_
   refine ent_o rfl (ok_pickF rfl (decide_eq_false hg14) rfl) ?_
   refine ent_nil ?_
   exact ent_rep ⟨rfl, slot_bool (dq_Q ((or_iff_right hg14).trans Iff.rfl)), trivial⟩ rfl
  ·refine ent_guardXF rfl rfl rfl rfl (decide_eq_true hg14) ?_
   refine ent_guardXF rfl rfl rfl rfl (decide_eq_true hg14) ?_
   refine ent_o rfl (ok_pickT rfl (decide_eq_true hg14) rfl) ?_
   refine ent_nil ?_
   exact ent_rep ⟨rfl, slot_bool (dq_T rfl (Or.inl hg14)), trivial⟩ rfl
 refine ent_k K4 ?_
 refine ent_condD rfl (fun h18 => ?_) (fun h18 => ?_)
 ·refine esk rfl ?_
  refine ent_ret ?_
  exact retR1 (.inr rfl) Try.results34 (resr_tmp (res_cv rfl (cv_int (by exact (if_pos (by assumption)).symm))))
 ·refine esp K3 ?_
  refine esk rfl ?_
  refine ent_ret ?_
  exact retR1 (.inr rfl) Try.results34 (resr_tmp (res_cv rfl (cv_int (by exact (if_neg (by assumption)).symm))))

theorem rPiv_ok (X : List (List Int)) (hx : X.length ≤ 1000000) (hr : ∀ i : Int, 0 ≤ i → i < X.length → (ix [] X i).length ≤ 1000000) : Ctr Try.prog 73 [aSl 1 false aInts X] (aSl 1 false aInt (pvL X)) := by
 refine ctr_of Try.call73 Try.func73 rfl rfl ?_
 intro w O
 refine ent_len 0 rfl (fun hlen0 => ?_)
 refine esk rfl ?_
 refine esk rfl ?_
 refine ent_seq fun _ K3 => ?_
 refine esk rfl ?_
 refine ent_block ?_
 refine ent_open 3 1 false aInt (fun _ => rfl) ?_
 refine ent_loop (fun (ss : Int × Option Nat × Nat) => match ss with | (i, rr2, cc2) => (⟨[(0, aSl 1 false aInts X), (3, aEx (vec rr2 ((mapR (fun z => ld (ix [] X z)) i).length) cc2)), (4, aInt i)], [oVec rr2 cc2 3 1 false aInt (mapR (fun z => ld (ix [] X z)) i)]⟩ : St)) (fun (ss : Int × Option Nat × Nat) => match ss with | (i, rr2, cc2) => (0 ≤ i) ∧ (i ≤ X.length)) (fun (ss : Int × Option Nat × Nat) => match ss with | (i, rr2, cc2) => (X.length - i).toNat) (0, none, 0) ⟨(by first | rfl | assumption | omega | (simp_all; done) | grind), (by first | rfl | assumption | omega | (simp_all; done) | grind)⟩ (ent_rep ⟨rfl, slot_av ((show aEx (vec none ([] : List _).length 0) = aEx (vec none ((mapR (fun z => ld (ix [] X z)) (0 : Int)).length) 0) from av_vec (congrArg List.length (show mapR (fun z => ld (ix [] X z)) (0 : Int) = [] by rfl).symm))), slot_av (av_int (show 0 = (0 : Int) by first | rfl | assumption | omega | (simp_all; done) | grind)), trivial⟩ (own_cons (own_vec (show mapR (fun z => ld (ix [] X z)) (0 : Int) = [] by rfl)) (rfl))) ?_
 rintro ⟨i, rr2, cc2⟩ ⟨h0, h1⟩
 show Ent _ ⟨_, [_]⟩ _
 have lmr := length_mapR (fun z => ld (ix [] X z)) i
 refine ent_seq fun _ K5 => ?_
 refine esr rfl fun _ K6 => ?_
 refine ent_o rfl (ok_len rfl Try.runUnderlying25 rfl) ?_
 refine ent_o rfl (ok_lss rfl rfl) ?_
 refine enk K6 ?_
 refine ent_condD rfl (fun h9 => ?_) (fun h9 => ?_)
 ·refine esp K5 ?_
  refine ent_seq fun _ K7 => ?_
  refine ent_block ?_
  refine esk rfl ?_
  refine ent_seq fun _ K9 => ?_
  refine ent_block ?_
  refine ent_loop (fun (p : Int) => (⟨[(0, aSl 1 false aInts X), (3, aEx (vec rr2 ((mapR (fun z => ld (ix [] X z)) i).length) cc2)), (4, aInt i), (5, aInt p)], [oVec rr2 cc2 3 1 false aInt (mapR (fun z => ld (ix [] X z)) i)]⟩ : St)) (fun (p : Int) => (0 ≤ p) ∧ (p ≤ (ix [] X i).length) ∧ (∀ z : Int, 0 ≤ z → z < p → ix 0 (ix [] X i) z = 0)) (fun (p : Int) => ((ix [] X i).length - p).toNat) 0 ⟨(by first | rfl | assumption | omega | (simp_all; done) | grind), (by first | rfl | assumption | omega | (simp_all; done) | grind), (fun z z0 z1 => by omega)⟩ (ent_rep ⟨rfl, rfl, rfl, slot_av (av_int (show 0 = (0 : Int) by first | rfl | assumption | omega | (simp_all; done) | grind)), trivial⟩ rfl) ?_
  rintro p ⟨p0, p1, pz⟩
  show Ent _ ⟨_, [_]⟩ _
  have hrl := hr i h0 (by omega)
  refine ent_seq fun _ K10 => ?_
  refine ent_seq fun _ K11 => ?_
  refine ent_cut (⟨[(0, aSl 1 false aInts X), (3, aEx (vec rr2 ((mapR (fun z => ld (ix [] X z)) i).length) cc2)), (4, aInt i), (5, aInt p), (28, aBool (decide ((p < (↑(ix [] X i).length : Int)) ∧ ((ix 0 (ix [] X i) p) = 0))))], [oVec rr2 cc2 3 1 false aInt (mapR (fun z => ld (ix [] X z)) i)]⟩) ?_ ?_
  ·refine ent_region ?_
   refine emm rfl ?_
   refine ent_o rfl (ok_index [] sl25 rfl rfl (by omega) (by omega)) ?_
   refine ent_o rfl (ok_load ti22 rfl) ?_
   refine ent_o rfl (ok_len rfl Try.runUnderlying22 rfl) ?_
   refine ent_o rfl (ok_lss rfl rfl) ?_
   refine emm rfl ?_
   refine ent_guardXDt rfl rfl rfl rfl (fun hg19 => ?_) (fun hg19 => ?_)
   ·refine emm rfl ?_
    refine ent_guardXT rfl rfl rfl rfl (decide_eq_true hg19) ?_
    refine emm rfl ?_
    refine ent_guardXT rfl rfl rfl rfl (decide_eq_true hg19) ?_
    refine ent_o rfl (ok_index [] sl25 rfl rfl (by omega) (by omega)) ?_
    refine ent_guardXT rfl rfl rfl rfl (decide_eq_true hg19) ?_
    refine ent_o rfl (ok_load ti22 rfl) ?_
    refine ent_guardXT rfl rfl rfl rfl (decide_eq_true hg19) ?_
    refine emm rfl ?_
    refine ent_guardXT rfl rfl rfl rfl (decide_eq_true hg19) ?_
    refine ent_o rfl (ok_index 0 sl22 rfl rfl (by omega) (by omega)) ?_
    refine ent_guardXT rfl rfl rfl rfl (decide_eq_true hg19) ?_
    refine ent_o rfl (ok_load ti3 rfl) ?_
    refine ent_guardXT rfl rfl rfl rfl (decide_eq_true hg19) ?_
    refine ent_o rfl (ok_eql rfl rfl) ?_
    refine ent_o rfl (ok_pickT rfl (decide_eq_true hg19) rfl) ?_
    refine ent_nil ?_
    exact ent_rep ⟨rfl, rfl, rfl, rfl, slot_bool (dq_Q ((and_iff_right hg19).trans Iff.rfl)), trivial⟩ rfl
   ·refine ent_guardXF rfl rfl rfl rfl (decide_eq_false hg19) ?_
    refine ent_guardXF rfl rfl rfl rfl (decide_eq_false hg19) ?_
    refine ent_guardXF rfl rfl rfl rfl (decide_eq_false hg19) ?_
    refine ent_guardXF rfl rfl rfl rfl (decide_eq_false hg19) ?_
    refine ent_guardXF rfl rfl rfl rfl (decide_eq_false hg19) ?_
    refine ent_guardXF rfl rfl rfl rfl (decide_eq_false hg19) ?_
    refine ent_guardXF rfl rfl rfl rfl (decide_eq_false hg19) ?_
    refine ent_o rfl (ok_pickF rfl (decide_eq_false hg19) rfl) ?_
    refine ent_nil ?_
    exact ent_rep ⟨rfl, rfl, rfl, rfl, slot_bool (dq_F rfl (fun h => hg19 h.1)), trivial⟩ rfl
  refine ent_k K11 ?_
  refine ent_condD rfl (fun h28 => ?_) (fun h28 => ?_)
  ·refine esp K10 ?_
   refine ent_block ?_
   refine ent_region ?_
   refine emm rfl ?_
   refine ent_o rfl (ok_add rfl rfl (by omega) (by omega)) ?_
   refine emm rfl ?_
   refine ent_nil ?_
   refine ent_again (s := (p)) (p + 1) ⟨(by first | rfl | assumption | omega | (simp_all; done) | grind), (by omega), (fun z z0 z1 => by by_cases hz : z = p; (rw [hz]; exact h28.2); exact pz z z0 (by omega))⟩ (by first | omega | (dsimp only; omega)) (ent_rep ⟨rfl, rfl, rfl, rfl, trivial⟩ rfl)
  ·have hld := ld_eq p0 p1 pz h28
   refine ent_exit ?_
   refine ent_k K9 ?_
   refine ent_region ?_
   refine emm rfl ?_
   refine ent_appendL (k := 0) (enc := aInt) (y := p) rfl rfl vt22 rfl rfl (by first | rfl | assumption | (simp; done) | (simp_all; done) | omega) rfl ((elem_one (one_int _))) (by first | omega | (simp only [List.length_append, List.length_cons, List.length_nil]; omega) | (simp; omega)) (by first | omega | (simp only [List.length_append, List.length_cons, List.length_nil]; omega) | (simp; omega)) (by decide) (fun b34_3 c34_3 => ?_)
   refine emm rfl ?_
   refine enk K7 ?_
   refine ent_region ?_
   refine emm rfl ?_
   refine ent_o rfl (ok_add rfl rfl (by omega) (by omega)) ?_
   refine emm rfl ?_
   refine ent_nil ?_
   refine ent_again (s := (i, rr2, cc2)) (i + 1, (some b34_3), c34_3) ⟨(by first | rfl | assumption | omega | (simp_all; done) | grind), (by first | rfl | assumption | omega | (simp_all; done) | grind)⟩ (by first | omega | (dsimp only; omega)) (ent_rep ⟨rfl, slot_av (av_vec (congrArg List.length (show mapR (fun z => ld (ix [] X z)) (i + 1) = (mapR (fun z => ld (ix [] X z)) i) ++ [p] by rw [← hld]; exact mapR_succ _ h0).symm)), rfl, trivial⟩ (own_cons (own_vec (show mapR (fun z => ld (ix [] X z)) (i + 1) = (mapR (fun z => ld (ix [] X z)) i) ++ [p] by rw [← hld]; exact mapR_succ _ h0)) (rfl)))
 ·refine ent_exit ?_
  refine ent_k K3 ?_
  refine esk rfl ?_
  refine ent_ret ?_
  exact retR1 (.inr rfl) Try.results73 (resr_tmp (res_cv rfl (cv_vec (k := 0) (off_x rfl) (by first | rfl | assumption | (simp; done) | (simp_all; done) | omega) (by unfold pvL; congr 1; omega))))

theorem rcPivots_ok (c : Cod) (hk : COk c) : Ctr Try.prog 41 [aCod c] (aTup [aSl 1 false aInt (canP c.F c.m), aInt 0]) := by
 have hc0 := codE_zero.2 hk
 have hln := hk.len
 refine ctr_of Try.call41 Try.func41 rfl rfl ?_
 intro w O
 refine ent_lenC 0 2 rfl rfl (fun hlen0_2 => ?_)
 refine ent_lenC 0 4 rfl rfl (fun hlen0_4 => ?_)
 refine esr rfl fun _ K1 => ?_
 refine ent_boxS rfl rfl (AllOne.mem ⟨(one_int _), (one_int _), one_sl, (one_int _), one_sl, trivial⟩) (fun b1_1 => ?_)
 refine emm rfl ?_
 refine enk K1 ?_
 refine esr rfl fun _ K2 => ?_
 refine ent_o rfl (ok_loadBS (k := 0) ti27 rfl rfl rfl) ?_
 refine ent_o rfl (ok_call (rcCheck_ok c) rfl) ?_
 refine emm rfl ?_
 refine enk K2 ?_
 refine ent_seq fun _ K3 => ?_
 refine esr rfl fun _ K4 => ?_
 refine ent_o rfl (ok_neq rfl rfl) ?_
 refine enk K4 ?_
 refine ent_condD rfl (fun h8 => ?_) (fun h8 => ?_)
 ·exact absurd hc0 h8
 ·refine esp K3 ?_
  refine esr rfl fun _ K5 => ?_
  refine ent_o rfl (ok_fieldAddrEx Try.runUnderlying27 rfl Try.sizeOf25 (by decide) rfl) ?_
  refine ent_o rfl (ok_loadB (k := 0) Try.isAgg25 rfl rfl rfl) ?_
  refine ent_o rfl (ok_call (rPiv_ok c.Gen (by omega) (fun i i0 i1 => by have := hk.row i0 i1; have := hk.n64; omega)) rfl) ?_
  refine emm rfl ?_
  refine enk K5 ?_
  refine ent_ret ?_
  exact retR2 (.inr rfl) Try.results41 (resr_tmp (res_cv rfl (cv_sl sub_x (by exact hk.pvL_can)))) (resr_tmp (res_cv rfl (cv_int (by rfl))))

theorem rCountN_ok (f : Fld) (n : Int) (hS : Shape f) (h0n : 0 ≤ n) (h1n : n ≤ 64) : Ctr Try.prog 40 [aFld f, aInt n] (aTup [aInt (expF f.q n 65536), aInt (expE f.q n 65536)]) := by
 have hqb := hS.bd
 refine ctr_of Try.call40 Try.func40 rfl rfl ?_
 intro w O
 refine ent_lenC 0 2 rfl rfl (fun hlen0_2 => ?_)
 refine esr rfl fun _ K1 => ?_
 refine ent_boxS rfl rfl (AllOne.mem ⟨(one_int _), (one_int _), one_sl, trivial⟩) (fun b2_1 => ?_)
 refine emm rfl ?_
 refine enk K1 ?_
 refine ent_seq fun _ K2 => ?_
 refine ent_seq fun _ K3 => ?_
 refine ent_cut (⟨[(1, aInt n), (2, aEx (.pointer (some ⟨b2_1, 0, none⟩))), (14, aBool (decide ((n < 0) ∨ (64 < n))))], [oBox b2_1 24 [aInt f.P, aInt f.M, aSl 1 false aInt f.mod]]⟩) ?_ ?_
 ·refine ent_region ?_
  refine emm rfl ?_
  refine ent_o rfl (ok_lss rfl rfl) ?_
  refine emm rfl ?_
  refine ent_guardXDf rfl rfl rfl rfl (fun hg11 => ?_) (fun hg11 => ?_)
  ·refine emm rfl ?_
   refine ent_guardXT rfl rfl rfl rfl (decide_eq_false hg11) ?_
   refine ent_o rfl (ok_gtr rfl rfl) ?_
   refine ent_o rfl (ok_pickF rfl (decide_eq_false hg11) rfl) ?_
   refine ent_nil ?_
   exact ent_rep ⟨rfl, rfl, slot_bool (dq_Q ((or_iff_right hg11).trans Iff.rfl)), trivial⟩ rfl
  ·refine ent_guardXF rfl rfl rfl rfl (decide_eq_true hg11) ?_
   refine ent_o rfl (ok_pickT rfl (decide_eq_true hg11) rfl) ?_
   refine ent_nil ?_
   exact ent_rep ⟨rfl, rfl, slot_bool (dq_T rfl (Or.inl hg11)), trivial⟩ rfl
 refine ent_k K3 ?_
 refine ent_condD rfl (fun h14 => ?_) (fun h14 => ?_)
 ·omega
 ·refine esp K2 ?_
  refine esr rfl fun _ K4 => ?_
  refine ent_o rfl (ok_loadBS (k := 0) ti24 rfl rfl rfl) ?_
  refine ent_o rfl (ok_call (rOrder_ok f) rfl) ?_
  refine emm rfl ?_
  refine enk K4 ?_
  refine esk rfl ?_
  refine ent_seq fun _ K6 => ?_
  refine esk rfl ?_
  refine ent_block ?_
  refine ent_loop (fun (j : Int) => (⟨[(1, aInt n), (6, aInt f.q), (7, aInt (f.q ^ j.toNat)), (8, aInt j)], [oBox b2_1 24 [aInt f.P, aInt f.M, aSl 1 false aInt f.mod]]⟩ : St)) (fun (j : Int) => (0 ≤ j) ∧ (j ≤ n) ∧ (f.q ^ j.toNat ≤ 65536)) (fun (j : Int) => (n - j).toNat) 0 ⟨(by first | rfl | assumption | omega | (simp_all; done) | grind), (by first | rfl | assumption | omega | (simp_all; done) | grind), (by simp)⟩ (ent_rep ⟨rfl, rfl, slot_av (av_int (show 1 = f.q ^ (0 : Int).toNat by simp)), slot_av (av_int (show 0 = (0 : Int) by first | rfl | assumption | omega | (simp_all; done) | grind)), trivial⟩ rfl) ?_
  rintro j ⟨h0, h1, h2⟩
  show Ent _ ⟨_, [_]⟩ _
  refine ent_seq fun _ K8 => ?_
  refine esr rfl fun _ K9 => ?_
  refine ent_o rfl (ok_lss rfl rfl) ?_
  refine enk K9 ?_
  refine ent_condD rfl (fun h19 => ?_) (fun h19 => ?_)
  ·have hs := pow_succ_toNat f.q j h0
   have hp := pow_pos_of f.q (by omega) j.toNat
   have hpk := pow_mono_of f.q (by omega) (show (j + 1).toNat ≤ n.toNat by omega)
   have hmm : 0 ≤ f.q ^ j.toNat * f.q ∧ f.q ^ j.toNat * f.q ≤ 65536 * 256 := ⟨Int.mul_nonneg (by omega) (by omega), Int.mul_le_mul (by omega) (by omega) (by omega) (by omega)⟩
   refine esp K8 ?_
   refine ent_seq fun _ K10 => ?_
   refine ent_block ?_
   refine ent_seq fun _ K11 => ?_
   refine esr rfl fun _ K12 => ?_
   refine ent_o rfl (ok_quo rfl rfl (by omega) (by omega) (by omega)) ?_
   refine ent_o rfl (ok_gtr rfl rfl) ?_
   refine enk K12 ?_
   refine ent_condD rfl (fun h25 => ?_) (fun h25 => ?_)
   ·have hlt : 65536 < f.q ^ j.toNat * f.q := (Int.ediv_lt_iff_lt_mul (by omega)).1 h25
    refine esk rfl ?_
    refine ent_ret ?_
    exact retR2 (.inr rfl) Try.results40 (resr_tmp (res_cv rfl (cv_int (by unfold expF; rw [if_neg (by omega)])))) (resr_tmp (res_cv rfl (cv_int (by unfold expE; rw [if_neg (by omega)]))))
   ·have hle : f.q ^ j.toNat * f.q ≤ 65536 := (Int.le_ediv_iff_mul_le (by omega)).1 (by omega)
    refine esp K11 ?_
    refine ent_region ?_
    refine emm rfl ?_
    refine ent_o rfl (ok_mul rfl rfl (by omega) (by omega)) ?_
    refine emm rfl ?_
    refine enk K10 ?_
    refine ent_region ?_
    refine emm rfl ?_
    refine ent_o rfl (ok_add rfl rfl (by omega) (by omega)) ?_
    refine emm rfl ?_
    refine ent_nil ?_
    refine ent_again (s := (j)) (j + 1) ⟨(by first | rfl | assumption | omega | (simp_all; done) | grind), (by first | rfl | assumption | omega | (simp_all; done) | grind), (by rw [hs]; exact hle)⟩ (by first | omega | (dsimp only; omega)) (ent_rep ⟨rfl, rfl, slot_av (av_int (show (f.q ^ j.toNat) * f.q = f.q ^ (j + 1).toNat by rw [hs])), rfl, trivial⟩ rfl)
  ·refine ent_exit ?_
   refine ent_k K6 ?_
   refine esk rfl ?_
   refine ent_ret ?_
   exact retR2 (.inr rfl) Try.results40 (resr_tmp (res_cv rfl (cv_int (by unfold expF; rw [show n = j by omega, if_pos h2])))) (resr_tmp (res_cv rfl (cv_int (by unfold expE; rw [show n = j by omega, if_pos h2]))))

theorem rFromIdx_ok (f : Fld) (n v : Int) (hS : Shape f) (h0n : 0 ≤ n) (h1n : n ≤ 64) (hx : expE f.q n 65536 = 0) (v0 : 0 ≤ v) (v1 : v < expF f.q n 65536) (v2 : v ≤ 1000000) : Ctr Try.prog 42 [aFld f, aInt n, aInt v] (aTup [aSl 1 false aInt (dgs f.q n.toNat v), aInt 0]) := by
 have hqb := hS.bd
 refine ctr_of Try.call42 Try.func42 rfl rfl ?_
 intro w O
 refine ent_lenC 0 2 rfl rfl (fun hlen0_2 => ?_)
 refine esr rfl fun _ K1 => ?_
 refine ent_boxS rfl rfl (AllOne.mem ⟨(one_int _), (one_int _), one_sl, trivial⟩) (fun b3_1 => ?_)
 refine emm rfl ?_
 refine enk K1 ?_
 refine esr rfl fun _ K2 => ?_
 refine ent_o rfl (ok_loadBS (k := 0) ti24 rfl rfl rfl) ?_
 refine emm rfl ?_
 refine ent_o rfl (ok_call (rCountN_ok f n (by first | rfl | assumption | omega | (simp_all; done) | grind) (by first | rfl | assumption | omega | (simp_all; done) | grind) (by first | rfl | assumption | omega | (simp_all; done) | grind)) rfl) ?_
 refine emm rfl ?_
 refine ent_o rfl (ok_extract rfl rfl) ?_
 refine ent_o rfl (ok_extract rfl rfl) ?_
 refine emm rfl ?_
 refine enk K2 ?_
 refine ent_seq fun _ K3 => ?_
 refine esr rfl fun _ K4 => ?_
 refine ent_o rfl (ok_neq rfl rfl) ?_
 refine enk K4 ?_
 refine ent_condD rfl (fun h20 => ?_) (fun h20 => ?_)
 ·exact absurd hx h20
 ·refine esp K3 ?_
  refine ent_seq fun _ K5 => ?_
  refine ent_seq fun _ K6 => ?_
  refine ent_cut (⟨[(1, aInt n), (2, aInt v), (3, aEx (.pointer (some ⟨b3_1, 0, none⟩))), (28, aBool (decide ((v < 0) ∨ ((expF f.q n 65536) ≤ v))))], [oBox b3_1 24 [aInt f.P, aInt f.M, aSl 1 false aInt f.mod]]⟩) ?_ ?_
  ·refine ent_region ?_
   refine emm rfl ?_
   refine ent_o rfl (ok_lss rfl rfl) ?_
   refine emm rfl ?_
   refine ent_guardXDf rfl rfl rfl rfl (fun hg24 => ?_) (fun hg24 => ?_)
   ·refine emm rfl ?_
    refine ent_guardXT rfl rfl rfl rfl (decide_eq_false hg24) ?_
    refine emm rfl ?_
    refine ent_guardXT rfl rfl rfl rfl (decide_eq_false hg24) ?_
    refine ent_o rfl (ok_geq rfl rfl) ?_
    refine ent_o rfl (ok_pickF rfl (decide_eq_false hg24) rfl) ?_
    refine ent_nil ?_
    exact ent_rep ⟨rfl, rfl, rfl, slot_bool (dq_Q ((or_iff_right hg24).trans Iff.rfl)), trivial⟩ rfl
   ·refine ent_guardXF rfl rfl rfl rfl (decide_eq_true hg24) ?_
    refine ent_guardXF rfl rfl rfl rfl (decide_eq_true hg24) ?_
    refine ent_o rfl (ok_pickT rfl (decide_eq_true hg24) rfl) ?_
    refine ent_nil ?_
    exact ent_rep ⟨rfl, rfl, rfl, slot_bool (dq_T rfl (Or.inl hg24)), trivial⟩ rfl
  refine ent_k K6 ?_
  refine ent_condD rfl (fun h28 => ?_) (fun h28 => ?_)
  ·omega
  ·refine esp K5 ?_
   refine esr rfl fun _ K7 => ?_
   refine ent_o rfl (ok_loadBS (k := 0) ti24 rfl rfl rfl) ?_
   refine ent_o rfl (ok_call (rOrder_ok f) rfl) ?_
   refine emm rfl ?_
   refine enk K7 ?_
   refine esr rfl fun _ K8 => ?_
   refine ent_make aInt 0 rfl vt22 rfl rfl (by omega) (by omega) (by omega) (fun _ _ => rfl) (AllV.mem ⟨rfl, trivial⟩) (fun b32_2 => ?_)
   refine emm rfl ?_
   refine enk K8 ?_
   refine ent_seq fun _ K9 => ?_
   refine esr rfl fun _ K10 => ?_
   refine ent_o rfl (ok_sub rfl rfl (by omega) (by omega)) ?_
   refine emm rfl ?_
   refine enk K10 ?_
   refine ent_block ?_
   refine ent_loop (fun (i : Int) => (⟨[(2, aInt (v / f.q ^ (n - 1 - i).toNat)), (10, aInt f.q), (11, aEx (vec (some b32_2) ((n).toNat) ((n).toNat))), (12, aInt i)], [oVec (some b32_2) ((n).toNat) 3 1 false aInt (atL f.q n i v), oBox b3_1 24 [aInt f.P, aInt f.M, aSl 1 false aInt f.mod]]⟩ : St)) (fun (i : Int) => (-1 ≤ i) ∧ (i < n)) (fun (i : Int) => (i + 1).toNat) (n - 1) ⟨(by first | rfl | assumption | omega | (simp_all; done) | grind), (by omega)⟩ (ent_rep ⟨slot_av (av_int (show v = v / f.q ^ (n - 1 - (n - 1)).toNat by simp)), rfl, rfl, rfl, trivial⟩ (own_cons (own_vec (show atL f.q n (n - 1) v = List.replicate ((n).toNat) 0 by exact atL_none _ _ _)) (rfl))) ?_
   rintro i ⟨i0, i1⟩
   show Ent _ ⟨_, [_, _]⟩ _
   have hal := length_atL (q := f.q) (v := v) i0 i1
   have hp1 := pow_pos_of f.q (by omega) (n - 1 - i).toNat
   have hcu : 0 ≤ v / f.q ^ (n - 1 - i).toNat ∧ v / f.q ^ (n - 1 - i).toNat ≤ v := ⟨Int.ediv_nonneg v0 (by omega), Int.ediv_le_self _ v0⟩
   refine ent_seq fun _ K11 => ?_
   refine esr rfl fun _ K12 => ?_
   refine ent_o rfl (ok_geq rfl rfl) ?_
   refine enk K12 ?_
   refine ent_condD rfl (fun h36 => ?_) (fun h36 => ?_)
   ·refine esp K11 ?_
    refine ent_seq fun _ K13 => ?_
    refine ent_block ?_
    refine esr rfl fun _ K14 => ?_
    refine ent_o rfl (ok_rem rfl rfl (by omega) (by omega)) ?_
    refine ent_o rfl (ok_indexV sl22 rfl rfl (by omega) (by omega)) ?_
    refine ent_storeV (k := 0) (z := (v / f.q ^ (n - 1 - i).toNat) % f.q) ti3 rfl rfl rfl (elem_one (one_int _)) (by omega) (by omega) ?_
    refine enk K14 ?_
    refine ent_region ?_
    refine emm rfl ?_
    refine ent_o rfl (ok_quo rfl rfl (by omega) (by omega) (by omega)) ?_
    refine emm rfl ?_
    refine enk K13 ?_
    refine ent_region ?_
    refine emm rfl ?_
    refine ent_o rfl (ok_sub rfl rfl (by omega) (by omega)) ?_
    refine emm rfl ?_
    refine ent_nil ?_
    refine ent_again (s := (i)) (i - 1) ⟨(by first | rfl | assumption | omega | (simp_all; done) | grind), (by first | rfl | assumption | omega | (simp_all; done) | grind)⟩ (by first | omega | (dsimp only; omega)) (ent_rep ⟨slot_av (av_int (show (v / f.q ^ (n - 1 - i).toNat) / f.q = v / f.q ^ (n - 1 - (i - 1)).toNat by exact cur_step (by omega) h36 i1)), rfl, rfl, rfl, trivial⟩ (own_cons (own_vec (show atL f.q n (i - 1) v = List.set (atL f.q n i v) (i).toNat ((v / f.q ^ (n - 1 - i).toNat) % f.q) by exact (atL_set (by omega) h36 i1).symm)) (rfl)))
   ·refine ent_exit ?_
    refine ent_k K9 ?_
    refine esk rfl ?_
    refine ent_ret ?_
    exact retR2 (.inr rfl) Try.results42 (resr_tmp (res_cv rfl (cv_vec (k := 0) (off_x rfl) (by first | rfl | assumption | (simp; done) | (simp_all; done) | omega) (by rw [show i = -1 by omega, show n = ((n.toNat : Nat) : Int) by omega, atL_all, show ((n.toNat : Nat) : Int).toNat = n.toNat by omega])))) (resr_tmp (res_cv rfl (cv_int (by rfl))))

theorem spread_ok (n : Int) (P d : List Int) (h0n : 0 ≤ n) (h1n : n ≤ 64) (hPl : P.length ≤ 1000000) (hdl : d.length ≤ 1000000) : Ctr Try.prog 43 [aInt n, aSl 1 false aInt P, aSl 1 false aInt d] (aSl 1 false aInt (sprd n P d)) := by
 refine ctr_of Try.call43 Try.func43 rfl rfl ?_
 intro w O
 refine ent_len 1 rfl (fun hlen1 => ?_)
 refine ent_len 2 rfl (fun hlen2 => ?_)
 refine esk rfl ?_
 refine esr rfl fun _ K2 => ?_
 refine ent_make aInt 0 rfl vt22 rfl rfl (by omega) (by omega) (by omega) (fun _ _ => rfl) (AllV.mem ⟨rfl, trivial⟩) (fun b12_1 => ?_)
 refine emm rfl ?_
 refine enk K2 ?_
 refine esk rfl ?_
 refine esk rfl ?_
 refine ent_seq fun _ K5 => ?_
 refine esk rfl ?_
 refine ent_block ?_
 refine ent_loop (fun (i : Int) => (⟨[(0, aInt n), (1, aSl 1 false aInt P), (2, aSl 1 false aInt d), (7, aEx (vec (some b12_1) ((n).toNat) ((n).toNat))), (8, aInt (spK P i.toNat)), (9, aInt (spJ P d.length i.toNat)), (10, aInt i)], [oVec (some b12_1) ((n).toNat) 3 1 false aInt (spO P d n i.toNat)]⟩ : St)) (fun (i : Int) => (0 ≤ i) ∧ (i ≤ n)) (fun (i : Int) => (n - i).toNat) 0 ⟨(by first | rfl | assumption | omega | (simp_all; done) | grind), (by first | rfl | assumption | omega | (simp_all; done) | grind)⟩ (ent_rep ⟨rfl, rfl, rfl, rfl, slot_av (av_int (show 0 = spK P (0 : Int).toNat by rfl)), slot_av (av_int (show 0 = spJ P d.length (0 : Int).toNat by rfl)), slot_av (av_int (show 0 = (0 : Int) by first | rfl | assumption | omega | (simp_all; done) | grind)), trivial⟩ (own_cons (own_vec (show spO P d n (0 : Int).toNat = List.replicate ((n).toNat) 0 by rfl)) (rfl))) ?_
 rintro i ⟨h0, h1⟩
 show Ent _ ⟨_, [_]⟩ _
 have hkb := spK_bd P i.toNat
 have hjb := spJ_bd P (R := (d.length : Int)) (by omega) i.toNat
 have lso := length_spO P d n i.toNat
 refine ent_seq fun _ K7 => ?_
 refine esr rfl fun _ K8 => ?_
 refine ent_o rfl (ok_lss rfl rfl) ?_
 refine enk K8 ?_
 refine ent_condD rfl (fun h15 => ?_) (fun h15 => ?_)
 ·refine esp K7 ?_
  refine ent_seq fun _ K9 => ?_
  refine ent_block ?_
  refine ent_seq fun _ K10 => ?_
  refine ent_cut (⟨[(0, aInt n), (1, aSl 1 false aInt P), (2, aSl 1 false aInt d), (7, aEx (vec (some b12_1) ((n).toNat) ((n).toNat))), (8, aInt (spK P i.toNat)), (9, aInt (spJ P d.length i.toNat)), (10, aInt i), (29, aBool (decide (((spK P i.toNat) < (↑P.length : Int)) ∧ ((ix 0 P (spK P i.toNat)) = i))))], [oVec (some b12_1) ((n).toNat) 3 1 false aInt (spO P d n i.toNat)]⟩) ?_ ?_
  ·refine ent_region ?_
   refine emm rfl ?_
   refine ent_o rfl (ok_len rfl Try.runUnderlying22 rfl) ?_
   refine ent_o rfl (ok_lss rfl rfl) ?_
   refine emm rfl ?_
   refine ent_guardXDt rfl rfl rfl rfl (fun hg22 => ?_) (fun hg22 => ?_)
   ·refine emm rfl ?_
    refine ent_guardXT rfl rfl rfl rfl (decide_eq_true hg22) ?_
    refine emm rfl ?_
    refine ent_guardXT rfl rfl rfl rfl (decide_eq_true hg22) ?_
    refine ent_o rfl (ok_index 0 sl22 rfl rfl (by omega) (by omega)) ?_
    refine ent_guardXT rfl rfl rfl rfl (decide_eq_true hg22) ?_
    refine ent_o rfl (ok_load ti3 rfl) ?_
    refine ent_guardXT rfl rfl rfl rfl (decide_eq_true hg22) ?_
    refine emm rfl ?_
    refine ent_guardXT rfl rfl rfl rfl (decide_eq_true hg22) ?_
    refine ent_o rfl (ok_eql rfl rfl) ?_
    refine ent_o rfl (ok_pickT rfl (decide_eq_true hg22) rfl) ?_
    refine ent_nil ?_
    exact ent_rep ⟨rfl, rfl, rfl, rfl, rfl, rfl, rfl, slot_bool (dq_Q ((and_iff_right hg22).trans Iff.rfl)), trivial⟩ rfl
   ·refine ent_guardXF rfl rfl rfl rfl (decide_eq_false hg22) ?_
    refine ent_guardXF rfl rfl rfl rfl (decide_eq_false hg22) ?_
    refine ent_guardXF rfl rfl rfl rfl (decide_eq_false hg22) ?_
    refine ent_guardXF rfl rfl rfl rfl (decide_eq_false hg22) ?_
    refine ent_guardXF rfl rfl rfl rfl (decide_eq_false hg22) ?_
    refine ent_o rfl (ok_pickF rfl (decide_eq_false hg22) rfl) ?_
    refine ent_nil ?_
    exact ent_rep ⟨rfl, rfl, rfl, rfl, rfl, rfl, rfl, slot_bool (dq_F rfl (fun h => hg22 h.1)), trivial⟩ rfl
  refine ent_k K10 ?_
  refine ent_condD rfl (fun h29 => ?_) (fun h29 => ?_)
  ·refine ent_region ?_
   refine emm rfl ?_
   refine ent_o rfl (ok_add rfl rfl (by omega) (by omega)) ?_
   refine emm rfl ?_
   refine enk K9 ?_
   refine ent_region ?_
   refine emm rfl ?_
   refine ent_o rfl (ok_add rfl rfl (by omega) (by omega)) ?_
   refine emm rfl ?_
   refine ent_nil ?_
   refine ent_again (s := (i)) (i + 1) ⟨(by first | rfl | assumption | omega | (simp_all; done) | grind), (by first | rfl | assumption | omega | (simp_all; done) | grind)⟩ (by first | omega | (dsimp only; omega)) (ent_rep ⟨rfl, rfl, rfl, rfl, slot_av (av_int (show (spK P i.toNat) + 1 = spK P (i + 1).toNat by first | exact (spK_yes h0 h29).symm | exact (spK_no h0 h29).symm)), slot_av (av_int (show spJ P d.length i.toNat = spJ P d.length (i + 1).toNat by first | exact (spJ_piv h0 h29).symm | exact (spJ_add h0 h29 h35).symm | exact (spJ_stay h0 h29 h35).symm)), rfl, trivial⟩ (own_cons (own_vec (show spO P d n (i + 1).toNat = spO P d n i.toNat by first | exact spO_piv h0 h29 | exact spO_set h0 h29 h35 | exact spO_stay h0 h29 h35)) (rfl)))
  ·refine esr rfl fun _ K11 => ?_
   refine ent_o rfl (ok_len rfl Try.runUnderlying22 rfl) ?_
   refine ent_o rfl (ok_lss rfl rfl) ?_
   refine enk K11 ?_
   refine ent_condD rfl (fun h35 => ?_) (fun h35 => ?_)
   ·refine esr rfl fun _ K12 => ?_
    refine ent_o rfl (ok_index 0 sl22 rfl rfl (by omega) (by omega)) ?_
    refine ent_o rfl (ok_load ti3 rfl) ?_
    refine ent_o rfl (ok_indexV sl22 rfl rfl (by omega) (by omega)) ?_
    refine ent_storeV (k := 0) (z := ix 0 d (spJ P d.length i.toNat)) ti3 rfl rfl rfl (elem_one (one_int _)) (by omega) (by omega) ?_
    refine enk K12 ?_
    refine ent_region ?_
    refine emm rfl ?_
    refine ent_o rfl (ok_add rfl rfl (by omega) (by omega)) ?_
    refine emm rfl ?_
    refine enk K9 ?_
    refine ent_region ?_
    refine emm rfl ?_
    refine ent_o rfl (ok_add rfl rfl (by omega) (by omega)) ?_
    refine emm rfl ?_
    refine ent_nil ?_
    refine ent_again (s := (i)) (i + 1) ⟨(by first | rfl | assumption | omega | (simp_all; done) | grind), (by first | rfl | assumption | omega | (simp_all; done) | grind)⟩ (by first | omega | (dsimp only; omega)) (ent_rep ⟨rfl, rfl, rfl, rfl, slot_av (av_int (show spK P i.toNat = spK P (i + 1).toNat by first | exact (spK_yes h0 h29).symm | exact (spK_no h0 h29).symm)), slot_av (av_int (show (spJ P d.length i.toNat) + 1 = spJ P d.length (i + 1).toNat by first | exact (spJ_piv h0 h29).symm | exact (spJ_add h0 h29 h35).symm | exact (spJ_stay h0 h29 h35).symm)), rfl, trivial⟩ (own_cons (own_vec (show spO P d n (i + 1).toNat = List.set (spO P d n i.toNat) (i).toNat (ix 0 d (spJ P d.length i.toNat)) by first | exact spO_piv h0 h29 | exact spO_set h0 h29 h35 | exact spO_stay h0 h29 h35)) (rfl)))
   ·refine esp K9 ?_
    refine ent_region ?_
    refine emm rfl ?_
    refine ent_o rfl (ok_add rfl rfl (by omega) (by omega)) ?_
    refine emm rfl ?_
    refine ent_nil ?_
    refine ent_again (s := (i)) (i + 1) ⟨(by first | rfl | assumption | omega | (simp_all; done) | grind), (by first | rfl | assumption | omega | (simp_all; done) | grind)⟩ (by first | omega | (dsimp only; omega)) (ent_rep ⟨rfl, rfl, rfl, rfl, slot_av (av_int (show spK P i.toNat = spK P (i + 1).toNat by first | exact (spK_yes h0 h29).symm | exact (spK_no h0 h29).symm)), slot_av (av_int (show spJ P d.length i.toNat = spJ P d.length (i + 1).toNat by first | exact (spJ_piv h0 h29).symm | exact (spJ_add h0 h29 h35).symm | exact (spJ_stay h0 h29 h35).symm)), rfl, trivial⟩ (own_cons (own_vec (show spO P d n (i + 1).toNat = spO P d n i.toNat by first | exact spO_piv h0 h29 | exact spO_set h0 h29 h35 | exact spO_stay h0 h29 h35)) (rfl)))
 ·refine ent_exit ?_
  refine ent_k K5 ?_
  refine esk rfl ?_
  refine ent_ret ?_
  exact retR1 (.inr rfl) Try.results43 (resr_tmp (res_cv rfl (cv_vec (k := 0) (off_x rfl) (by first | rfl | assumption | (simp; done) | (simp_all; done) | omega) (by unfold sprd; rw [show i = n by omega]))))

theorem rBinom_ok (n k : Int) (h0n : 0 ≤ n) (h1n : n ≤ 60) (k0 : 0 ≤ k) (k1 : k ≤ n) : Ctr Try.prog 44 [aInt n, aInt k] (aTup [aInt (binT n.toNat k), aInt 0]) := by
 refine ctr_of Try.call44 Try.func44 rfl rfl ?_
 intro w O
 refine esk rfl ?_
 refine ent_seq fun _ K2 => ?_
 refine ent_seq fun _ K3 => ?_
 refine ent_cut (⟨[(0, aInt n), (1, aInt k), (14, aBool (decide ((n < 0) ∨ (64 < n))))], []⟩) ?_ ?_
 ·refine ent_region ?_
  refine emm rfl ?_
  refine ent_o rfl (ok_lss rfl rfl) ?_
  refine emm rfl ?_
  refine ent_guardXDf rfl rfl rfl rfl (fun hg11 => ?_) (fun hg11 => ?_)
  ·refine emm rfl ?_
   refine ent_guardXT rfl rfl rfl rfl (decide_eq_false hg11) ?_
   refine ent_o rfl (ok_gtr rfl rfl) ?_
   refine ent_o rfl (ok_pickF rfl (decide_eq_false hg11) rfl) ?_
   refine ent_nil ?_
   exact ent_rep ⟨rfl, rfl, slot_bool (dq_Q ((or_iff_right hg11).trans Iff.rfl)), trivial⟩ rfl
  ·refine ent_guardXF rfl rfl rfl rfl (decide_eq_true hg11) ?_
   refine ent_o rfl (ok_pickT rfl (decide_eq_true hg11) rfl) ?_
   refine ent_nil ?_
   exact ent_rep ⟨rfl, rfl, slot_bool (dq_T rfl (Or.inl hg11)), trivial⟩ rfl
 refine ent_k K3 ?_
 refine ent_condD rfl (fun h14 => ?_) (fun h14 => ?_)
 ·omega
 ·refine esp K2 ?_
  refine ent_seq fun _ K4 => ?_
  refine ent_seq fun _ K5 => ?_
  refine ent_cut (⟨[(0, aInt n), (1, aInt k), (21, aBool (decide ((k < 0) ∨ (n < k))))], []⟩) ?_ ?_
  ·refine ent_region ?_
   refine emm rfl ?_
   refine ent_o rfl (ok_lss rfl rfl) ?_
   refine emm rfl ?_
   refine ent_guardXDf rfl rfl rfl rfl (fun hg17 => ?_) (fun hg17 => ?_)
   ·refine emm rfl ?_
    refine ent_guardXT rfl rfl rfl rfl (decide_eq_false hg17) ?_
    refine emm rfl ?_
    refine ent_guardXT rfl rfl rfl rfl (decide_eq_false hg17) ?_
    refine ent_o rfl (ok_gtr rfl rfl) ?_
    refine ent_o rfl (ok_pickF rfl (decide_eq_false hg17) rfl) ?_
    refine ent_nil ?_
    exact ent_rep ⟨rfl, rfl, slot_bool (dq_Q ((or_iff_right hg17).trans Iff.rfl)), trivial⟩ rfl
   ·refine ent_guardXF rfl rfl rfl rfl (decide_eq_true hg17) ?_
    refine ent_guardXF rfl rfl rfl rfl (decide_eq_true hg17) ?_
    refine ent_o rfl (ok_pickT rfl (decide_eq_true hg17) rfl) ?_
    refine ent_nil ?_
    exact ent_rep ⟨rfl, rfl, slot_bool (dq_T rfl (Or.inl hg17)), trivial⟩ rfl
  refine ent_k K5 ?_
  refine ent_condD rfl (fun h21 => ?_) (fun h21 => ?_)
  ·omega
  ·refine esp K4 ?_
   refine esr rfl fun _ K6 => ?_
   refine ent_o rfl (ok_add rfl rfl (by first | omega | (simp; omega)) (by first | omega | (simp; omega))) ?_
   refine ent_make aInt 0 rfl vt22 rfl rfl (by first | omega | (simp; omega)) (by first | omega | (simp; omega)) (by first | omega | (simp; omega)) (fun _ _ => rfl) (AllV.mem ⟨rfl, trivial⟩) (fun b24_1 => ?_)
   refine emm rfl ?_
   refine enk K6 ?_
   refine esr rfl fun _ K7 => ?_
   refine ent_o rfl (ok_indexV sl22 rfl rfl (by first | omega | (simp; omega)) (by first | omega | (simp; omega))) ?_
   refine ent_storeV (k := 0) (z := 1) ti3 rfl rfl rfl (elem_one (one_int _)) (by first | omega | (simp; omega)) (by first | omega | (simp; omega)) ?_
   refine enk K7 ?_
   refine ent_seq fun _ K8 => ?_
   refine esk rfl ?_
   refine ent_block ?_
   refine ent_loop (fun (m : Int) => (⟨[(0, aInt n), (1, aInt k), (6, aEx (vec (some b24_1) ((n + 1).toNat) ((n + 1).toNat))), (7, aInt m)], [oVec (some b24_1) ((n + 1).toNat) 3 1 false aInt (bnR n (m - 1))]⟩ : St)) (fun (m : Int) => (1 ≤ m) ∧ (m ≤ n + 1)) (fun (m : Int) => (n + 1 - m).toNat) 1 ⟨(by first | rfl | assumption | omega | (simp_all; done) | grind), (by omega)⟩ (ent_rep ⟨rfl, rfl, rfl, slot_av (av_int (show 1 = (1 : Int) by first | rfl | assumption | omega | (simp_all; done) | grind)), trivial⟩ (own_cons (own_vec (show bnR n ((1 : Int) - 1) = List.set (List.replicate ((n + 1).toNat) 0) 0 1 by exact (bnR_zero h0n).symm)) (rfl))) ?_
   rintro m ⟨m0, m1⟩
   show Ent _ ⟨_, [_]⟩ _
   refine ent_seq fun _ K10 => ?_
   refine esr rfl fun _ K11 => ?_
   refine ent_o rfl (ok_leq rfl rfl) ?_
   refine enk K11 ?_
   refine ent_condD rfl (fun h29 => ?_) (fun h29 => ?_)
   ·refine esp K10 ?_
    refine ent_seq fun _ K12 => ?_
    refine ent_block ?_
    refine esk rfl ?_
    refine ent_block ?_
    refine ent_loop (fun (z : Int) => (⟨[(0, aInt n), (1, aInt k), (6, aEx (vec (some b24_1) ((n + 1).toNat) ((n + 1).toNat))), (7, aInt m), (8, aInt z)], [oVec (some b24_1) ((n + 1).toNat) 3 1 false aInt (bnL n m z)]⟩ : St)) (fun (z : Int) => (0 ≤ z) ∧ (z ≤ m)) (fun (z : Int) => z.toNat) m ⟨(by omega), (by first | rfl | assumption | omega | (simp_all; done) | grind)⟩ (ent_rep ⟨rfl, rfl, rfl, rfl, rfl, trivial⟩ (own_cons (own_vec (show bnL n m m = bnR n (m - 1) by exact (bnL_top m0).symm)) (rfl))) ?_
    rintro z ⟨z0, z1⟩
    show Ent _ ⟨_, [_]⟩ _
    have lbl := length_bnL n m z
    refine ent_seq fun _ K14 => ?_
    refine esr rfl fun _ K15 => ?_
    refine ent_o rfl (ok_geq rfl rfl) ?_
    refine enk K15 ?_
    refine ent_condD rfl (fun h34 => ?_) (fun h34 => ?_)
    ·have hb1 := binT_small (m := m - 1) (k := z) (by omega)
     have hb2 := binT_small (m := m - 1) (k := z - 1) (by omega)
     have e1 := ix_bnL (n := n) (m := m) (k := z) (by omega) (by omega)
     have e2 := ix_bnL' (n := n) (m := m) (k := z) (by omega) (by omega)
     refine esp K14 ?_
     refine ent_seq fun _ K16 => ?_
     refine ent_block ?_
     refine ent_draw 11 mixed (by kernel_rfl) (by kernel_rfl) (by kernel_rfl) ?_
     refine dw_o rfl (ok_move rfl) ?_
     refine dw_o rfl (ok_move rfl) ?_
     refine dw_o rfl (ok_indexV sl22 rfl rfl (by first | omega | (simp; omega)) (by first | omega | (simp; omega))) ?_
     refine dw_o rfl (ok_loadV (k := 0) 0 ti3 rfl rfl (by first | omega | (simp; omega)) (by first | omega | (simp; omega))) ?_
     refine dw_o rfl (ok_move rfl) ?_
     refine dw_o rfl (ok_move rfl) ?_
     refine dw_o rfl (ok_sub rfl rfl (by first | omega | (simp; omega)) (by first | omega | (simp; omega))) ?_
     refine dw_o rfl (ok_indexV sl22 rfl rfl (by first | omega | (simp; omega)) (by first | omega | (simp; omega))) ?_
     refine dw_o rfl (ok_loadV (k := 0) 0 ti3 rfl rfl (by first | omega | (simp; omega)) (by first | omega | (simp; omega))) ?_
     refine dw_o rfl (ok_add rfl rfl (by first | omega | (simp; omega)) (by first | omega | (simp; omega))) ?_
     refine dw_o rfl (ok_indexV sl22 rfl rfl (by first | omega | (simp; omega)) (by first | omega | (simp; omega))) ?_
     refine dw_nil ?_
     refine ent_storeV (k := 0) (z := (ix 0 (bnL n m z) z) + (ix 0 (bnL n m z) (z - 1))) ti3 rfl rfl rfl (elem_one (one_int _)) (by first | omega | (simp; omega)) (by first | omega | (simp; omega)) ?_
     refine enk K16 ?_
     refine ent_region ?_
     refine emm rfl ?_
     refine ent_o rfl (ok_sub rfl rfl (by first | omega | (simp; omega)) (by first | omega | (simp; omega))) ?_
     refine emm rfl ?_
     refine ent_nil ?_
     refine ent_again (s := (z)) (z - 1) ⟨(by omega), (by omega)⟩ (by first | omega | (dsimp only; omega)) (ent_rep ⟨rfl, rfl, rfl, rfl, rfl, trivial⟩ (own_cons (own_vec (show bnL n m (z - 1) = List.set (bnL n m z) (z).toNat ((ix 0 (bnL n m z) z) + (ix 0 (bnL n m z) (z - 1))) by exact (bnL_step m0 (by omega) (by omega)).symm)) (rfl)))
    ·refine ent_exit ?_
     refine ent_k K12 ?_
     refine ent_region ?_
     refine emm rfl ?_
     refine ent_o rfl (ok_add rfl rfl (by first | omega | (simp; omega)) (by first | omega | (simp; omega))) ?_
     refine emm rfl ?_
     refine ent_nil ?_
     refine ent_again (s := (m)) (m + 1) ⟨(by first | rfl | assumption | omega | (simp_all; done) | grind), (by first | rfl | assumption | omega | (simp_all; done) | grind)⟩ (by first | omega | (dsimp only; omega)) (ent_rep ⟨rfl, rfl, rfl, rfl, trivial⟩ (own_cons (own_vec (show bnR n ((m + 1) - 1) = bnL n m z by rw [bnL_end m0 z0 (by omega), show m + 1 - 1 = m by omega])) (rfl)))
   ·refine ent_exit ?_
    refine ent_k K8 ?_
    refine ent_seq fun _ K17 => ?_
    have lbr := length_bnR n (m - 1)
    refine ent_region ?_
    refine emm rfl ?_
    refine ent_o rfl (ok_indexV sl22 rfl rfl (by first | omega | (simp; omega)) (by first | omega | (simp; omega))) ?_
    refine ent_o rfl (ok_loadV (k := 0) 0 ti3 rfl rfl (by first | omega | (simp; omega)) (by first | omega | (simp; omega))) ?_
    refine emm rfl ?_
    refine enk K17 ?_
    refine ent_ret ?_
    exact retR2 (.inr rfl) Try.results44 (resr_tmp (res_cv rfl (cv_int (by rw [show m = n + 1 by omega, show n + 1 - 1 = n by omega, ix_bnR k0 k1])))) (resr_tmp (res_cv rfl (cv_int (by rfl))))
end Go.Proofs.Ytbofipdmoocflaa

