/-
  Walks of functions of the program and the reference.
-/
import Derived.Test.YtbofipdmoocflaaProg
import Derived.Test.YtbofipdmoocflaaXTab
import Derived.Test.YtbofipdmoocflaaPlainEm
import Derived.Test.YtbofipdmoocflaaCiLib
import Derived.Test.YtbofipdmoocflaaX4
import Derived.Test.YtbofipdmoocflaaX5
import Derived.Test.YtbofipdmoocflaaX6
import Derived.Test.YtbofipdmoocflaaX9
import Derived.Test.YtbofipdmoocflaaX1
import Derived.Test.YtbofipdmoocflaaX10
import Derived.Test.YtbofipdmoocflaaX11
import Derived.Test.YtbofipdmoocflaaX12
import Derived.Test.YtbofipdmoocflaaX13
import Derived.Test.YtbofipdmoocflaaX14
import Derived.Test.YtbofipdmoocflaaX15
import Derived.Test.YtbofipdmoocflaaX18
import Derived.Test.YtbofipdmoocflaaX19
import Derived.Test.YtbofipdmoocflaaX20
import Derived.Test.YtbofipdmoocflaaX30
import Derived.Test.YtbofipdmoocflaaX31
import Derived.Test.YtbofipdmoocflaaX32
import Derived.Test.YtbofipdmoocflaaX33
open Go Go.Cw
namespace Go.Proofs.Ytbofipdmoocflaa
set_option maxRecDepth 100000
set_option linter.unusedVariables false
set_option linter.unusedSimpArgs false
theorem eEntries_ok (f : Fld) (l : List Int) (n : Int)  : Ctr Try.prog 68 [aGF f, aSl 1 false aInt l, aInt n] (aInt (lisE f l n)) := by
 refine ctr_of Try.call68 Try.func68 rfl rfl ?_
 intro w O
 refine ent_lenP 0 4 rfl rfl (fun hlen0_4 => ?_)
 refine ent_lenP 0 5 rfl rfl (fun hlen0_5 => ?_)
 refine ent_len 1 rfl (fun hlen1 => ?_)
 refine esk rfl ?_
 refine ent_seq fun _ K2 => ?_
 refine esr rfl fun _ K3 => ?_
 refine ent_o rfl (ok_len rfl Try.runUnderlying22 rfl) ?_
 refine emm rfl ?_
 refine ent_o rfl (ok_neq rfl rfl) ?_
 refine enk K3 ?_
 refine ent_condD rfl (fun h12 => ?_) (fun h12 => ?_)
 ·refine esk rfl ?_
  refine ent_ret ?_
  exact retR1 (.inr rfl) Try.results68 (resr_tmp (res_cv rfl (cv_int (by unfold lisE; rw [if_pos h12]))))
 ·refine esp K2 ?_
  refine ent_seq fun _ K5 => ?_
  refine esr rfl fun _ K6 => ?_
  refine ent_o rfl (ok_len rfl Try.runUnderlying22 rfl) ?_
  refine emm rfl ?_
  refine enk K6 ?_
  refine ent_block ?_
  refine ent_loop (fun (i : Int) => (⟨[(0, aGF f), (13, aSl 1 false aInt l), (14, aInt (↑l.length : Int)), (15, aInt i)], []⟩ : St)) (fun (i : Int) => (0 ≤ i) ∧ (i ≤ l.length) ∧ (¬ outF f (l.take i.toNat))) (fun (i : Int) => (l.length - i).toNat) 0 ⟨(by first | rfl | assumption | omega | (simp_all; done) | grind), (by first | rfl | assumption | omega | (simp_all; done) | grind), (by simp [outF])⟩ (ent_rep ⟨rfl, rfl, rfl, slot_av (av_int (show 0 = (0 : Int) by first | rfl | assumption | omega | (simp_all; done) | grind)), trivial⟩ rfl) ?_
  rintro i ⟨h0, h1, hn⟩
  show Ent _ ⟨_, []⟩ _
  refine esr rfl fun _ K7 => ?_
  refine ent_o rfl (ok_lss rfl rfl) ?_
  refine enk K7 ?_
  refine ent_seq fun _ K8 => ?_
  refine ent_condD rfl (fun h16 => ?_) (fun h16 => ?_)
  ·refine esp K8 ?_
   refine ent_seq fun _ K9 => ?_
   refine ent_block ?_
   refine esr rfl fun _ K10 => ?_
   refine ent_o rfl (ok_index 0 sl22 rfl rfl (by omega) (by omega)) ?_
   refine ent_o rfl (ok_load ti3 rfl) ?_
   refine emm rfl ?_
   refine enk K10 ?_
   refine esr rfl fun _ K11 => ?_
   refine ent_o rfl (ok_call (Is_ok f (ix 0 l i)) rfl) ?_
   refine ent_o rfl (ok_notD rfl) ?_
   refine enk K11 ?_
   refine ent_condD rfl (fun h22 => ?_) (fun h22 => ?_)
   ·refine esk rfl ?_
    refine ent_ret ?_
    exact retR1 (.inr rfl) Try.results68 (resr_tmp (res_cv rfl (cv_int (by unfold lisE; rw [if_neg h12]; unfold entErr; rw [if_pos (outF_at h0 h16 h22)]))))
   ·refine esp K9 ?_
    refine ent_region ?_
    refine ent_o rfl (ok_add rfl rfl (by omega) (by omega)) ?_
    refine emm rfl ?_
    refine ent_nil ?_
    refine ent_again (s := (i)) (i + 1) ⟨(by first | rfl | assumption | omega | (simp_all; done) | grind), (by first | rfl | assumption | omega | (simp_all; done) | grind), (outF_succ h0 h16 hn (Classical.not_not.1 h22))⟩ (by first | omega | (dsimp only; omega)) (ent_rep ⟨rfl, rfl, rfl, rfl, trivial⟩ rfl)
  ·refine ent_exit ?_
   refine ent_k K5 ?_
   refine esk rfl ?_
   refine ent_ret ?_
   exact retR1 (.inr rfl) Try.results68 (resr_tmp (res_cv rfl (cv_int (by unfold lisE; rw [if_neg h12]; unfold entErr; rw [if_neg (by rw [List.take_of_length_le (by omega)] at hn; exact hn)]))))

theorem rList_ok (f : Fld) (l : List Int) (n : Int)  : Ctr Try.prog 62 [aFld f, aSl 1 false aInt l, aInt n] (aInt (lisE f l n)) := by
 refine ctr_of Try.call62 Try.func62 rfl rfl ?_
 intro w O
 refine ent_lenC 0 2 rfl rfl (fun hlen0_2 => ?_)
 refine ent_len 1 rfl (fun hlen1 => ?_)
 refine esr rfl fun _ K1 => ?_
 refine ent_boxS rfl rfl (AllOne.mem ⟨(one_int _), (one_int _), one_sl, trivial⟩) (fun b3_1 => ?_)
 refine emm rfl ?_
 refine enk K1 ?_
 refine ent_seq fun _ K2 => ?_
 refine esr rfl fun _ K3 => ?_
 refine ent_o rfl (ok_len rfl Try.runUnderlying22 rfl) ?_
 refine emm rfl ?_
 refine ent_o rfl (ok_neq rfl rfl) ?_
 refine enk K3 ?_
 refine ent_condD rfl (fun h10 => ?_) (fun h10 => ?_)
 ·refine esk rfl ?_
  refine ent_ret ?_
  exact retR1 (.inr rfl) Try.results62 (resr_tmp (res_cv rfl (cv_int (by unfold lisE; rw [if_pos h10]))))
 ·refine esp K2 ?_
  refine esr rfl fun _ K5 => ?_
  refine ent_o rfl (ok_loadBS (k := 0) ti24 rfl rfl rfl) ?_
  refine emm rfl ?_
  refine ent_o rfl (ok_call (rEntries_ok f l) rfl) ?_
  refine emm rfl ?_
  refine enk K5 ?_
  refine ent_ret ?_
  exact retR1 (.inr rfl) Try.results62 (resr_tmp (res_cv rfl (cv_int (by unfold lisE; rw [if_neg h10]))))

theorem rWord_ok (c : Cod) (x : List Int)  : Ctr Try.prog 60 [aCod c, aSl 1 false aInt x] (aInt (wrdE c x)) := by
 refine ctr_of Try.call60 Try.func60 rfl rfl ?_
 intro w O
 refine ent_lenC 0 2 rfl rfl (fun hlen0_2 => ?_)
 refine ent_lenC 0 4 rfl rfl (fun hlen0_4 => ?_)
 refine ent_len 1 rfl (fun hlen1 => ?_)
 refine esr rfl fun _ K1 => ?_
 refine ent_boxS rfl rfl (AllOne.mem ⟨(one_int _), (one_int _), one_sl, (one_int _), one_sl, trivial⟩) (fun b2_1 => ?_)
 refine emm rfl ?_
 refine enk K1 ?_
 refine esr rfl fun _ K2 => ?_
 refine ent_o rfl (ok_loadBS (k := 0) ti27 rfl rfl rfl) ?_
 refine ent_o rfl (ok_call (rcCheck_ok c) rfl) ?_
 refine emm rfl ?_
 refine enk K2 ?_
 refine ent_seq fun _ K3 => ?_
 refine esr rfl fun _ K4 => ?_
 refine ent_o rfl (ok_eql rfl rfl) ?_
 refine enk K4 ?_
 refine ent_cut (⟨[(5, aInt (wrdE c x))], [oBox b2_1 27 [aInt c.F.P, aInt c.F.M, aSl 1 false aInt c.F.mod, aInt c.N, aSl 1 false aInts c.Gen]]⟩) ?_ ?_
 ·refine ent_condD rfl (fun h9 => ?_) (fun h9 => ?_)
  ·refine ent_region ?_
   refine ent_o rfl (ok_fieldAddrEx Try.runUnderlying27 rfl Try.sizeOf24 (by decide) rfl) ?_
   refine ent_o rfl (ok_loadBS (k := 0) ti24 rfl rfl rfl) ?_
   refine emm rfl ?_
   refine ent_o rfl (ok_fieldAddrEx Try.runUnderlying27 rfl Try.sizeOf3 (by decide) rfl) ?_
   refine ent_o rfl (ok_loadB (k := 0) Try.isAgg3 rfl rfl rfl) ?_
   refine ent_o rfl (ok_call (rList_ok c.F x c.N) rfl) ?_
   refine emm rfl ?_
   refine ent_nil ?_
   exact ent_rep ⟨slot_av (av_int (show lisE c.F x c.N = wrdE c x by unfold wrdE; first | (rw [if_pos h9]) | (rw [if_neg h9]))), trivial⟩ rfl
  ·refine ent_skip ?_
   exact ent_rep ⟨slot_av (av_int (show codE c = wrdE c x by unfold wrdE; first | (rw [if_pos h9]) | (rw [if_neg h9]))), trivial⟩ rfl
 refine ent_k K3 ?_
 refine esk rfl ?_
 refine ent_ret ?_
 exact retR1 (.inr rfl) Try.results60 (resr_tmp (res_cv rfl (cv_int (by rfl))))

theorem rEncode_ok (c : Cod) (m : List Int)  : Ctr Try.prog 27 [aCod c, aSl 1 false aInt m] (aTup [aSl 1 false aInt (encC c m), aInt (encE c m)]) := by
 refine ctr_of Try.call27 Try.func27 rfl rfl ?_
 intro w O
 refine ent_lenC 0 2 rfl rfl (fun hlen0_2 => ?_)
 refine ent_lenC 0 4 rfl rfl (fun hlen0_4 => ?_)
 refine ent_len 1 rfl (fun hlen1 => ?_)
 refine esr rfl fun _ K1 => ?_
 refine ent_boxS rfl rfl (AllOne.mem ⟨(one_int _), (one_int _), one_sl, (one_int _), one_sl, trivial⟩) (fun b2_1 => ?_)
 refine emm rfl ?_
 refine enk K1 ?_
 refine esr rfl fun _ K2 => ?_
 refine ent_o rfl (ok_loadBS (k := 0) ti27 rfl rfl rfl) ?_
 refine ent_o rfl (ok_call (rcCheck_ok c) rfl) ?_
 refine emm rfl ?_
 refine enk K2 ?_
 refine ent_seq fun _ K3 => ?_
 refine esr rfl fun _ K4 => ?_
 refine ent_o rfl (ok_eql rfl rfl) ?_
 refine enk K4 ?_
 refine ent_cut (⟨[(1, aSl 1 false aInt m), (2, aEx (.pointer (some ⟨b2_1, 0, none⟩))), (6, aInt (encE c m))], [oBox b2_1 27 [aInt c.F.P, aInt c.F.M, aSl 1 false aInt c.F.mod, aInt c.N, aSl 1 false aInts c.Gen]]⟩) ?_ ?_
 ·refine ent_condD rfl (fun h10 => ?_) (fun h10 => ?_)
  ·refine ent_region ?_
   refine ent_o rfl (ok_fieldAddrEx Try.runUnderlying27 rfl Try.sizeOf24 (by decide) rfl) ?_
   refine ent_o rfl (ok_loadBS (k := 0) ti24 rfl rfl rfl) ?_
   refine emm rfl ?_
   refine ent_o rfl (ok_fieldAddrEx Try.runUnderlying27 rfl Try.sizeOf25 (by decide) rfl) ?_
   refine ent_o rfl (ok_loadB (k := 0) Try.isAgg25 rfl rfl rfl) ?_
   refine ent_o rfl (ok_len rfl Try.runUnderlying25 rfl) ?_
   refine ent_o rfl (ok_call (rList_ok c.F m (↑c.Gen.length : Int)) rfl) ?_
   refine emm rfl ?_
   refine ent_nil ?_
   exact ent_rep ⟨rfl, rfl, slot_av (av_int (show lisE c.F m (↑c.Gen.length : Int) = encE c m by unfold encE; first | (rw [if_pos h10]) | (rw [if_neg h10]))), trivial⟩ rfl
  ·refine ent_skip ?_
   exact ent_rep ⟨rfl, rfl, slot_av (av_int (show codE c = encE c m by unfold encE; first | (rw [if_pos h10]) | (rw [if_neg h10]))), trivial⟩ rfl
 refine ent_k K3 ?_
 refine ent_seq fun _ K5 => ?_
 refine esr rfl fun _ K6 => ?_
 refine ent_o rfl (ok_neq rfl rfl) ?_
 refine enk K6 ?_
 refine ent_condD rfl (fun h19 => ?_) (fun h19 => ?_)
 ·refine esk rfl ?_
  refine ent_ret ?_
  exact retR2 (.inr rfl) Try.results27 (resr_tmp (res_cv rfl (cv_nil (fun _ => rfl) (by unfold encC; rw [if_neg h19])))) (resr_tmp (res_cv rfl (cv_int (by rfl))))
 ·have he := Classical.not_not.1 h19
  have hk := (encE_zero.1 he).1
  have hn1 := hk.n1
  have hn64 := hk.n64
  refine esp K5 ?_
  refine esr rfl fun _ K8 => ?_
  refine ent_o rfl (ok_fieldAddrEx Try.runUnderlying27 rfl Try.sizeOf24 (by decide) rfl) ?_
  refine ent_o rfl (ok_loadBS (k := 0) ti24 rfl rfl rfl) ?_
  refine emm rfl ?_
  refine ent_o rfl (ok_fieldAddrEx Try.runUnderlying27 rfl Try.sizeOf25 (by decide) rfl) ?_
  refine ent_o rfl (ok_loadB (k := 0) Try.isAgg25 rfl rfl rfl) ?_
  refine ent_o rfl (ok_fieldAddrEx Try.runUnderlying27 rfl Try.sizeOf3 (by decide) rfl) ?_
  refine ent_o rfl (ok_loadB (k := 0) Try.isAgg3 rfl rfl rfl) ?_
  refine ent_o rfl (ok_call (rCombine_ok c.F m c.Gen c.N hk.fld.1 (by first | rfl | assumption | omega | (simp_all; done) | grind) (by first | rfl | assumption | omega | (simp_all; done) | grind) (fun i i0 i1 => hk.row i0 i1)) rfl) ?_
  refine emm rfl ?_
  refine enk K8 ?_
  refine ent_ret ?_
  exact retR2 (.inr rfl) Try.results27 (resr_tmp (res_cv rfl (cv_sl sub_x (by unfold encC; rw [if_pos he])))) (resr_tmp (res_cv rfl (cv_int (by exact he.symm))))

theorem rClean_ok (f : Fld) (l : List Int) (hl : l.length ≤ 1000000) : Ctr Try.prog 94 [aFld f, aSl 1 false aInt l] (aSl 1 false aInt (l.map (inF f))) := by
 refine ctr_of Try.call94 Try.func94 rfl rfl ?_
 intro w O
 refine ent_lenC 0 2 rfl rfl (fun hlen0_2 => ?_)
 refine ent_len 1 rfl (fun hlen1 => ?_)
 refine esr rfl fun _ K1 => ?_
 refine ent_boxS rfl rfl (AllOne.mem ⟨(one_int _), (one_int _), one_sl, trivial⟩) (fun b2_1 => ?_)
 refine emm rfl ?_
 refine enk K1 ?_
 refine esr rfl fun _ K2 => ?_
 refine ent_o rfl (ok_loadBS (k := 0) ti24 rfl rfl rfl) ?_
 refine ent_o rfl (ok_call (rOrder_ok f) rfl) ?_
 refine emm rfl ?_
 refine enk K2 ?_
 refine esr rfl fun _ K3 => ?_
 refine ent_o rfl (ok_len rfl Try.runUnderlying22 rfl) ?_
 refine ent_make aInt 0 rfl vt22 rfl rfl (by omega) (by omega) (by omega) (fun _ _ => rfl) (AllV.mem ⟨rfl, trivial⟩) (fun b12_2 => ?_)
 refine emm rfl ?_
 refine enk K3 ?_
 refine ent_seq fun _ K4 => ?_
 refine esk rfl ?_
 refine ent_block ?_
 refine ent_loop (fun (i : Int) => (⟨[(1, aSl 1 false aInt l), (5, aInt f.q), (6, aEx (vec (some b12_2) (((↑l.length : Int)).toNat) (((↑l.length : Int)).toNat))), (7, aInt i)], [oVec (some b12_2) (((↑l.length : Int)).toNat) 3 1 false aInt (mixL (l.map (inF f)) (List.replicate l.length 0) i), oBox b2_1 24 [aInt f.P, aInt f.M, aSl 1 false aInt f.mod]]⟩ : St)) (fun (i : Int) => (0 ≤ i) ∧ (i ≤ l.length)) (fun (i : Int) => (l.length - i).toNat) 0 ⟨(by first | rfl | assumption | omega | (simp_all; done) | grind), (by first | rfl | assumption | omega | (simp_all; done) | grind)⟩ (ent_rep ⟨rfl, rfl, rfl, slot_av (av_int (show 0 = (0 : Int) by first | rfl | assumption | omega | (simp_all; done) | grind)), trivial⟩ (own_cons (own_vec (show mixL (l.map (inF f)) (List.replicate l.length 0) (0 : Int) = List.replicate (((↑l.length : Int)).toNat) 0 by exact mixL_zero _ _)) (rfl))) ?_
 rintro i ⟨h0, h1⟩
 show Ent _ ⟨_, [_, _]⟩ _
 have lm : (mixL (l.map (inF f)) (List.replicate l.length 0) i).length = l.length := by rw [length_mixL _ _ (by simp)]; simp
 refine ent_seq fun _ K6 => ?_
 refine esr rfl fun _ K7 => ?_
 refine ent_o rfl (ok_len rfl Try.runUnderlying22 rfl) ?_
 refine ent_o rfl (ok_lss rfl rfl) ?_
 refine enk K7 ?_
 refine ent_condD rfl (fun h16 => ?_) (fun h16 => ?_)
 ·have hmi := ix_map_inF f l h0 (show i < l.length by omega)
  refine esp K6 ?_
  refine ent_seq fun _ K8 => ?_
  refine ent_block ?_
  refine ent_seq fun _ K9 => ?_
  refine ent_cut (⟨[(1, aSl 1 false aInt l), (5, aInt f.q), (6, aEx (vec (some b12_2) (((↑l.length : Int)).toNat) (((↑l.length : Int)).toNat))), (7, aInt i), (31, aBool (decide ((0 ≤ (ix 0 l i)) ∧ ((ix 0 l i) < f.q))))], [oVec (some b12_2) (((↑l.length : Int)).toNat) 3 1 false aInt (mixL (l.map (inF f)) (List.replicate l.length 0) i), oBox b2_1 24 [aInt f.P, aInt f.M, aSl 1 false aInt f.mod]]⟩) ?_ ?_
  ·refine ent_region ?_
   refine emm rfl ?_
   refine ent_o rfl (ok_index 0 sl22 rfl rfl (by omega) (by omega)) ?_
   refine ent_o rfl (ok_load ti3 rfl) ?_
   refine ent_o rfl (ok_geq rfl rfl) ?_
   refine emm rfl ?_
   refine ent_guardXDt rfl rfl rfl rfl (fun hg24 => ?_) (fun hg24 => ?_)
   ·refine emm rfl ?_
    refine ent_guardXT rfl rfl rfl rfl (decide_eq_true hg24) ?_
    refine emm rfl ?_
    refine ent_guardXT rfl rfl rfl rfl (decide_eq_true hg24) ?_
    refine ent_o rfl (ok_index 0 sl22 rfl rfl (by omega) (by omega)) ?_
    refine ent_guardXT rfl rfl rfl rfl (decide_eq_true hg24) ?_
    refine ent_o rfl (ok_load ti3 rfl) ?_
    refine ent_guardXT rfl rfl rfl rfl (decide_eq_true hg24) ?_
    refine emm rfl ?_
    refine ent_guardXT rfl rfl rfl rfl (decide_eq_true hg24) ?_
    refine ent_o rfl (ok_lss rfl rfl) ?_
    refine ent_o rfl (ok_pickT rfl (decide_eq_true hg24) rfl) ?_
    refine ent_nil ?_
    exact ent_rep ⟨rfl, rfl, rfl, rfl, slot_bool (dq_Q ((and_iff_right hg24).trans Iff.rfl)), trivial⟩ rfl
   ·refine ent_guardXF rfl rfl rfl rfl (decide_eq_false hg24) ?_
    refine ent_guardXF rfl rfl rfl rfl (decide_eq_false hg24) ?_
    refine ent_guardXF rfl rfl rfl rfl (decide_eq_false hg24) ?_
    refine ent_guardXF rfl rfl rfl rfl (decide_eq_false hg24) ?_
    refine ent_guardXF rfl rfl rfl rfl (decide_eq_false hg24) ?_
    refine ent_o rfl (ok_pickF rfl (decide_eq_false hg24) rfl) ?_
    refine ent_nil ?_
    exact ent_rep ⟨rfl, rfl, rfl, rfl, slot_bool (dq_F rfl (fun h => hg24 h.1)), trivial⟩ rfl
  refine ent_k K9 ?_
  refine ent_condD rfl (fun h31 => ?_) (fun h31 => ?_)
  ·refine ent_region ?_
   refine emm rfl ?_
   refine ent_o rfl (ok_index 0 sl22 rfl rfl (by omega) (by omega)) ?_
   refine ent_o rfl (ok_load ti3 rfl) ?_
   refine ent_o rfl (ok_indexV sl22 rfl rfl (by omega) (by omega)) ?_
   refine ent_storeV (k := 0) (z := ix 0 l i) ti3 rfl rfl rfl (elem_one (one_int _)) (by omega) (by omega) ?_
   refine enk K8 ?_
   refine ent_region ?_
   refine emm rfl ?_
   refine ent_o rfl (ok_add rfl rfl (by omega) (by omega)) ?_
   refine emm rfl ?_
   refine ent_nil ?_
   refine ent_again (s := (i)) (i + 1) ⟨(by first | rfl | assumption | omega | (simp_all; done) | grind), (by first | rfl | assumption | omega | (simp_all; done) | grind)⟩ (by first | omega | (dsimp only; omega)) (ent_rep ⟨rfl, rfl, rfl, rfl, trivial⟩ (own_cons (own_vec (show mixL (l.map (inF f)) (List.replicate l.length 0) (i + 1) = List.set (mixL (l.map (inF f)) (List.replicate l.length 0) i) (i).toNat (ix 0 l i) by first | exact (mixL_set _ _ h0 (by simp; omega) (by simp) (by rw [hmi]; unfold inF; rw [if_pos h31])).symm | exact (mixL_skip _ _ h0 (by simp; omega) (by simp) (by rw [ix_replicate0, hmi]; unfold inF; rw [if_neg h31])).symm)) (rfl)))
  ·refine esp K8 ?_
   refine ent_region ?_
   refine emm rfl ?_
   refine ent_o rfl (ok_add rfl rfl (by omega) (by omega)) ?_
   refine emm rfl ?_
   refine ent_nil ?_
   refine ent_again (s := (i)) (i + 1) ⟨(by first | rfl | assumption | omega | (simp_all; done) | grind), (by first | rfl | assumption | omega | (simp_all; done) | grind)⟩ (by first | omega | (dsimp only; omega)) (ent_rep ⟨rfl, rfl, rfl, rfl, trivial⟩ (own_cons (own_vec (show mixL (l.map (inF f)) (List.replicate l.length 0) (i + 1) = mixL (l.map (inF f)) (List.replicate l.length 0) i by first | exact (mixL_set _ _ h0 (by simp; omega) (by simp) (by rw [hmi]; unfold inF; rw [if_pos h31])).symm | exact (mixL_skip _ _ h0 (by simp; omega) (by simp) (by rw [ix_replicate0, hmi]; unfold inF; rw [if_neg h31])).symm)) (rfl)))
 ·have hma : mixL (l.map (inF f)) (List.replicate l.length 0) i = l.map (inF f) := mixL_all _ _ (by simp; omega) (by simp; omega)
  refine ent_exit ?_
  refine ent_k K4 ?_
  refine ent_seq fun _ K10 => ?_
  refine ent_give 0 6 rfl (cv_vec (k := 0) (off_erase rfl) (by first | rfl | assumption | (simp; done) | (simp_all; done) | omega) rfl) ?_
  refine ent_region ?_
  refine emm rfl ?_
  refine enk K10 ?_
  refine ent_ret ?_
  exact retR1 (.inr rfl) Try.results94 (resr_tmp (res_cv rfl (cv_sl sub_x (by rw [hma]))))

theorem rSupport_ok (f : Fld) (l : List Int) (hl : l.length ≤ 1000000) : Ctr Try.prog 64 [aFld f, aSl 1 false aInt l] (aSl 1 false aInt (filTo (fun z => decide (ix 0 (l.map (inF f)) z ≠ 0)) (fun z => z) l.length)) := by
 refine ctr_of Try.call64 Try.func64 rfl rfl ?_
 intro w O
 refine ent_lenC 0 2 rfl rfl (fun hlen0_2 => ?_)
 refine ent_len 1 rfl (fun hlen1 => ?_)
 refine esr rfl fun _ K1 => ?_
 refine ent_boxS rfl rfl (AllOne.mem ⟨(one_int _), (one_int _), one_sl, trivial⟩) (fun b2_1 => ?_)
 refine emm rfl ?_
 refine enk K1 ?_
 refine esr rfl fun _ K2 => ?_
 refine ent_o rfl (ok_loadBS (k := 0) ti24 rfl rfl rfl) ?_
 refine emm rfl ?_
 refine ent_o rfl (ok_call (rClean_ok f l (by first | rfl | assumption | omega | (simp_all; done) | grind)) rfl) ?_
 refine emm rfl ?_
 refine enk K2 ?_
 refine esr rfl fun _ K3 => ?_
 refine ent_buildN aInt [] rfl vt22 (by decide) (rfl) rfl (fun b11_2 => ?_)
 refine emm rfl ?_
 refine enk K3 ?_
 refine ent_seq fun _ K4 => ?_
 refine esk rfl ?_
 refine ent_block ?_
 refine ent_loop (fun (ss : Int × Option Nat × Nat) => match ss with | (i, rr3, cc3) => (⟨[(5, aSl 1 false aInt (l.map (inF f))), (6, aEx (vec rr3 ((filTo (fun z => decide (ix 0 (l.map (inF f)) z ≠ 0)) (fun z => z) i.toNat).length) cc3)), (7, aInt i)], [oVec rr3 cc3 3 1 false aInt (filTo (fun z => decide (ix 0 (l.map (inF f)) z ≠ 0)) (fun z => z) i.toNat), oBox b2_1 24 [aInt f.P, aInt f.M, aSl 1 false aInt f.mod]]⟩ : St)) (fun (ss : Int × Option Nat × Nat) => match ss with | (i, rr3, cc3) => (0 ≤ i) ∧ (i ≤ l.length)) (fun (ss : Int × Option Nat × Nat) => match ss with | (i, rr3, cc3) => (l.length - i).toNat) (0, (some b11_2), 0) ⟨(by first | rfl | assumption | omega | (simp_all; done) | grind), (by first | rfl | assumption | omega | (simp_all; done) | grind)⟩ (ent_rep ⟨rfl, slot_av (av_vec (congrArg List.length (show filTo (fun z => decide (ix 0 (l.map (inF f)) z ≠ 0)) (fun z => z) (0 : Int).toNat = [] by rfl).symm)), slot_av (av_int (show 0 = (0 : Int) by first | rfl | assumption | omega | (simp_all; done) | grind)), trivial⟩ (own_cons (own_vec (show filTo (fun z => decide (ix 0 (l.map (inF f)) z ≠ 0)) (fun z => z) (0 : Int).toNat = [] by rfl)) (rfl))) ?_
 rintro ⟨i, rr3, cc3⟩ ⟨h0, h1⟩
 show Ent _ ⟨_, [_, _]⟩ _
 have lfl := length_filTo_le (fun z => decide (ix 0 (l.map (inF f)) z ≠ 0)) (fun z => z) i.toNat
 have lmm : (l.map (inF f)).length = l.length := by simp
 refine ent_seq fun _ K6 => ?_
 refine esr rfl fun _ K7 => ?_
 refine ent_o rfl (ok_len rfl Try.runUnderlying22 rfl) ?_
 refine ent_o rfl (ok_lss rfl rfl) ?_
 refine enk K7 ?_
 refine ent_condD rfl (fun h15 => ?_) (fun h15 => ?_)
 ·refine esp K6 ?_
  refine ent_seq fun _ K8 => ?_
  refine ent_block ?_
  refine esr rfl fun _ K9 => ?_
  refine ent_o rfl (ok_index 0 sl22 rfl rfl (by omega) (by omega)) ?_
  refine ent_o rfl (ok_load ti3 rfl) ?_
  refine ent_o rfl (ok_neq rfl rfl) ?_
  refine enk K9 ?_
  refine ent_condD rfl (fun h22 => ?_) (fun h22 => ?_)
  ·refine ent_region ?_
   refine emm rfl ?_
   refine ent_appendL (k := 0) (enc := aInt) (y := i) rfl rfl vt22 rfl rfl (by first | rfl | assumption | (simp; done) | (simp_all; done) | omega) rfl ((elem_one (one_int _))) (by first | omega | (simp only [List.length_append, List.length_cons, List.length_nil]; omega) | (simp; omega)) (by first | omega | (simp only [List.length_append, List.length_cons, List.length_nil]; omega) | (simp; omega)) (by decide) (fun b26_4 c26_4 => ?_)
   refine emm rfl ?_
   refine enk K8 ?_
   refine ent_region ?_
   refine emm rfl ?_
   refine ent_o rfl (ok_add rfl rfl (by omega) (by omega)) ?_
   refine emm rfl ?_
   refine ent_nil ?_
   refine ent_again (s := (i, rr3, cc3)) (i + 1, (some b26_4), c26_4) ⟨(by first | rfl | assumption | omega | (simp_all; done) | grind), (by simp at h15; omega)⟩ (by first | omega | (dsimp only; omega)) (ent_rep ⟨rfl, slot_av (av_vec (congrArg List.length (show filTo (fun z => decide (ix 0 (l.map (inF f)) z ≠ 0)) (fun z => z) (i + 1).toNat = (filTo (fun z => decide (ix 0 (l.map (inF f)) z ≠ 0)) (fun z => z) i.toNat) ++ [i] by first | exact (filTo_yes h0 (decide_eq_true h22)).symm | exact (filTo_no h0 (decide_eq_false h22)).symm).symm)), rfl, trivial⟩ (own_cons (own_vec (show filTo (fun z => decide (ix 0 (l.map (inF f)) z ≠ 0)) (fun z => z) (i + 1).toNat = (filTo (fun z => decide (ix 0 (l.map (inF f)) z ≠ 0)) (fun z => z) i.toNat) ++ [i] by first | exact (filTo_yes h0 (decide_eq_true h22)).symm | exact (filTo_no h0 (decide_eq_false h22)).symm)) (rfl)))
  ·refine esp K8 ?_
   refine ent_region ?_
   refine emm rfl ?_
   refine ent_o rfl (ok_add rfl rfl (by omega) (by omega)) ?_
   refine emm rfl ?_
   refine ent_nil ?_
   refine ent_again (s := (i, rr3, cc3)) (i + 1, rr3, cc3) ⟨(by first | rfl | assumption | omega | (simp_all; done) | grind), (by simp at h15; omega)⟩ (by first | omega | (dsimp only; omega)) (ent_rep ⟨rfl, slot_av (av_vec (congrArg List.length (show filTo (fun z => decide (ix 0 (l.map (inF f)) z ≠ 0)) (fun z => z) (i + 1).toNat = filTo (fun z => decide (ix 0 (l.map (inF f)) z ≠ 0)) (fun z => z) i.toNat by first | exact (filTo_yes h0 (decide_eq_true h22)).symm | exact (filTo_no h0 (decide_eq_false h22)).symm).symm)), rfl, trivial⟩ (own_cons (own_vec (show filTo (fun z => decide (ix 0 (l.map (inF f)) z ≠ 0)) (fun z => z) (i + 1).toNat = filTo (fun z => decide (ix 0 (l.map (inF f)) z ≠ 0)) (fun z => z) i.toNat by first | exact (filTo_yes h0 (decide_eq_true h22)).symm | exact (filTo_no h0 (decide_eq_false h22)).symm)) (rfl)))
 ·refine ent_exit ?_
  refine ent_k K4 ?_
  refine esk rfl ?_
  refine ent_ret ?_
  exact retR1 (.inr rfl) Try.results64 (resr_tmp (res_cv rfl (cv_vec (k := 0) (off_x rfl) (by first | rfl | assumption | (simp; done) | (simp_all; done) | omega) (by rw [show i.toNat = l.length by omega]))))

theorem rWeight_ok (f : Fld) (l : List Int) (hl : l.length ≤ 1000000) (ho : ¬ outF f l) : Ctr Try.prog 28 [aFld f, aSl 1 false aInt l] (aInt (wt l)) := by
 refine ctr_of Try.call28 Try.func28 rfl rfl ?_
 intro w O
 refine ent_lenC 0 2 rfl rfl (fun hlen0_2 => ?_)
 refine ent_len 1 rfl (fun hlen1 => ?_)
 refine esr rfl fun _ K1 => ?_
 refine ent_boxS rfl rfl (AllOne.mem ⟨(one_int _), (one_int _), one_sl, trivial⟩) (fun b2_1 => ?_)
 refine emm rfl ?_
 refine enk K1 ?_
 refine esr rfl fun _ K2 => ?_
 refine ent_o rfl (ok_loadBS (k := 0) ti24 rfl rfl rfl) ?_
 refine emm rfl ?_
 refine ent_o rfl (ok_call (rSupport_ok f l (by first | rfl | assumption | omega | (simp_all; done) | grind)) rfl) ?_
 refine ent_o rfl (ok_len rfl Try.runUnderlying22 rfl) ?_
 refine emm rfl ?_
 refine enk K2 ?_
 refine ent_ret ?_
 exact retR1 (.inr rfl) Try.results28 (resr_tmp (res_cv rfl (cv_int (by exact sup_wt ho))))

theorem eOfWeight_ok (c : Cod) (d : Int)  : Ctr Try.prog 20 [aCod c, aInt d] (aTup [aSl 1 false aInts (owL c d), aInt (owE c d)]) := by
 refine ctrM_of Try.call20 Try.func20 rfl rfl ?_
 intro w O
 refine ent_lenC 0 2 rfl rfl (fun hlen0_2 => ?_)
 refine ent_lenC 0 4 rfl rfl (fun hlen0_4 => ?_)
 refine esr rfl fun _ K1 => ?_
 refine ent_boxS rfl rfl (AllOne.mem ⟨(one_int _), (one_int _), one_sl, (one_int _), one_sl, trivial⟩) (fun b2_1 => ?_)
 refine ent_box1 rfl rfl (one_int _) (fun b3_2 => ?_)
 refine emm rfl ?_
 refine enk K1 ?_
 refine ent_seq fun _ K2 => ?_
 refine esr rfl fun _ K3 => ?_
 refine ent_o rfl (ok_loadBS (k := 1) ti27 rfl rfl rfl) ?_
 refine ent_o rfl (ok_call (cCheck_ok c) rfl) ?_
 refine emm rfl ?_
 refine enk K3 ?_
 refine esr rfl fun _ K4 => ?_
 refine ent_o rfl (ok_neq rfl rfl) ?_
 refine enk K4 ?_
 refine ent_condD rfl (fun h15 => ?_) (fun h15 => ?_)
 ·have he : owE c d = codE c := if_neg h15
  have hl : owL c d = [] := if_neg (by rw [he]; exact h15)
  refine esk rfl ?_
  refine ent_ret ?_
  refine ent_leave0 (.inr rfl) ?_
  exact retR2 (.inr rfl) Try.results20 (resr_tmp (res_cv rfl (cv_nil (fun _ => rfl) (by first | (rw [hl]; done) | (rw [hl]; exact hx))))) (resr_tmp (res_cv rfl (cv_int (by exact he.symm))))
 ·have hc0 := Classical.not_not.1 h15
  have hoe : owE c d = (if d < 0 ∨ c.N < d then 6 else sizE c) := if_pos hc0
  refine esp K2 ?_
  refine ent_seq fun _ K6 => ?_
  refine ent_seq fun _ K7 => ?_
  refine ent_cut (⟨[(2, aEx (.pointer (some ⟨b2_1, 0, none⟩))), (3, aEx (.pointer (some ⟨b3_2, 0, none⟩))), (24, aBool (decide ((d < 0) ∨ (c.N < d))))], [oBox b3_2 3 [aInt d], oBox b2_1 27 [aInt c.F.P, aInt c.F.M, aSl 1 false aInt c.F.mod, aInt c.N, aSl 1 false aInts c.Gen]]⟩) ?_ ?_
  ·refine ent_region ?_
   refine ent_o rfl (ok_loadB (k := 0) Try.isAgg3 rfl rfl rfl) ?_
   refine ent_o rfl (ok_lss rfl rfl) ?_
   refine emm rfl ?_
   refine ent_guardXDf rfl rfl rfl rfl (fun hg19 => ?_) (fun hg19 => ?_)
   ·refine ent_o rfl (ok_loadB (k := 0) Try.isAgg3 rfl rfl rfl) ?_
    refine ent_guardXT rfl rfl rfl rfl (decide_eq_false hg19) ?_
    refine ent_o rfl (ok_fieldAddrEx Try.runUnderlying27 rfl Try.sizeOf3 (by decide) rfl) ?_
    refine ent_guardXT rfl rfl rfl rfl (decide_eq_false hg19) ?_
    refine ent_o rfl (ok_loadB (k := 1) Try.isAgg3 rfl rfl rfl) ?_
    refine ent_guardXT rfl rfl rfl rfl (decide_eq_false hg19) ?_
    refine ent_o rfl (ok_gtr rfl rfl) ?_
    refine ent_o rfl (ok_pickF rfl (decide_eq_false hg19) rfl) ?_
    refine ent_nil ?_
    exact ent_rep ⟨rfl, rfl, slot_bool (dq_Q ((or_iff_right hg19).trans Iff.rfl)), trivial⟩ rfl
   ·refine ent_guardXF rfl rfl rfl rfl (decide_eq_true hg19) ?_
    refine ent_guardXF rfl rfl rfl rfl (decide_eq_true hg19) ?_
    refine ent_guardXF rfl rfl rfl rfl (decide_eq_true hg19) ?_
    refine ent_o rfl (ok_pickT rfl (decide_eq_true hg19) rfl) ?_
    refine ent_nil ?_
    exact ent_rep ⟨rfl, rfl, slot_bool (dq_T rfl (Or.inl hg19)), trivial⟩ rfl
  refine ent_k K7 ?_
  refine ent_condD rfl (fun h24 => ?_) (fun h24 => ?_)
  ·have he : owE c d = 6 := by rw [hoe, if_pos h24]
   have hl : owL c d = [] := if_neg (by rw [he]; decide)
   refine esk rfl ?_
   refine ent_ret ?_
   refine ent_leave0 (.inr rfl) ?_
   exact retR2 (.inr rfl) Try.results20 (resr_tmp (res_cv rfl (cv_nil (fun _ => rfl) (by first | (rw [hl]; done) | (rw [hl]; exact hx))))) (resr_tmp (res_cv rfl (cv_int (by exact he.symm))))
  ·have hoe2 : owE c d = sizE c := by rw [hoe, if_neg h24]
   refine esp K6 ?_
   refine ent_seq fun _ K9 => ?_
   refine esr rfl fun _ K10 => ?_
   refine ent_o rfl (ok_loadBS (k := 1) ti27 rfl rfl rfl) ?_
   refine ent_o rfl (ok_call (cSize_ok c) rfl) ?_
   refine emm rfl ?_
   refine ent_o rfl (ok_extract rfl rfl) ?_
   refine ent_o rfl (ok_extract rfl rfl) ?_
   refine emm rfl ?_
   refine enk K10 ?_
   refine esr rfl fun _ K11 => ?_
   refine ent_o rfl (ok_neq rfl rfl) ?_
   refine enk K11 ?_
   refine ent_condD rfl (fun h31 => ?_) (fun h31 => ?_)
   ·have he := hoe2
    have hl : owL c d = [] := if_neg (by rw [he]; exact h31)
    refine esk rfl ?_
    refine ent_ret ?_
    refine ent_leave0 (.inr rfl) ?_
    exact retR2 (.inr rfl) Try.results20 (resr_tmp (res_cv rfl (cv_nil (fun _ => rfl) (by first | (rw [hl]; done) | (rw [hl]; exact hx))))) (resr_tmp (res_cv rfl (cv_int (by exact he.symm))))
   ·have hs := Classical.not_not.1 h31
    have hk := (sizE_zero.1 hs).1
    have hsv := sizV_ok hs
    have hsq := (sizE_zero.1 hs).2
    have hn1 := hk.n1
    have hn64 := hk.n64
    have hq1 := pow_pos_of c.F.q hk.q2 c.Gen.length
    have he : owE c d = 0 := hoe2.trans hs
    have hl : owL c d = filTo (fun z => decide (wt (c.w z) = d)) c.w c.n := if_pos he
    refine esp K9 ?_
    refine esr rfl fun _ K13 => ?_
    refine ent_alloc (z := (.slice none 0 0)) [aEx (.slice none 0 0)] rfl zv25 rfl zc25 (fun b9_3 => ?_)
    refine enk K13 ?_
    refine ent_seq fun _ K14 => ?_
    refine esr rfl fun _ K15 => ?_
    refine ent_o rfl (ok_loadBS (k := 2) ti27 rfl rfl rfl) ?_
    refine ent_o rfl (ok_call (Walk_ok c) rfl) ?_
    refine enk K15 ?_
    refine ent_block ?_
    refine ent_open 22 1 false aInts (fun _ => rfl) ?_
    refine ent_rangeFn (p1 := 35) (p2 := 36) [(3, aEx (.pointer (some ⟨b3_2, 0, none⟩))), (9, aEx (.pointer (some ⟨b9_3, 0, none⟩))), (34, aClo 79 [aAt 5 true (aCod c)])] (fun (ii : Int) => [(3, aEx (.pointer (some ⟨b3_2, 0, none⟩))), (9, aEx (.pointer (some ⟨b9_3, 0, none⟩))), (11, aSl 1 false aInt (wdF c.F c.N c.Gen ii))]) (fun (ss : List (List Int) × Option Nat × Nat) => match ss with | (xss, rr5, cc5) => ([oVec rr5 cc5 22 1 false aInts xss, oBox b9_3 25 [aEx (vec rr5 ((xss).length) cc5)], oBox b3_2 3 [aInt d], oBox b2_1 27 [aInt c.F.P, aInt c.F.M, aSl 1 false aInt c.F.mod, aInt c.N, aSl 1 false aInts c.Gen]] : List Own)) (fun (ii : Int) => fun (ss : List (List Int) × Option Nat × Nat) => match ss with | (xss, rr5, cc5) => (xss = filTo (fun z => decide (wt (c.w z) = d)) c.w ii.toNat)) (c.F.q ^ c.Gen.length) (fun (ii : Int) => aSl 1 false aInt (wdF c.F c.N c.Gen ii)) ([], none, 0) rfl rfl rfl rfl (fun l T hY => Walk1_ok c l T _ _ hk hsq rfl hY) (ent_rep ⟨rfl, rfl, rfl, trivial⟩ (own_cons (rfl) (own_cons (own_box (av_cons ((by first | rfl | assumption | omega | (simp_all; done) | grind)) (rfl))) (rfl)))) ?_ ?_ ?_
    ·rintro l ii ⟨xss, rr5, cc5⟩ hi0 hi1 hx w' X' M' KK hKK
     show Ent _ ⟨_ :: _, [_, _, _, _]⟩ _
     refine entI_region (fun _ _ h => h) rfl ?_
     refine emm rfl ?_
     refine ent_nil ?_
     exact ent_kk hKK (ent_rep ⟨rfl, rfl, rfl, trivial⟩ rfl)
    ·rintro l ii ⟨xss, rr5, cc5⟩ hi0 hi1 hx w' X' M'
     show Ent _ ⟨_, [_, _, _, _]⟩ _
     have lxs := length_filTo_le (fun z => decide (wt (c.w z) = d)) c.w ii.toNat
     rw [show filTo (fun z => decide (wt (c.w z) = d)) c.w ii.toNat = xss from hx.symm] at lxs
     have hwl := hk.wdl ii
     refine entI_block ?_
     refine entI_seq fun _ K16 => ?_
     refine entI_draw 4 mixed rfl (by kernel_rfl) (by kernel_rfl) (by kernel_rfl) ?_
     refine dw_o rfl (ok_move rfl) ?_
     refine dw_o rfl (ok_call (weight_ok (wdF c.F c.N c.Gen ii)) rfl) ?_
     refine dw_o rfl (ok_loadB (k := 2) Try.isAgg3 rfl rfl rfl) ?_
     refine dw_o rfl (ok_eql rfl rfl) ?_
     refine dw_nil ?_
     refine entL_list (fun _ _ h => h) rfl ?_
     refine ent_nil ?_
     refine entI_k K16 ?_
     refine entI_condD rfl (fun h40 => ?_) (fun h40 => ?_)
     ·refine entI_region (fun _ _ h => h) rfl ?_
      refine ent_o rfl (ok_loadB (k := 1) Try.isAgg25 rfl rfl rfl) ?_
      refine emm rfl ?_
      refine ent_appendL (k := 0) (enc := aInts) (y := wdF c.F c.N c.Gen ii) rfl rfl vt25 rfl rfl (by first | rfl | assumption | (simp; done) | (simp_all; done) | omega) rfl ((elem_one one_sl)) (by first | omega | (simp only [List.length_append, List.length_cons, List.length_nil]; omega) | (simp; omega)) (by first | omega | (simp only [List.length_append, List.length_cons, List.length_nil]; omega) | (simp; omega)) (by decide) (fun b44_6 c44_6 => ?_)
      refine ent_storeB (k := 1) Try.sizeOf25 rfl rfl rfl (one_ex rfl) rfl ?_
      refine ent_nil ?_
      exact ent_roundEnd (xss ++ [wdF c.F c.N c.Gen ii], (some b44_6), c44_6) (by rw [hx]; first | exact filTo_yes hi0 (decide_eq_true h40) | exact filTo_no hi0 (decide_eq_false h40)) (ent_rep trivial (own_cons (rfl) (own_cons (own_box (av_cons (av_vec (congrArg List.length (show (xss ++ [wdF c.F c.N c.Gen ii]) = xss ++ [wdF c.F c.N c.Gen ii] by rfl))) (rfl))) (rfl))))
     ·refine entI_skip ?_
      exact ent_roundEnd (xss, rr5, cc5) (by rw [hx]; first | exact filTo_yes hi0 (decide_eq_true h40) | exact filTo_no hi0 (decide_eq_false h40)) (ent_rep trivial rfl)
    rintro D34 ⟨xss, rr5, cc5⟩ hx
    show Ent _ ⟨_, [_, _, _, _, _]⟩ _
    refine ent_k K14 ?_
    refine esr rfl fun _ K17 => ?_
    refine ent_o rfl (ok_loadB (k := 2) Try.isAgg25 rfl rfl rfl) ?_
    refine emm rfl ?_
    refine enk K17 ?_
    refine ent_ret ?_
    refine ent_leaveM (.inr rfl) ?_
    exact retR2 (.inr rfl) Try.results20 (resr_tmp (res_cv rfl (cv_vec (k := 0) (off_x rfl) (by first | rfl | assumption | (simp; done) | (simp_all; done) | omega) (by first | (rw [hl]; done) | (rw [hl]; exact hx))))) (resr_tmp (res_cv rfl (cv_int (by exact he.symm))))

theorem eLightest_ok (c : Cod)  : Ctr Try.prog 24 [aCod c] (aTup [aInt (liV c), aSl 1 false aInt (liW c), aInt (liE c)]) := by
 refine ctrM_of Try.call24 Try.func24 rfl rfl ?_
 intro w O
 refine ent_lenC 0 2 rfl rfl (fun hlen0_2 => ?_)
 refine ent_lenC 0 4 rfl rfl (fun hlen0_4 => ?_)
 refine esr rfl fun _ K1 => ?_
 refine ent_boxS rfl rfl (AllOne.mem ⟨(one_int _), (one_int _), one_sl, (one_int _), one_sl, trivial⟩) (fun b1_1 => ?_)
 refine emm rfl ?_
 refine enk K1 ?_
 refine ent_seq fun _ K2 => ?_
 refine esr rfl fun _ K3 => ?_
 refine ent_o rfl (ok_loadBS (k := 0) ti27 rfl rfl rfl) ?_
 refine ent_o rfl (ok_call (cCheck_ok c) rfl) ?_
 refine emm rfl ?_
 refine enk K3 ?_
 refine esr rfl fun _ K4 => ?_
 refine ent_o rfl (ok_neq rfl rfl) ?_
 refine enk K4 ?_
 refine ent_condD rfl (fun h16 => ?_) (fun h16 => ?_)
 ·have he : liE c = codE c := if_neg h16
  have hl : liV c = 0 ∧ liW c = [] := ⟨if_neg (by rw [he]; exact h16), if_neg (by rw [he]; exact h16)⟩
  refine esk rfl ?_
  refine ent_ret ?_
  refine ent_leave0 (.inr rfl) ?_
  exact retR3 (.inr rfl) Try.results24 (resr_tmp (res_cv rfl (cv_int (by first | (rw [hl.1]; done) | (rw [hl.1]; exact hb))))) (resr_tmp (res_cv rfl (cv_nil (fun _ => rfl) (by first | (rw [hl.2]; done) | (rw [hl.2]; exact hw))))) (resr_tmp (res_cv rfl (cv_int (by exact he.symm))))
 ·have hc0 := Classical.not_not.1 h16
  have hoe : liE c = (if c.Gen.length = 0 then 11 else sizE c) := if_pos hc0
  refine esp K2 ?_
  refine ent_seq fun _ K6 => ?_
  refine esr rfl fun _ K7 => ?_
  refine ent_o rfl (ok_fieldAddrEx Try.runUnderlying27 rfl Try.sizeOf25 (by decide) rfl) ?_
  refine ent_o rfl (ok_loadB (k := 0) Try.isAgg25 rfl rfl rfl) ?_
  refine ent_o rfl (ok_len rfl Try.runUnderlying25 rfl) ?_
  refine ent_o rfl (ok_eql rfl rfl) ?_
  refine enk K7 ?_
  refine ent_condD rfl (fun h21 => ?_) (fun h21 => ?_)
  ·have he : liE c = 11 := by rw [hoe, if_pos (by omega)]
   have hl : liV c = 0 ∧ liW c = [] := ⟨if_neg (by rw [he]; decide), if_neg (by rw [he]; decide)⟩
   refine esk rfl ?_
   refine ent_ret ?_
   refine ent_leave0 (.inr rfl) ?_
   exact retR3 (.inr rfl) Try.results24 (resr_tmp (res_cv rfl (cv_int (by first | (rw [hl.1]; done) | (rw [hl.1]; exact hb))))) (resr_tmp (res_cv rfl (cv_nil (fun _ => rfl) (by first | (rw [hl.2]; done) | (rw [hl.2]; exact hw))))) (resr_tmp (res_cv rfl (cv_int (by exact he.symm))))
  ·have hoe2 : liE c = sizE c := by rw [hoe, if_neg (by omega)]
   refine esp K6 ?_
   refine ent_seq fun _ K9 => ?_
   refine esr rfl fun _ K10 => ?_
   refine ent_o rfl (ok_loadBS (k := 0) ti27 rfl rfl rfl) ?_
   refine ent_o rfl (ok_call (cSize_ok c) rfl) ?_
   refine emm rfl ?_
   refine ent_o rfl (ok_extract rfl rfl) ?_
   refine ent_o rfl (ok_extract rfl rfl) ?_
   refine emm rfl ?_
   refine enk K10 ?_
   refine esr rfl fun _ K11 => ?_
   refine ent_o rfl (ok_neq rfl rfl) ?_
   refine enk K11 ?_
   refine ent_condD rfl (fun h28 => ?_) (fun h28 => ?_)
   ·have he := hoe2
    have hl : liV c = 0 ∧ liW c = [] := ⟨if_neg (by rw [he]; exact h28), if_neg (by rw [he]; exact h28)⟩
    refine esk rfl ?_
    refine ent_ret ?_
    refine ent_leave0 (.inr rfl) ?_
    exact retR3 (.inr rfl) Try.results24 (resr_tmp (res_cv rfl (cv_int (by first | (rw [hl.1]; done) | (rw [hl.1]; exact hb))))) (resr_tmp (res_cv rfl (cv_nil (fun _ => rfl) (by first | (rw [hl.2]; done) | (rw [hl.2]; exact hw))))) (resr_tmp (res_cv rfl (cv_int (by exact he.symm))))
   ·have hs := Classical.not_not.1 h28
    have hk := (sizE_zero.1 hs).1
    have hsv := sizV_ok hs
    have hsq := (sizE_zero.1 hs).2
    have hn1 := hk.n1
    have hn64 := hk.n64
    have hq1 := pow_pos_of c.F.q hk.q2 c.Gen.length
    have he : liE c = 0 := hoe2.trans hs
    have hl : liV c = bstV (fun z => wt (c.w z)) (fun z => decide (0 < z)) (c.N + 1) c.n ∧ liW c = bstW c.w (fun z => wt (c.w z)) (fun z => decide (0 < z)) c.n := ⟨if_pos he, if_pos he⟩
    refine esp K9 ?_
    refine esr rfl fun _ K13 => ?_
    refine ent_o rfl (ok_fieldAddrEx Try.runUnderlying27 rfl Try.sizeOf3 (by decide) rfl) ?_
    refine ent_o rfl (ok_loadB (k := 0) Try.isAgg3 rfl rfl rfl) ?_
    refine ent_o rfl (ok_add rfl rfl (by omega) (by omega)) ?_
    refine ent_alloc (z := (.int .i64 0)) [aInt 0] rfl zv3 rfl zc3 (fun b8_2 => ?_)
    refine ent_storeB (k := 0) Try.sizeOf3 rfl rfl rfl (one_int _) rfl ?_
    refine enk K13 ?_
    refine esr rfl fun _ K14 => ?_
    refine ent_alloc (z := (.slice none 0 0)) [aEx (.slice none 0 0)] rfl zv22 rfl zc22 (fun b9_3 => ?_)
    refine enk K14 ?_
    refine ent_seq fun _ K15 => ?_
    refine ent_seq fun _ K16 => ?_
    refine ent_cellNil (enc := aInt) (sz := 1) (agg := false) 0 (fun _ => rfl) rfl ?_
    show Ent _ ⟨_, [_, _, _]⟩ _
    refine ent_region ?_
    refine ent_o rfl (ok_loadBS (k := 2) ti27 rfl rfl rfl) ?_
    refine ent_o rfl (ok_call (Walk_ok c) rfl) ?_
    refine enk K16 ?_
    refine ent_block ?_
    refine ent_rangeFn (p1 := 35) (p2 := 36) [(8, aEx (.pointer (some ⟨b8_2, 0, none⟩))), (9, aEx (.pointer (some ⟨b9_3, 0, none⟩))), (34, aClo 79 [aAt 5 true (aCod c)])] (fun (ii : Int) => [(8, aEx (.pointer (some ⟨b8_2, 0, none⟩))), (9, aEx (.pointer (some ⟨b9_3, 0, none⟩))), (10, aInt ii), (11, aSl 1 false aInt (wdF c.F c.N c.Gen ii))]) (fun (ss : Int × List Int) => match ss with | (best, ws) => ([oBox b9_3 22 [aSl 1 false aInt ws], oBox b8_2 3 [aInt best], oBox b1_1 27 [aInt c.F.P, aInt c.F.M, aSl 1 false aInt c.F.mod, aInt c.N, aSl 1 false aInts c.Gen]] : List Own)) (fun (ii : Int) => fun (ss : Int × List Int) => match ss with | (best, ws) => (best = bstV (fun z => wt (c.w z)) (fun z => decide (0 < z)) (c.N + 1) ii.toNat) ∧ (ws = bstW c.w (fun z => wt (c.w z)) (fun z => decide (0 < z)) ii.toNat)) (c.F.q ^ c.Gen.length) (fun (ii : Int) => aSl 1 false aInt (wdF c.F c.N c.Gen ii)) (c.N + 1, []) rfl rfl rfl rfl (fun l T hY => Walk1_ok c l T _ _ hk hsq ⟨rfl, rfl⟩ hY) (ent_rep ⟨rfl, rfl, rfl, trivial⟩ rfl) ?_ ?_ ?_
    ·rintro l ii ⟨best, ws⟩ hi0 hi1 ⟨hb, hw⟩ w' X' M' KK hKK
     show Ent _ ⟨_ :: _, [_, _, _]⟩ _
     refine entI_seq fun _ K17 => ?_
     refine entI_region (fun _ _ h => h) rfl ?_
     refine emm rfl ?_
     refine ent_nil ?_
     refine entI_k K17 ?_
     refine entI_region (fun _ _ h => h) rfl ?_
     refine emm rfl ?_
     refine ent_nil ?_
     exact ent_kk hKK (ent_rep ⟨rfl, rfl, rfl, rfl, trivial⟩ rfl)
    ·rintro l ii ⟨best, ws⟩ hi0 hi1 ⟨hb, hw⟩ w' X' M'
     show Ent _ ⟨_, [_, _, _]⟩ _
     have hwl := hk.wdl ii
     have hzz : ∀ z, 0 ≤ ((fun z => wt (c.w z))) z ∧ ((fun z => wt (c.w z))) z < c.N + 1 := fun z => by exact hk.wt_le z
     refine entI_block ?_
     refine entI_seq fun _ K18 => ?_
     refine entI_region (fun _ _ h => h) rfl ?_
     refine emm rfl ?_
     refine ent_o rfl (ok_call (weight_ok (wdF c.F c.N c.Gen ii)) rfl) ?_
     refine emm rfl ?_
     refine ent_nil ?_
     refine entI_k K18 ?_
     refine entI_seq fun _ K19 => ?_
     refine entI_cut (⟨[(8, aEx (.pointer (some ⟨b8_2, 0, none⟩))), (9, aEx (.pointer (some ⟨b9_3, 0, none⟩))), (11, aSl 1 false aInt (wdF c.F c.N c.Gen ii)), (12, aInt (wt (wdF c.F c.N c.Gen ii))), (45, aBool (decide ((0 < ii) ∧ ((wt (wdF c.F c.N c.Gen ii)) < best))))], [oBox b9_3 22 [aSl 1 false aInt ws], oBox b8_2 3 [aInt best], oBox b1_1 27 [aInt c.F.P, aInt c.F.M, aSl 1 false aInt c.F.mod, aInt c.N, aSl 1 false aInts c.Gen]]⟩) ?_ ?_
     ·refine entI_region (fun _ _ h => h) rfl ?_
      refine emm rfl ?_
      refine ent_o rfl (ok_gtr rfl rfl) ?_
      refine emm rfl ?_
      refine ent_guardXDt rfl rfl rfl rfl (fun hg41 => ?_) (fun hg41 => ?_)
      ·refine emm rfl ?_
       refine ent_guardXT rfl rfl rfl rfl (decide_eq_true hg41) ?_
       refine ent_o rfl (ok_loadB (k := 1) Try.isAgg3 rfl rfl rfl) ?_
       refine ent_guardXT rfl rfl rfl rfl (decide_eq_true hg41) ?_
       refine ent_o rfl (ok_lss rfl rfl) ?_
       refine ent_o rfl (ok_pickT rfl (decide_eq_true hg41) rfl) ?_
       refine ent_nil ?_
       exact ent_rep ⟨rfl, rfl, rfl, rfl, slot_bool (dq_Q ((and_iff_right hg41).trans Iff.rfl)), trivial⟩ rfl
      ·refine ent_guardXF rfl rfl rfl rfl (decide_eq_false hg41) ?_
       refine ent_guardXF rfl rfl rfl rfl (decide_eq_false hg41) ?_
       refine ent_o rfl (ok_pickF rfl (decide_eq_false hg41) rfl) ?_
       refine ent_nil ?_
       exact ent_rep ⟨rfl, rfl, rfl, rfl, slot_bool (dq_F rfl (fun h => hg41 h.1)), trivial⟩ rfl
     refine entI_k K19 ?_
     refine entI_condD rfl (fun h45 => ?_) (fun h45 => ?_)
     ·have hy := bst_yes (g := (fun z => wt (c.w z))) (p := (fun z => decide (0 < z))) (z := c.N + 1) (wd := c.w) hi0 (decide_eq_true h45.1) (by rw [← hb]; exact h45.2)
      refine entI_region (fun _ _ h => h) rfl ?_
      refine emm rfl ?_
      refine ent_storeB (k := 1) Try.sizeOf3 rfl rfl rfl (one_int _) rfl ?_
      refine ent_storeB (k := 0) Try.sizeOf22 rfl rfl rfl one_sl rfl ?_
      refine ent_nil ?_
      exact ent_roundEnd (wt (wdF c.F c.N c.Gen ii), wdF c.F c.N c.Gen ii) ⟨(by first | exact hy.1 | exact hb.trans hy.1), (by first | exact hy.2 | exact hw.trans hy.2)⟩ (ent_rep trivial rfl)
     ·have hy := bst_no (g := (fun z => wt (c.w z))) (p := (fun z => decide (0 < z))) (z := c.N + 1) (wd := c.w) hi0 (fun _ => (hzz ii).2) (fun h => h45 ⟨of_decide_eq_true h.1, by rw [hb]; exact h.2⟩)
      refine entI_skip ?_
      exact ent_roundEnd (best, ws) ⟨(by first | exact hy.1 | exact hb.trans hy.1), (by first | exact hy.2 | exact hw.trans hy.2)⟩ (ent_rep trivial rfl)
    rintro D34 ⟨best, ws⟩ ⟨hb, hw⟩
    show Ent _ ⟨_, [_, _, _, _]⟩ _
    refine ent_k K15 ?_
    refine ent_seq fun _ K20 => ?_
    refine ent_draw 5 mixed (by kernel_rfl) (by kernel_rfl) (by kernel_rfl) ?_
    refine dw_o rfl (ok_loadB (k := 2) Try.isAgg3 rfl rfl rfl) ?_
    refine dw_o rfl (ok_loadB (k := 1) Try.isAgg22 rfl rfl rfl) ?_
    refine dw_o rfl (ok_assign rfl) ?_
    refine dw_o rfl (ok_assign rfl) ?_
    refine dw_o rfl (ok_assign rfl) ?_
    refine dw_nil ?_
    refine enk K20 ?_
    refine ent_ret ?_
    refine ent_leaveM (.inr rfl) ?_
    exact retR3 (.inr rfl) Try.results24 (resr_tmp (res_cv rfl (cv_int (by first | (rw [hl.1]; done) | (rw [hl.1]; exact hb))))) (resr_tmp (res_cv rfl (cv_sl sub_x (by first | (rw [hl.2]; done) | (rw [hl.2]; exact hw))))) (resr_tmp (res_cv rfl (cv_int (by exact he.symm))))
end Go.Proofs.Ytbofipdmoocflaa

