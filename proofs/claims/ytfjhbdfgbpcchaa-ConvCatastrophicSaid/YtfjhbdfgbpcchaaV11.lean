/-
  Walks of functions of the program and the reference.
-/
import Derived.Test.YtfjhbdfgbpcchaaV10
open Go Go.Cw
namespace Go.Proofs.Ytfjhbdfgbpcchaa
open Try
set_option maxRecDepth 100000
set_option linter.unusedVariables false
set_option linter.unusedSimpArgs false
theorem build_ok (c : Cnv) (hFew : c.Few) (hOk : c.Ok) : Ctr Try.prog 58 [aCnv c] (aTup [aMach c, aInt 0]) := by
 have ek : c.k = (c.Gen.length : Int) := rfl
 have en : c.n = ((ix [] c.Gen 0).length : Int) := rfl
 have hf1 := hFew.1
 have hF := hOk.fld
 refine ctr_of Try.call58 func58 rfl rfl ?_
 intro w O
 refine ent_lenC 0 2 rfl rfl (fun hlen0_2 => ?_)
 refine ent_lenC 0 3 rfl rfl (fun hlen0_3 => ?_)
 refine esr rfl fun _ K1 => ?_
 refine ent_boxS rfl rfl (AllOne.mem ⟨(one_int _), (one_int _), one_sl, one_sl, trivial⟩) (fun b1_1 => ?_)
 refine emm rfl ?_
 refine enk K1 ?_
 refine esr rfl fun _ K2 => ?_
 refine ent_o rfl (ok_fieldAddrEx runUnderlying27 rfl sizeOf24 (by decide) rfl) ?_
 refine ent_o rfl (ok_loadBS (k := 0) ti24 rfl rfl rfl) ?_
 refine ent_o rfl (ok_call (CtrF.ctr (New_ok c.F hF)) rfl) ?_
 refine emm rfl ?_
 refine ent_o rfl (ok_extract rfl rfl) ?_
 refine ent_o rfl (ok_extract rfl rfl) ?_
 refine emm rfl ?_
 refine enk K2 ?_
 refine ent_seq fun _ K3 => ?_
 refine esr rfl fun _ K4 => ?_
 refine ent_o rfl (ok_neq rfl rfl) ?_
 refine enk K4 ?_
 refine ent_condFP rfl (by decide) ?_
 refine esp K3 ?_
 refine ent_seq fun _ K5 => ?_
 refine ent_seq fun _ K6 => ?_
 refine ent_cut (⟨[(1, aEx (.pointer (some ⟨b1_1, 0, none⟩))), (4, aGF c.F), (54, aBool (decide ((((↑c.Gen.length : Int) = 0) ∨ ((↑(ix [] c.Gen 0).length : Int) = 0)) ∨ ((↑(ix [] c.Gen 0).length : Int) < (↑c.Gen.length : Int)))))], [oBox b1_1 27 [aInt c.F.P, aInt c.F.M, aSl 1 false aInt c.F.mod, aSl 1 false aRows c.Gen]]⟩) ?_ ?_
 ·refine ent_draw 23 mixed (by kernel_rfl) (by kernel_rfl) (by kernel_rfl) ?_
  refine dw_o rfl (ok_fieldAddrEx runUnderlying27 rfl sizeOf25 (by decide) rfl) ?_
  refine dw_o rfl (ok_loadB (k := 0) isAgg25 rfl rfl rfl) ?_
  refine dw_o rfl (ok_len rfl runUnderlying25 rfl) ?_
  refine dw_o rfl (ok_eql rfl rfl) ?_
  refine dw_o rfl (ok_move rfl) ?_
  refine dw_guardDf rfl rfl rfl rfl (fun hg36 => ?_) (fun hg36 => ?_)
  ·refine dw_o rfl (ok_fieldAddrEx runUnderlying27 rfl sizeOf25 (by decide) rfl) ?_
   refine dw_guardT rfl rfl rfl rfl (decide_eq_false hg36) ?_
   refine dw_o rfl (ok_loadB (k := 0) isAgg25 rfl rfl rfl) ?_
   refine dw_guardT rfl rfl rfl rfl (decide_eq_false hg36) ?_
   refine dw_o rfl (ok_index [] sl25 rfl rfl (by omega) (by omega)) ?_
   refine dw_guardT rfl rfl rfl rfl (decide_eq_false hg36) ?_
   refine dw_o rfl (ok_load ti42 rfl) ?_
   refine dw_guardT rfl rfl rfl rfl (decide_eq_false hg36) ?_
   refine dw_o rfl (ok_len rfl runUnderlying42 rfl) ?_
   refine dw_guardT rfl rfl rfl rfl (decide_eq_false hg36) ?_
   refine dw_o rfl (ok_eql rfl rfl) ?_
   refine dw_o rfl (ok_pickF rfl (decide_eq_false hg36) rfl) ?_
   refine dw_o rfl (ok_move rfl) ?_
   refine dw_guardDf rfl rfl rfl rfl (fun hg44 => ?_) (fun hg44 => ?_)
   ·refine dw_o rfl (ok_fieldAddrEx runUnderlying27 rfl sizeOf25 (by decide) rfl) ?_
    refine dw_guardT rfl rfl rfl rfl (decide_eq_false hg44) ?_
    refine dw_o rfl (ok_loadB (k := 0) isAgg25 rfl rfl rfl) ?_
    refine dw_guardT rfl rfl rfl rfl (decide_eq_false hg44) ?_
    refine dw_o rfl (ok_len rfl runUnderlying25 rfl) ?_
    refine dw_guardT rfl rfl rfl rfl (decide_eq_false hg44) ?_
    refine dw_o rfl (ok_fieldAddrEx runUnderlying27 rfl sizeOf25 (by decide) rfl) ?_
    refine dw_guardT rfl rfl rfl rfl (decide_eq_false hg44) ?_
    refine dw_o rfl (ok_loadB (k := 0) isAgg25 rfl rfl rfl) ?_
    refine dw_guardT rfl rfl rfl rfl (decide_eq_false hg44) ?_
    refine dw_o rfl (ok_index [] sl25 rfl rfl (by omega) (by omega)) ?_
    refine dw_guardT rfl rfl rfl rfl (decide_eq_false hg44) ?_
    refine dw_o rfl (ok_load ti42 rfl) ?_
    refine dw_guardT rfl rfl rfl rfl (decide_eq_false hg44) ?_
    refine dw_o rfl (ok_len rfl runUnderlying42 rfl) ?_
    refine dw_guardT rfl rfl rfl rfl (decide_eq_false hg44) ?_
    refine dw_o rfl (ok_gtr rfl rfl) ?_
    refine dw_o rfl (ok_pickF rfl (decide_eq_false hg44) rfl) ?_
    refine dw_nil ?_
    refine ent_nil ?_
    exact ent_rep ⟨rfl, rfl, slot_bool (dq_Q ((or_iff_right (fun h => h.elim hg36 hg44)).trans Iff.rfl)), trivial⟩ rfl
   refine dw_guardF rfl rfl rfl rfl (decide_eq_true hg44) ?_
   refine dw_guardF rfl rfl rfl rfl (decide_eq_true hg44) ?_
   refine dw_guardF rfl rfl rfl rfl (decide_eq_true hg44) ?_
   refine dw_guardF rfl rfl rfl rfl (decide_eq_true hg44) ?_
   refine dw_guardF rfl rfl rfl rfl (decide_eq_true hg44) ?_
   refine dw_guardF rfl rfl rfl rfl (decide_eq_true hg44) ?_
   refine dw_guardF rfl rfl rfl rfl (decide_eq_true hg44) ?_
   refine dw_guardF rfl rfl rfl rfl (decide_eq_true hg44) ?_
   refine dw_o rfl (ok_pickT rfl (decide_eq_true hg44) rfl) ?_
   refine dw_nil ?_
   refine ent_nil ?_
   exact ent_rep ⟨rfl, rfl, slot_bool (dq_T rfl (Or.inl (Or.inr hg44))), trivial⟩ rfl
  refine dw_guardF rfl rfl rfl rfl (decide_eq_true hg36) ?_
  refine dw_guardF rfl rfl rfl rfl (decide_eq_true hg36) ?_
  refine dw_guardF rfl rfl rfl rfl (decide_eq_true hg36) ?_
  refine dw_guardF rfl rfl rfl rfl (decide_eq_true hg36) ?_
  refine dw_guardF rfl rfl rfl rfl (decide_eq_true hg36) ?_
  refine dw_o rfl (ok_pickT rfl (decide_eq_true hg36) rfl) ?_
  refine dw_o rfl (ok_move rfl) ?_
  refine dw_guardF rfl rfl rfl rfl rfl ?_
  refine dw_guardF rfl rfl rfl rfl rfl ?_
  refine dw_guardF rfl rfl rfl rfl rfl ?_
  refine dw_guardF rfl rfl rfl rfl rfl ?_
  refine dw_guardF rfl rfl rfl rfl rfl ?_
  refine dw_guardF rfl rfl rfl rfl rfl ?_
  refine dw_guardF rfl rfl rfl rfl rfl ?_
  refine dw_guardF rfl rfl rfl rfl rfl ?_
  refine dw_guardF rfl rfl rfl rfl rfl ?_
  refine dw_o rfl (ok_pickT rfl rfl rfl) ?_
  refine dw_nil ?_
  refine ent_nil ?_
  exact ent_rep ⟨rfl, rfl, slot_bool (dq_T rfl (Or.inl (Or.inl hg36))), trivial⟩ rfl
 refine ent_k K6 ?_
 refine ent_condD rfl (fun h54 => ?_) (fun h54 => ?_)
 ·exact absurd (by unfold Cnv.badShape; omega) hOk.shape
 refine esp K5 ?_
 refine ent_seq fun _ K7 => ?_
 refine ent_draw 12 mixed (by kernel_rfl) (by kernel_rfl) (by kernel_rfl) ?_
 refine dw_o rfl (ok_move rfl) ?_
 refine dw_o rfl (ok_fieldAddrEx runUnderlying27 rfl sizeOf25 (by decide) rfl) ?_
 refine dw_o rfl (ok_loadB (k := 0) isAgg25 rfl rfl rfl) ?_
 refine dw_o rfl (ok_len rfl runUnderlying25 rfl) ?_
 refine dw_o rfl (ok_fieldAddrEx runUnderlying27 rfl sizeOf25 (by decide) rfl) ?_
 refine dw_o rfl (ok_loadB (k := 0) isAgg25 rfl rfl rfl) ?_
 refine dw_o rfl (ok_index [] sl25 rfl rfl (by omega) (by omega)) ?_
 refine dw_o rfl (ok_load ti42 rfl) ?_
 refine dw_o rfl (ok_len rfl runUnderlying42 rfl) ?_
 refine dw_o rfl (ok_move rfl) ?_
 refine dw_o rfl (ok_call (Order_ok c.F) rfl) ?_
 refine dw_o rfl (ok_build st84 (As := [aEx (.pointer none), aEx (.slice none 0 0), aInt 0, aInt 0, aEx (.slice none 0 0), aInt 0, aInt 0, aInt 0, aEx (.slice none 0 0)]) z84 (⟨0, 1, rfl, .inl ⟨rfl, _, rfl, one_at, rfl, ⟨2, 1, rfl, .inl ⟨rfl, _, rfl, (one_int _), rfl, ⟨3, 1, rfl, .inl ⟨rfl, _, rfl, (one_int _), rfl, ⟨6, 1, rfl, .inl ⟨rfl, _, rfl, (one_int _), rfl, ⟨7, 1, rfl, .inl ⟨rfl, _, rfl, (one_int _), rfl, rfl⟩⟩⟩⟩⟩⟩⟩⟩⟩⟩)) ?_
 refine dw_nil ?_
 refine ent_boxS rfl rfl (AllOne.mem ⟨one_at, (one_ex rfl), (one_int _), (one_int _), (one_ex rfl), (one_int _), (one_int _), (one_int _), (one_ex rfl), trivial⟩) (fun b67_2 => ?_)
 refine emm rfl ?_
 refine enk K7 ?_
 refine ent_seq fun _ K8 => ?_
 refine esr rfl fun _ K9 => ?_
 refine ent_o rfl (ok_fieldAddrEx runUnderlying27 rfl sizeOf25 (by decide) rfl) ?_
 refine ent_o rfl (ok_loadB (k := 1) isAgg25 rfl rfl rfl) ?_
 refine ent_o rfl (ok_len rfl runUnderlying25 rfl) ?_
 refine emm rfl ?_
 refine enk K9 ?_
 refine ent_block ?_
 refine ent_loop (fun (z : Int) => (⟨[(1, aEx (.pointer (some ⟨b1_1, 0, none⟩))), (4, aGF c.F), (6, aEx (.pointer (some ⟨b67_2, 0, none⟩))), (69, aSl 1 false aRows c.Gen), (70, aInt (↑c.Gen.length : Int)), (71, aInt z)], [oBox b67_2 84 [aGF c.F, aEx (.slice none 0 0), aInt (↑c.Gen.length : Int), aInt (↑(ix [] c.Gen 0).length : Int), aEx (.slice none 0 0), aInt 0, aInt c.F.q, aInt 1, aEx (.slice none 0 0)], oBox b1_1 27 [aInt c.F.P, aInt c.F.M, aSl 1 false aInt c.F.mod, aSl 1 false aRows c.Gen]]⟩ : St)) (fun (z : Int) => (0 ≤ z) ∧ (z ≤ c.Gen.length) ∧ (c.RowsTo z)) (fun (z : Int) => (c.Gen.length - z).toNat) 0 ⟨(by omega), (by omega), (Cnv.RowsTo.zero c)⟩ (ent_rep ⟨rfl, rfl, rfl, rfl, rfl, slot_av (av_int (show 0 = (0 : Int) by rfl)), trivial⟩ rfl) ?_
 rintro z ⟨z0, z1, zr⟩
 show Ent _ ⟨_, [_, _]⟩ _
 refine esr rfl fun _ K10 => ?_
 refine ent_o rfl (ok_lss rfl rfl) ?_
 refine enk K10 ?_
 refine ent_seq fun _ K11 => ?_
 refine ent_condD rfl (fun h72 => ?_) (fun h72 => ?_)
 ·refine esp K11 ?_
  refine ent_seq fun _ K12 => ?_
  refine ent_block ?_
  refine esr rfl fun _ K13 => ?_
  refine ent_o rfl (ok_index [] sl25 rfl rfl (by omega) (by omega)) ?_
  refine ent_o rfl (ok_load ti42 rfl) ?_
  refine emm rfl ?_
  refine enk K13 ?_
  refine esr rfl fun _ K14 => ?_
  refine ent_o rfl (ok_len rfl runUnderlying42 rfl) ?_
  refine emm rfl ?_
  refine ent_o rfl (ok_nilCheckEx rfl) ?_
  refine ent_o rfl (ok_fieldAddrEx runUnderlying84 rfl sizeOf3 (by decide) rfl) ?_
  refine ent_o rfl (ok_loadB (k := 0) isAgg3 rfl rfl rfl) ?_
  refine ent_o rfl (ok_neq rfl rfl) ?_
  refine enk K14 ?_
  refine ent_condD rfl (fun h81 => ?_) (fun h81 => ?_)
  ·exact absurd (Cnv.badShape_row z0 h72 h81) hOk.shape
  refine esp K12 ?_
  refine ent_region ?_
  refine ent_o rfl (ok_add rfl rfl (by omega) (by omega)) ?_
  refine emm rfl ?_
  refine ent_nil ?_
  refine ent_again (s := (z)) (z + 1) ⟨(by omega), ‹_›, (zr.succ z0 h72 (Classical.not_not.1 h81))⟩ (by omega) (ent_rep ⟨rfl, rfl, rfl, rfl, rfl, rfl, trivial⟩ rfl)
 have hsh : ¬ c.badShape := zr.shape (by omega) (by omega) (by omega) (by omega)
 refine ent_exit ?_
 refine ent_k K8 ?_
 refine ent_seq fun _ K15 => ?_
 refine esr rfl fun _ K16 => ?_
 refine ent_o rfl (ok_nilCheckEx rfl) ?_
 refine ent_o rfl (ok_fieldAddrEx runUnderlying84 rfl sizeOf3 (by decide) rfl) ?_
 refine ent_o rfl (ok_loadB (k := 0) isAgg3 rfl rfl rfl) ?_
 refine ent_o rfl (ok_gtr rfl rfl) ?_
 refine enk K16 ?_
 refine ent_condD rfl (fun h87 => ?_) (fun h87 => ?_)
 ·have := hOk.len; omega
 refine esp K15 ?_
 refine esr rfl fun _ K17 => ?_
 refine ent_o rfl (ok_nilCheckEx rfl) ?_
 refine ent_o rfl (ok_fieldAddrEx runUnderlying84 rfl sizeOf3 (by decide) rfl) ?_
 refine ent_o rfl (ok_loadB (k := 0) isAgg3 rfl rfl rfl) ?_
 refine emm rfl ?_
 refine enk K17 ?_
 refine ent_seq fun _ K18 => ?_
 refine esr rfl fun _ K19 => ?_
 refine ent_o rfl (ok_fieldAddrEx runUnderlying27 rfl sizeOf25 (by decide) rfl) ?_
 refine ent_o rfl (ok_loadB (k := 1) isAgg25 rfl rfl rfl) ?_
 refine ent_o rfl (ok_len rfl runUnderlying25 rfl) ?_
 refine emm rfl ?_
 refine enk K19 ?_
 refine ent_block ?_
 refine ent_open 42 1 false aRows (fun _ => rfl) ?_
 refine ent_open 3 1 false aInt (fun _ => rfl) ?_
 refine ent_loop (fun (ss : Int × Option Nat × Nat × Option Nat × Nat) => match ss with | (i, rr4, cc4, rr6, cc6) => (⟨[(4, aGF c.F), (6, aEx (.pointer (some ⟨b67_2, 0, none⟩))), (9, aInt (c.k + c.sumD i.toNat)), (93, aSl 1 false aRows c.Gen), (94, aInt (↑c.Gen.length : Int)), (95, aInt i)], [oVec rr6 cc6 3 1 false aInt (mapR c.deg i), oVec rr4 cc4 42 1 false aRows (mapT (fun row => row.map trimL) c.Gen i), oBox b67_2 84 [aGF c.F, aEx (vec rr4 ((mapT (fun row => row.map trimL) c.Gen i).length) cc4), aInt (↑c.Gen.length : Int), aInt (↑(ix [] c.Gen 0).length : Int), aEx (vec rr6 ((mapR c.deg i).length) cc6), aInt (c.maxD i.toNat), aInt c.F.q, aInt 1, aEx (.slice none 0 0)], oBox b1_1 27 [aInt c.F.P, aInt c.F.M, aSl 1 false aInt c.F.mod, aSl 1 false aRows c.Gen]]⟩ : St)) (fun (ss : Int × Option Nat × Nat × Option Nat × Nat) => match ss with | (i, rr4, cc4, rr6, cc6) => (0 ≤ i) ∧ (i ≤ c.Gen.length) ∧ (c.EltTo i)) (fun (ss : Int × Option Nat × Nat × Option Nat × Nat) => match ss with | (i, rr4, cc4, rr6, cc6) => (c.Gen.length - i).toNat) (0, none, 0, none, 0) ⟨(by omega), (by omega), (Cnv.EltTo.zero c)⟩ (ent_rep ⟨rfl, rfl, slot_av (av_int (show (↑c.Gen.length : Int) = c.k + c.sumD (0 : Int).toNat by simp [Cnv.sumD, ek])), rfl, rfl, slot_av (av_int (show 0 = (0 : Int) by rfl)), trivial⟩ (own_cons (own_vec (show mapR c.deg (0 : Int) = [] by rfl)) (own_cons (own_vec (show mapT (fun row => row.map trimL) c.Gen (0 : Int) = [] by rfl)) (own_cons (own_box (av_cons rfl (av_cons (rfl) (av_cons rfl (av_cons rfl (av_cons (rfl) (av_cons (av_int (show c.maxD (0 : Int).toNat = 0 by rfl)) (rfl)))))))) (rfl))))) ?_
 rintro ⟨i, rr4, cc4, rr6, cc6⟩ ⟨h0, h1, he⟩
 show Ent _ ⟨_, [_, _, _, _]⟩ _
 have hs := Cnv.Few.sumD_le hFew i.toNat (by omega)
 have hsn := c.sumD_nonneg i.toNat
 refine esr rfl fun _ K20 => ?_
 refine ent_o rfl (ok_lss rfl rfl) ?_
 refine enk K20 ?_
 refine ent_seq fun _ K21 => ?_
 refine ent_condD rfl (fun h96 => ?_) (fun h96 => ?_)
 ·have hd := hFew.deg_le i h0 (by omega)
  have hdn := c.deg_nonneg i
  have hlg := length_mapT (fun row : List (List Int) => row.map trimL) c.Gen (i := i) h1
  refine esp K21 ?_
  refine ent_seq fun _ K22 => ?_
  refine ent_block ?_
  refine esr rfl fun _ K23 => ?_
  refine ent_o rfl (ok_index [] sl25 rfl rfl (by omega) (by omega)) ?_
  refine ent_o rfl (ok_load ti42 rfl) ?_
  refine emm rfl ?_
  refine enk K23 ?_
  refine esk rfl ?_
  refine esk rfl ?_
  refine ent_seq fun _ K26 => ?_
  refine esr rfl fun _ K27 => ?_
  refine ent_o rfl (ok_len rfl runUnderlying42 rfl) ?_
  refine emm rfl ?_
  refine enk K27 ?_
  refine ent_block ?_
  refine ent_open 22 1 false aInts (fun _ => rfl) ?_
  refine ent_loop (fun (ss : Int × Option Nat × Nat) => match ss with | (j, rr8, cc8) => (⟨[(4, aGF c.F), (6, aEx (.pointer (some ⟨b67_2, 0, none⟩))), (9, aInt (c.k + c.sumD i.toNat)), (12, aInt (rowDeg (ix [] c.Gen i) j.toNat)), (13, aEx (vec rr8 ((mapT trimL (ix [] c.Gen i) j).length) cc8)), (93, aSl 1 false aRows c.Gen), (94, aInt (↑c.Gen.length : Int)), (95, aInt i), (99, aSl 1 false aInts (ix [] c.Gen i)), (100, aInt (↑(ix [] c.Gen i).length : Int)), (101, aInt j)], [oVec rr8 cc8 22 1 false aInts (mapT trimL (ix [] c.Gen i) j), oVec rr6 cc6 3 1 false aInt (mapR c.deg i), oVec rr4 cc4 42 1 false aRows (mapT (fun row => row.map trimL) c.Gen i), oBox b67_2 84 [aGF c.F, aEx (vec rr4 ((mapT (fun row => row.map trimL) c.Gen i).length) cc4), aInt (↑c.Gen.length : Int), aInt (↑(ix [] c.Gen 0).length : Int), aEx (vec rr6 ((mapR c.deg i).length) cc6), aInt (c.maxD i.toNat), aInt c.F.q, aInt 1, aEx (.slice none 0 0)], oBox b1_1 27 [aInt c.F.P, aInt c.F.M, aSl 1 false aInt c.F.mod, aSl 1 false aRows c.Gen]]⟩ : St)) (fun (ss : Int × Option Nat × Nat) => match ss with | (j, rr8, cc8) => (0 ≤ j) ∧ (j ≤ (ix [] c.Gen i).length) ∧ (Cnv.PolTo c.F (ix [] c.Gen i) j)) (fun (ss : Int × Option Nat × Nat) => match ss with | (j, rr8, cc8) => ((ix [] c.Gen i).length - j).toNat) (0, none, 0) ⟨(by omega), (by omega), (Cnv.PolTo.zero _ _)⟩ (ent_rep ⟨rfl, rfl, rfl, slot_av (av_int (show 0 = rowDeg (ix [] c.Gen i) (0 : Int).toNat by rfl)), slot_av ((show aEx (vec none ([] : List _).length 0) = aEx (vec none ((mapT trimL (ix [] c.Gen i) (0 : Int)).length) 0) from av_vec (congrArg List.length (show mapT trimL (ix [] c.Gen i) (0 : Int) = [] by rfl).symm))), rfl, rfl, rfl, rfl, rfl, slot_av (av_int (show 0 = (0 : Int) by rfl)), trivial⟩ (own_cons (own_vec (show mapT trimL (ix [] c.Gen i) (0 : Int) = [] by rfl)) (rfl))) ?_
  rintro ⟨j, rr8, cc8⟩ ⟨j0, j1, jp⟩
  show Ent _ ⟨_, [_, _, _, _, _]⟩ _
  refine esr rfl fun _ K28 => ?_
  refine ent_o rfl (ok_lss rfl rfl) ?_
  refine enk K28 ?_
  refine ent_seq fun _ K29 => ?_
  refine ent_condD rfl (fun h102 => ?_) (fun h102 => ?_)
  ·have hp40 := (hFew.2 _ (ix_mem [] c.Gen h0 (by omega))).2 _ (ix_mem [] (ix [] c.Gen i) j0 (by omega))
   have hr70 := (hFew.2 _ (ix_mem [] c.Gen h0 (by omega))).1
   have hlm := length_mapT trimL (ix [] c.Gen i) (i := j) j1
   refine esp K29 ?_
   refine ent_seq fun _ K30 => ?_
   refine ent_block ?_
   refine esr rfl fun _ K31 => ?_
   refine ent_o rfl (ok_index [] sl42 rfl rfl (by omega) (by omega)) ?_
   refine ent_o rfl (ok_load ti22 rfl) ?_
   refine emm rfl ?_
   refine enk K31 ?_
   refine ent_seq fun _ K32 => ?_
   refine esr rfl fun _ K33 => ?_
   refine ent_o rfl (ok_len rfl runUnderlying22 rfl) ?_
   refine emm rfl ?_
   refine enk K33 ?_
   refine ent_block ?_
   refine ent_loop (fun (e : Int) => (⟨[(4, aGF c.F), (6, aEx (.pointer (some ⟨b67_2, 0, none⟩))), (9, aInt (c.k + c.sumD i.toNat)), (12, aInt (rowDeg (ix [] c.Gen i) j.toNat)), (13, aEx (vec rr8 ((mapT trimL (ix [] c.Gen i) j).length) cc8)), (15, aSl 1 false aInt (ix [] (ix [] c.Gen i) j)), (93, aSl 1 false aRows c.Gen), (94, aInt (↑c.Gen.length : Int)), (95, aInt i), (99, aSl 1 false aInts (ix [] c.Gen i)), (100, aInt (↑(ix [] c.Gen i).length : Int)), (101, aInt j), (105, aSl 1 false aInt (ix [] (ix [] c.Gen i) j)), (106, aInt (↑(ix [] (ix [] c.Gen i) j).length : Int)), (107, aInt e)], [oVec rr8 cc8 22 1 false aInts (mapT trimL (ix [] c.Gen i) j), oVec rr6 cc6 3 1 false aInt (mapR c.deg i), oVec rr4 cc4 42 1 false aRows (mapT (fun row => row.map trimL) c.Gen i), oBox b67_2 84 [aGF c.F, aEx (vec rr4 ((mapT (fun row => row.map trimL) c.Gen i).length) cc4), aInt (↑c.Gen.length : Int), aInt (↑(ix [] c.Gen 0).length : Int), aEx (vec rr6 ((mapR c.deg i).length) cc6), aInt (c.maxD i.toNat), aInt c.F.q, aInt 1, aEx (.slice none 0 0)], oBox b1_1 27 [aInt c.F.P, aInt c.F.M, aSl 1 false aInt c.F.mod, aSl 1 false aRows c.Gen]]⟩ : St)) (fun (e : Int) => (0 ≤ e) ∧ (e ≤ (ix [] (ix [] c.Gen i) j).length) ∧ (¬ outF c.F ((ix [] (ix [] c.Gen i) j).take e.toNat))) (fun (e : Int) => ((ix [] (ix [] c.Gen i) j).length - e).toNat) 0 ⟨(by omega), (by omega), (by simp [outF])⟩ (ent_rep ⟨rfl, rfl, rfl, rfl, rfl, rfl, rfl, rfl, rfl, rfl, rfl, rfl, rfl, rfl, slot_av (av_int (show 0 = (0 : Int) by rfl)), trivial⟩ rfl) ?_
   rintro e ⟨e0, e1, eo⟩
   show Ent _ ⟨_, [_, _, _, _, _]⟩ _
   refine esr rfl fun _ K34 => ?_
   refine ent_o rfl (ok_lss rfl rfl) ?_
   refine enk K34 ?_
   refine ent_seq fun _ K35 => ?_
   refine ent_condD rfl (fun h108 => ?_) (fun h108 => ?_)
   ·refine esp K35 ?_
    refine ent_seq fun _ K36 => ?_
    refine ent_block ?_
    refine esr rfl fun _ K37 => ?_
    refine ent_o rfl (ok_index 0 sl22 rfl rfl (by omega) (by omega)) ?_
    refine ent_o rfl (ok_load ti3 rfl) ?_
    refine emm rfl ?_
    refine enk K37 ?_
    refine esr rfl fun _ K38 => ?_
    refine ent_o rfl (ok_call (Is_ok c.F (ix 0 (ix [] (ix [] c.Gen i) j) e)) rfl) ?_
    refine ent_o rfl (ok_notD rfl) ?_
    refine enk K38 ?_
    refine ent_condD rfl (fun h114 => ?_) (fun h114 => ?_)
    ·exact absurd (outF_at e0 h108 h114) (hOk.poly h0 h96 j0 h102)
    refine esp K36 ?_
    refine ent_region ?_
    refine ent_o rfl (ok_add rfl rfl (by omega) (by omega)) ?_
    refine emm rfl ?_
    refine ent_nil ?_
    refine ent_again (s := (e)) (e + 1) ⟨(by omega), ‹_›, (outF_succ e0 h108 eo (Classical.not_not.1 h114))⟩ (by omega) (ent_rep ⟨rfl, rfl, rfl, rfl, rfl, rfl, rfl, rfl, rfl, rfl, rfl, rfl, rfl, rfl, rfl, trivial⟩ rfl)
   have hpo : ¬ outF c.F (ix [] (ix [] c.Gen i) j) := by rw [List.take_of_length_le (by omega)] at eo; exact eo
   have hmp := map_inF hpo
   have htl := length_trimL (ix [] (ix [] c.Gen i) j)
   have htl2 : (trimL ((ix [] (ix [] c.Gen i) j).map (inF c.F))).length = trimN (ix [] (ix [] c.Gen i) j) := by rw [hmp, htl]
   have htn := trimN_le (ix [] (ix [] c.Gen i) j)
   refine ent_exit ?_
   refine ent_k K32 ?_
   refine esr rfl fun _ K39 => ?_
   refine ent_o rfl (ok_call (Canon_ok c.F (ix [] (ix [] c.Gen i) j) (by omega)) rfl) ?_
   refine emm rfl ?_
   refine enk K39 ?_
   refine esr rfl fun _ K40 => ?_
   refine ent_appendL (k := 0) (enc := aInts) (y := trimL ((ix [] (ix [] c.Gen i) j).map (inF c.F))) rfl rfl vt42 rfl rfl rfl rfl ((elem_one one_sl)) (by omega) (by omega) (by decide) (fun b122_9 c122_9 => ?_)
   refine emm rfl ?_
   refine enk K40 ?_
   refine ent_region ?_
   refine emm rfl ?_
   refine ent_o rfl (ok_len rfl runUnderlying22 rfl) ?_
   refine ent_o rfl (ok_sub rfl rfl (by omega) (by omega)) ?_
   refine ent_o rfl (ok_max rfl rfl) ?_
   refine emm rfl ?_
   refine enk K30 ?_
   refine ent_region ?_
   refine ent_o rfl (ok_add rfl rfl (by omega) (by omega)) ?_
   refine emm rfl ?_
   refine ent_nil ?_
   refine ent_again (s := (j, rr8, cc8)) (j + 1, (some b122_9), c122_9) ⟨(by omega), ‹_›, (jp.succ j0 h102 hpo)⟩ (by dsimp only; omega) (ent_rep ⟨rfl, rfl, rfl, slot_av (av_int (show max (rowDeg (ix [] c.Gen i) j.toNat) ((↑(trimL ((ix [] (ix [] c.Gen i) j).map (inF c.F))).length : Int) - 1) = rowDeg (ix [] c.Gen i) (j + 1).toNat by rw [hmp, length_trimL]; exact (rowDeg_succ _ j0).symm)), slot_av (av_vec (congrArg List.length (show mapT trimL (ix [] c.Gen i) (j + 1) = (mapT trimL (ix [] c.Gen i) j) ++ [trimL ((ix [] (ix [] c.Gen i) j).map (inF c.F))] by rw [hmp]; exact mapT_succ [] trimL (ix [] c.Gen i) j0 h102).symm)), rfl, rfl, rfl, rfl, rfl, rfl, trivial⟩ (own_cons (own_vec (show mapT trimL (ix [] c.Gen i) (j + 1) = (mapT trimL (ix [] c.Gen i) j) ++ [trimL ((ix [] (ix [] c.Gen i) j).map (inF c.F))] by rw [hmp]; exact mapT_succ [] trimL (ix [] c.Gen i) j0 h102)) (rfl)))
  have hdg : rowDeg (ix [] c.Gen i) j.toNat = c.deg i := by unfold Cnv.deg degOf; rw [show j.toNat = (ix [] c.Gen i).length by omega]
  have hma := mapT_all trimL (ix [] c.Gen i) (i := j) (by omega)
  refine ent_exit ?_
  refine ent_k K26 ?_
  refine ent_seq fun _ K41 => ?_
  refine ent_give 0 13 rfl (cv_vec (k := 0) (off_erase rfl) rfl rfl) ?_
  refine ent_region ?_
  refine emm rfl ?_
  refine ent_o rfl (ok_nilCheckEx rfl) ?_
  refine ent_o rfl (ok_fieldAddrEx runUnderlying84 rfl sizeOf25 (by decide) rfl) ?_
  refine ent_o rfl (ok_loadB (k := 2) isAgg25 rfl rfl rfl) ?_
  refine emm rfl ?_
  refine ent_appendL (k := 1) (enc := aRows) (y := mapT trimL (ix [] c.Gen i) j) rfl rfl vt25 rfl rfl rfl rfl ((elem_one one_sl)) (by omega) (by omega) (by decide) (fun b136_10 c136_10 => ?_)
  refine ent_o rfl (ok_nilCheckEx rfl) ?_
  refine ent_o rfl (ok_fieldAddrEx runUnderlying84 rfl sizeOf25 (by decide) rfl) ?_
  refine ent_storeB (k := 2) sizeOf25 rfl rfl rfl (one_ex rfl) rfl ?_
  refine enk K41 ?_
  refine esr rfl fun _ K42 => ?_
  refine ent_o rfl (ok_nilCheckEx rfl) ?_
  refine ent_o rfl (ok_fieldAddrEx runUnderlying84 rfl sizeOf22 (by decide) rfl) ?_
  refine ent_o rfl (ok_loadB (k := 2) isAgg22 rfl rfl rfl) ?_
  refine emm rfl ?_
  refine ent_appendL (k := 0) (enc := aInt) (y := rowDeg (ix [] c.Gen i) j.toNat) rfl rfl vt22 rfl rfl rfl rfl ((elem_one (one_int _))) (by simp; omega) (by simp; omega) (by decide) (fun b146_11 c146_11 => ?_)
  refine ent_o rfl (ok_nilCheckEx rfl) ?_
  refine ent_o rfl (ok_fieldAddrEx runUnderlying84 rfl sizeOf22 (by decide) rfl) ?_
  refine ent_storeB (k := 2) sizeOf22 rfl rfl rfl (one_ex rfl) rfl ?_
  refine enk K42 ?_
  refine esr rfl fun _ K43 => ?_
  refine ent_o rfl (ok_nilCheckEx rfl) ?_
  refine ent_o rfl (ok_fieldAddrEx runUnderlying84 rfl sizeOf3 (by decide) rfl) ?_
  refine ent_o rfl (ok_loadB (k := 2) isAgg3 rfl rfl rfl) ?_
  refine emm rfl ?_
  refine ent_o rfl (ok_max rfl rfl) ?_
  refine ent_o rfl (ok_nilCheckEx rfl) ?_
  refine ent_o rfl (ok_fieldAddrEx runUnderlying84 rfl sizeOf3 (by decide) rfl) ?_
  refine ent_storeB (k := 2) sizeOf3 rfl rfl rfl (one_int _) rfl ?_
  refine enk K43 ?_
  refine ent_region ?_
  refine emm rfl ?_
  refine ent_o rfl (ok_add rfl rfl (by omega) (by omega)) ?_
  refine emm rfl ?_
  refine enk K22 ?_
  refine ent_region ?_
  refine ent_o rfl (ok_add rfl rfl (by omega) (by omega)) ?_
  refine emm rfl ?_
  refine ent_nil ?_
  refine ent_again (s := (i, rr4, cc4, rr6, cc6)) (i + 1, (some b136_10), c136_10, (some b146_11), c146_11) ⟨(by omega), ‹_›, (he.succ h0 h96 jp (by omega))⟩ (by dsimp only; omega) (ent_rep ⟨rfl, rfl, slot_av (av_int (show (c.k + c.sumD i.toNat) + (rowDeg (ix [] c.Gen i) j.toNat) = c.k + c.sumD (i + 1).toNat by rw [hdg, c.sumD_succ h0]; omega)), rfl, rfl, rfl, trivial⟩ (own_cons (own_vec (show mapR c.deg (i + 1) = (mapR c.deg i) ++ [rowDeg (ix [] c.Gen i) j.toNat] by rw [hdg]; first | exact mapR_succ c.deg h0 | exact c.maxD_succ h0 | exact (c.maxD_succ h0).symm)) (own_cons (own_vec (show mapT (fun row => row.map trimL) c.Gen (i + 1) = (mapT (fun row => row.map trimL) c.Gen i) ++ [mapT trimL (ix [] c.Gen i) j] by rw [hma]; exact mapT_succ [] (fun row => row.map trimL) c.Gen h0 (by omega))) (own_cons (own_box (av_cons rfl (av_cons (av_vec (congrArg List.length (show mapT (fun row => row.map trimL) c.Gen (i + 1) = (mapT (fun row => row.map trimL) c.Gen i) ++ [mapT trimL (ix [] c.Gen i) j] by rw [hma]; exact mapT_succ [] (fun row => row.map trimL) c.Gen h0 (by omega)))) (av_cons rfl (av_cons rfl (av_cons (av_vec (congrArg List.length (show mapR c.deg (i + 1) = (mapR c.deg i) ++ [rowDeg (ix [] c.Gen i) j.toNat] by rw [hdg]; first | exact mapR_succ c.deg h0 | exact c.maxD_succ h0 | exact (c.maxD_succ h0).symm))) (av_cons (av_int (show c.maxD (i + 1).toNat = max (c.maxD i.toNat) (rowDeg (ix [] c.Gen i) j.toNat) by rw [hdg]; exact c.maxD_succ h0)) (rfl)))))))) (rfl)))))
 have hel : ¬ c.badElt := he.all (by omega)
 have hii : i.toNat = c.Gen.length := by omega
 have htot : c.k + c.sumD i.toNat = c.total := by rw [hii]; rfl
 have hq := hF.1.bd
 refine ent_exit ?_
 refine ent_k K18 ?_
 refine ent_seq fun _ K44 => ?_
 refine esr rfl fun _ K45 => ?_
 refine ent_o rfl (ok_nilCheckEx rfl) ?_
 refine ent_o rfl (ok_fieldAddrEx runUnderlying84 rfl sizeOf3 (by decide) rfl) ?_
 refine ent_o rfl (ok_loadB (k := 2) isAgg3 rfl rfl rfl) ?_
 refine emm rfl ?_
 refine ent_o rfl (ok_call (Exp_ok c.F.q (c.k + c.sumD i.toNat) 65536 (by omega) (by omega) (by omega) (by omega) (by omega) (by omega)) rfl) ?_
 refine emm rfl ?_
 refine ent_o rfl (ok_extract rfl rfl) ?_
 refine ent_o rfl (ok_extract rfl rfl) ?_
 refine emm rfl ?_
 refine enk K45 ?_
 refine esr rfl fun _ K46 => ?_
 refine ent_o rfl (ok_neq rfl rfl) ?_
 refine enk K46 ?_
 refine ent_condD rfl (fun h172 => ?_) (fun h172 => ?_)
 ·have hbig : c.big := by unfold expE at h172; split at h172; (exact absurd rfl h172); (unfold Cnv.big; rw [← htot]; omega)
  exact absurd (by unfold expE at h172; split at h172; (exact absurd rfl h172); (unfold Cnv.big; rw [← htot]; omega)) hOk.small
 have hml := length_mapR c.deg i
 have hnb : ¬ c.big := by unfold expE at h172; split at h172; (unfold Cnv.big; rw [← htot]; omega); (exact absurd (by omega) h172)
 refine esp K44 ?_
 refine ent_seq fun _ K47 => ?_
 refine esr rfl fun _ K48 => ?_
 refine ent_o rfl (ok_nilCheckEx rfl) ?_
 refine ent_o rfl (ok_fieldAddrEx runUnderlying84 rfl sizeOf22 (by decide) rfl) ?_
 refine ent_o rfl (ok_loadB (k := 2) isAgg22 rfl rfl rfl) ?_
 refine ent_o rfl (ok_lenEx rfl runUnderlying22 rfl) ?_
 refine emm rfl ?_
 refine ent_nil ?_
 refine ent_rsome 0 rfl (by simp; omega) (fun b176_12 hb176_12 => ?_)
 subst hb176_12
 refine ent_k K48 ?_
 refine ent_block ?_
 refine ent_open 3 1 false aInt (fun _ => rfl) ?_
 refine ent_loop (fun (ss : Int × Option Nat × Nat) => match ss with | (u, rr14, cc14) => (⟨[(6, aEx (.pointer (some ⟨b67_2, 0, none⟩))), (176, aEx (vec (some b176_12) ((mapR c.deg i).length) cc6)), (177, aInt (↑((mapR c.deg i).length) : Int)), (178, aInt u)], [oVec rr14 cc14 3 1 false aInt (mapR c.fst u), oVec (some b176_12) cc6 3 1 false aInt (mapR c.deg i), oVec rr4 cc4 42 1 false aRows (mapT (fun row => row.map trimL) c.Gen i), oBox b67_2 84 [aGF c.F, aEx (vec rr4 ((mapT (fun row => row.map trimL) c.Gen i).length) cc4), aInt (↑c.Gen.length : Int), aInt (↑(ix [] c.Gen 0).length : Int), aEx (vec (some b176_12) ((mapR c.deg i).length) cc6), aInt (c.maxD i.toNat), aInt c.F.q, aInt (c.fst u), aEx (vec rr14 ((mapR c.fst u).length) cc14)], oBox b1_1 27 [aInt c.F.P, aInt c.F.M, aSl 1 false aInt c.F.mod, aSl 1 false aRows c.Gen]]⟩ : St)) (fun (ss : Int × Option Nat × Nat) => match ss with | (u, rr14, cc14) => (0 ≤ u) ∧ (u ≤ c.Gen.length)) (fun (ss : Int × Option Nat × Nat) => match ss with | (u, rr14, cc14) => (c.Gen.length - u).toNat) (0, none, 0) ⟨(by omega), (by omega)⟩ (ent_rep ⟨rfl, rfl, rfl, slot_av (av_int (show 0 = (0 : Int) by rfl)), trivial⟩ (own_cons (own_vec (show mapR c.fst (0 : Int) = [] by rfl)) (own_cons (rfl) (own_cons (rfl) (own_cons (own_box (av_cons rfl (av_cons rfl (av_cons rfl (av_cons rfl (av_cons rfl (av_cons rfl (av_cons rfl (av_cons (av_int (show c.fst (0 : Int) = 1 by simp [Cnv.fst, Cnv.sumD])) (av_cons (rfl) (rfl))))))))))) (rfl)))))) ?_
 rintro ⟨u, rr14, cc14⟩ ⟨u0, u1⟩
 show Ent _ ⟨_, [_, _, _, _, _]⟩ _
 refine esr rfl fun _ K49 => ?_
 refine ent_o rfl (ok_lss rfl rfl) ?_
 refine enk K49 ?_
 refine ent_seq fun _ K50 => ?_
 refine ent_condD rfl (fun h179 => ?_) (fun h179 => ?_)
 ·have hdu : ix 0 (mapR c.deg i) u = c.deg u := ix_mapR 0 _ u0 (by omega)
  have hdp := c.deg_part u0 (show u < c.Gen.length by omega)
  have hdl := hFew.deg_le u u0 (by omega)
  refine esp K50 ?_
  refine ent_seq fun _ K51 => ?_
  refine ent_block ?_
  refine esr rfl fun _ K52 => ?_
  refine ent_o rfl (ok_indexV sl22 rfl rfl (by omega) (by omega)) ?_
  refine ent_o rfl (ok_loadV (k := 1) 0 ti3 rfl rfl (by omega) (by omega)) ?_
  refine emm rfl ?_
  refine enk K52 ?_
  refine ent_seq fun _ K53 => ?_
  refine ent_drawM 10 mixed rfl (by kernel_rfl) (by kernel_rfl) (by kernel_rfl) (by kernel_rfl) (by kernel_rfl) (by kernel_rfl) (by kernel_rfl) (fun _ _ _ _ h => h) ?_
  refine dw_o rfl (ok_move rfl) ?_
  refine dw_o rfl (ok_move rfl) ?_
  refine dw_o rfl (ok_nilCheckEx rfl) ?_
  refine dw_o rfl (ok_fieldAddrEx runUnderlying84 rfl sizeOf22 (by decide) rfl) ?_
  refine dw_o rfl (ok_loadB (k := 3) isAgg22 rfl rfl rfl) ?_
  refine dw_o rfl (ok_move rfl) ?_
  refine dw_o rfl (ok_nilCheckEx rfl) ?_
  refine dw_o rfl (ok_fieldAddrEx runUnderlying84 rfl sizeOf3 (by decide) rfl) ?_
  refine dw_o rfl (ok_loadB (k := 3) isAgg3 rfl rfl rfl) ?_
  refine dw_o rfl (ok_build1 (enc := aInt) (y := c.fst u) vt22 rfl (elem_one (one_int _)) (by decide)) ?_
  refine dw_nil ?_
  refine ent_appendS (k := 0) rfl vt22 rfl rfl rfl rfl (cv_id sub_refl) (by simp; omega) (by simp; omega) (fun r192_14 cr192_14 => ?_)
  refine ent_o rfl (ok_nilCheckEx rfl) ?_
  refine ent_o rfl (ok_fieldAddrEx runUnderlying84 rfl sizeOf22 (by decide) rfl) ?_
  refine ent_storeB (k := 3) sizeOf22 rfl rfl rfl (one_ex rfl) rfl ?_
  refine enk K53 ?_
  refine esk rfl ?_
  refine ent_block ?_
  refine ent_loop (fun (d : Int) => (⟨[(6, aEx (.pointer (some ⟨b67_2, 0, none⟩))), (176, aEx (vec (some b176_12) ((mapR c.deg i).length) cc6)), (177, aInt (↑((mapR c.deg i).length) : Int)), (178, aInt u), (195, aInt (ix 0 (mapR c.deg i) u)), (196, aInt d)], [oVec r192_14 cr192_14 3 1 false aInt ((mapR c.fst u) ++ [c.fst u]), oVec (some b176_12) cc6 3 1 false aInt (mapR c.deg i), oVec rr4 cc4 42 1 false aRows (mapT (fun row => row.map trimL) c.Gen i), oBox b67_2 84 [aGF c.F, aEx (vec rr4 ((mapT (fun row => row.map trimL) c.Gen i).length) cc4), aInt (↑c.Gen.length : Int), aInt (↑(ix [] c.Gen 0).length : Int), aEx (vec (some b176_12) ((mapR c.deg i).length) cc6), aInt (c.maxD i.toNat), aInt c.F.q, aInt (c.fst u * c.F.q ^ d.toNat), aEx (vec r192_14 (((mapR c.fst u) ++ [c.fst u]).length) cr192_14)], oBox b1_1 27 [aInt c.F.P, aInt c.F.M, aSl 1 false aInt c.F.mod, aSl 1 false aRows c.Gen]]⟩ : St)) (fun (d : Int) => (0 ≤ d) ∧ (d ≤ c.deg u)) (fun (d : Int) => (c.deg u - d).toNat) 0 ⟨(by omega), (c.deg_nonneg u)⟩ (ent_rep ⟨rfl, rfl, rfl, rfl, rfl, slot_av (av_int (show 0 = (0 : Int) by rfl)), trivial⟩ (own_cons (rfl) (own_cons (rfl) (own_cons (rfl) (own_cons (own_box (av_cons rfl (av_cons rfl (av_cons rfl (av_cons rfl (av_cons rfl (av_cons rfl (av_cons rfl (av_cons (av_int (show c.fst u * c.F.q ^ (0 : Int).toNat = c.fst u by simp)) (rfl)))))))))) (rfl)))))) ?_
  rintro d ⟨d0, d1⟩
  show Ent _ ⟨_, [_, _, _, _, _]⟩ _
  refine esr rfl fun _ K55 => ?_
  refine ent_o rfl (ok_lss rfl rfl) ?_
  refine enk K55 ?_
  refine ent_seq fun _ K56 => ?_
  refine ent_condD rfl (fun h197 => ?_) (fun h197 => ?_)
  ·have hsq := pow_succ_toNat c.F.q d d0
   have hfa := c.fst_add u d d0
   have hpp := Cnv.pow_part (c := c) hq.2.2.2.2.2.1 (e := c.sumD u.toNat + d) (by unfold Cnv.total; omega)
   have hfp := pow_pos_of c.F.q hq.2.2.2.2.2.1 (c.sumD u.toNat + d).toNat
   have hmm : 0 ≤ c.fst u * c.F.q ^ d.toNat * c.F.q ∧ c.fst u * c.F.q ^ d.toNat * c.F.q ≤ 65536 * 256 := ⟨Int.mul_nonneg (by omega) (by omega), Int.mul_le_mul (by unfold Cnv.big at hnb; omega) (by omega) (by omega) (by omega)⟩
   refine esp K56 ?_
   refine ent_seq fun _ K57 => ?_
   refine ent_block ?_
   refine ent_draw 11 mixed (by kernel_rfl) (by kernel_rfl) (by kernel_rfl) ?_
   refine dw_o rfl (ok_move rfl) ?_
   refine dw_o rfl (ok_nilCheckEx rfl) ?_
   refine dw_o rfl (ok_fieldAddrEx runUnderlying84 rfl sizeOf3 (by decide) rfl) ?_
   refine dw_o rfl (ok_loadB (k := 3) isAgg3 rfl rfl rfl) ?_
   refine dw_o rfl (ok_move rfl) ?_
   refine dw_o rfl (ok_nilCheckEx rfl) ?_
   refine dw_o rfl (ok_fieldAddrEx runUnderlying84 rfl sizeOf3 (by decide) rfl) ?_
   refine dw_o rfl (ok_loadB (k := 3) isAgg3 rfl rfl rfl) ?_
   refine dw_o rfl (ok_mul rfl rfl (by omega) (by omega)) ?_
   refine dw_o rfl (ok_nilCheckEx rfl) ?_
   refine dw_o rfl (ok_fieldAddrEx runUnderlying84 rfl sizeOf3 (by decide) rfl) ?_
   refine dw_nil ?_
   refine ent_storeB (k := 3) sizeOf3 rfl rfl rfl (one_int _) rfl ?_
   refine enk K57 ?_
   refine ent_region ?_
   refine ent_o rfl (ok_add rfl rfl (by omega) (by omega)) ?_
   refine emm rfl ?_
   refine ent_nil ?_
   refine ent_again (s := (d)) (d + 1) ⟨(by omega), (by omega)⟩ (by omega) (ent_rep ⟨rfl, rfl, rfl, rfl, rfl, rfl, trivial⟩ (own_cons (rfl) (own_cons (rfl) (own_cons (rfl) (own_cons (own_box (av_cons rfl (av_cons rfl (av_cons rfl (av_cons rfl (av_cons rfl (av_cons rfl (av_cons rfl (av_cons (av_int (show c.fst u * c.F.q ^ (d + 1).toNat = (c.fst u * c.F.q ^ d.toNat) * c.F.q by rw [hsq, Int.mul_assoc])) (rfl)))))))))) (rfl))))))
  refine ent_exit ?_
  refine ent_k K51 ?_
  refine ent_region ?_
  refine ent_o rfl (ok_add rfl rfl (by omega) (by omega)) ?_
  refine emm rfl ?_
  refine ent_nil ?_
  refine ent_again (s := (u, rr14, cc14)) (u + 1, r192_14, cr192_14) ⟨(by omega), (by omega)⟩ (by dsimp only; omega) (ent_rep ⟨rfl, rfl, rfl, rfl, trivial⟩ (own_cons (own_vec (show mapR c.fst (u + 1) = (mapR c.fst u) ++ [c.fst u] by exact mapR_succ c.fst u0)) (own_cons (rfl) (own_cons (rfl) (own_cons (own_box (av_cons rfl (av_cons rfl (av_cons rfl (av_cons rfl (av_cons rfl (av_cons rfl (av_cons rfl (av_cons (av_int (show c.fst (u + 1) = c.fst u * c.F.q ^ d.toNat by rw [c.fst_succ u0, show d = c.deg u by omega])) (av_cons (av_vec (congrArg List.length (show mapR c.fst (u + 1) = (mapR c.fst u) ++ [c.fst u] by exact mapR_succ c.fst u0))) (rfl))))))))))) (rfl))))))
 have hui : u = c.k := by omega
 have hik : i = c.k := by omega
 have hgen : mapT (fun row => row.map trimL) c.Gen i = c.canon := mapT_all _ _ (by omega)
 have hdegs : mapR c.deg i = c.degs := by rw [hik]; rfl
 have hmem : c.maxD i.toNat = c.mem := by rw [hii]; rfl
 have hst : c.fst u = c.states := by unfold Cnv.fst Cnv.states; rw [show u.toNat = c.Gen.length by omega]
 have hfs : mapR c.fst u = c.fsts := by rw [hui]; rfl
 refine ent_exit ?_
 refine ent_k K47 ?_
 refine esk rfl ?_
 refine ent_ret ?_
 exact retR2 (.inr rfl) results58 (resr_tmp (res_cv rfl (cv_box (k := 3) (off_x rfl) ⟨cv_id sub_x, cv_vec (k := 2) (off_x rfl) rfl (by exact hgen), cv_int rfl, cv_int rfl, cv_vec (k := 1) (off_x rfl) rfl (by exact hdegs), cv_int (by exact hmem), cv_int rfl, cv_int (by exact hst), cv_vec (k := 0) (off_x rfl) rfl (by exact hfs), trivial⟩ rfl))) (resr_tmp (res_cv rfl (cv_int rfl)))

end Go.Proofs.Ytfjhbdfgbpcchaa

