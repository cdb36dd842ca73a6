/-
  Walks of functions of the program and the reference.
-/
import Derived.Test.YtfjhbdfgbpcchaaQ12
open Go Go.Cw
namespace Go.Proofs.Ytfjhbdfgbpcchaa
open Try
set_option maxRecDepth 100000
set_option linter.unusedVariables false
set_option linter.unusedSimpArgs false
theorem rWeight_ok (rows : List (List Int)) (hwl : rows.length ≤ 10000) (hwr : ∀ r ∈ rows, (r.length : Int) ≤ 10000) : Ctr Try.prog 32 [aSl 1 false aInts rows] (aInt (wtL rows)) := by
 refine ctr_of Try.call32 func32 rfl rfl ?_
 intro w O
 refine ent_len 0 rfl (fun hlen0 => ?_)
 refine esk rfl ?_
 refine esk rfl ?_
 refine ent_seq fun _ K3 => ?_
 refine esk rfl ?_
 refine ent_block ?_
 refine ent_loop (fun (i : Int) => (⟨[(0, aSl 1 false aInts rows), (3, aInt (wtTo rows i.toNat)), (4, aInt i)], []⟩ : St)) (fun (i : Int) => (0 ≤ i) ∧ (i ≤ rows.length)) (fun (i : Int) => (rows.length - i).toNat) 0 ⟨(by omega), (by omega)⟩ (ent_rep ⟨rfl, slot_av (av_int (show 0 = wtTo rows (0 : Int).toNat by rfl)), slot_av (av_int (show 0 = (0 : Int) by rfl)), trivial⟩ rfl) ?_
 rintro i ⟨h0, h1⟩
 show Ent _ ⟨_, []⟩ _
 refine ent_seq fun _ K5 => ?_
 refine esr rfl fun _ K6 => ?_
 refine ent_o rfl (ok_len rfl runUnderlying42 rfl) ?_
 refine ent_o rfl (ok_lss rfl rfl) ?_
 refine enk K6 ?_
 refine ent_condD rfl (fun h9 => ?_) (fun h9 => ?_)
 ·have hwi := wtTo_le rows (by omega) hwr i.toNat (by omega)
  have hwj := hwr _ (ix_mem [] rows h0 h9)
  refine esp K5 ?_
  refine ent_seq fun _ K7 => ?_
  refine ent_block ?_
  refine esk rfl ?_
  refine ent_block ?_
  refine ent_loop (fun (j : Int) => (⟨[(0, aSl 1 false aInts rows), (3, aInt (wtTo rows i.toNat + wt1To (ix [] rows i) j.toNat)), (4, aInt i), (5, aInt j)], []⟩ : St)) (fun (j : Int) => (0 ≤ j) ∧ (j ≤ (ix [] rows i).length)) (fun (j : Int) => ((ix [] rows i).length - j).toNat) 0 ⟨(by omega), (by omega)⟩ (ent_rep ⟨rfl, slot_av (av_int (show wtTo rows i.toNat = wtTo rows i.toNat + wt1To (ix [] rows i) (0 : Int).toNat by simp [wt1To])), rfl, slot_av (av_int (show 0 = (0 : Int) by rfl)), trivial⟩ rfl) ?_
  rintro j ⟨j0, j1⟩
  show Ent _ ⟨_, []⟩ _
  have hwb := wt1To_le (ix [] rows i) j.toNat
  have hwn := wtTo_nonneg rows i.toNat
  refine ent_seq fun _ K9 => ?_
  refine esr rfl fun _ K10 => ?_
  refine ent_o rfl (ok_index [] sl42 rfl rfl (by omega) (by omega)) ?_
  refine ent_o rfl (ok_load ti22 rfl) ?_
  refine ent_o rfl (ok_len rfl runUnderlying22 rfl) ?_
  refine ent_o rfl (ok_lss rfl rfl) ?_
  refine enk K10 ?_
  refine ent_condD rfl (fun h18 => ?_) (fun h18 => ?_)
  ·refine esp K9 ?_
   refine ent_seq fun _ K11 => ?_
   refine ent_block ?_
   refine esr rfl fun _ K12 => ?_
   refine ent_o rfl (ok_index [] sl42 rfl rfl (by omega) (by omega)) ?_
   refine ent_o rfl (ok_load ti22 rfl) ?_
   refine emm rfl ?_
   refine ent_o rfl (ok_index 0 sl22 rfl rfl (by omega) (by omega)) ?_
   refine ent_o rfl (ok_load ti3 rfl) ?_
   refine ent_o rfl (ok_neq rfl rfl) ?_
   refine enk K12 ?_
   refine ent_condD rfl (fun h28 => ?_) (fun h28 => ?_)
   ·refine ent_region ?_
    refine emm rfl ?_
    refine ent_o rfl (ok_add rfl rfl (by omega) (by omega)) ?_
    refine emm rfl ?_
    refine enk K11 ?_
    refine ent_region ?_
    refine emm rfl ?_
    refine ent_o rfl (ok_add rfl rfl (by omega) (by omega)) ?_
    refine emm rfl ?_
    refine ent_nil ?_
    refine ent_again (s := (j)) (j + 1) ⟨(by omega), ‹_›⟩ (by omega) (ent_rep ⟨rfl, slot_av (av_int (show (wtTo rows i.toNat + wt1To (ix [] rows i) j.toNat) + 1 = wtTo rows i.toNat + wt1To (ix [] rows i) (j + 1).toNat by rw [wt1To_succ _ j0]; first | (rw [if_neg h28]; omega) | (rw [if_pos (Classical.not_not.1 h28)]; omega))), rfl, rfl, trivial⟩ rfl)
   refine esp K11 ?_
   refine ent_region ?_
   refine emm rfl ?_
   refine ent_o rfl (ok_add rfl rfl (by omega) (by omega)) ?_
   refine emm rfl ?_
   refine ent_nil ?_
   refine ent_again (s := (j)) (j + 1) ⟨(by omega), ‹_›⟩ (by omega) (ent_rep ⟨rfl, slot_av (av_int (show wtTo rows i.toNat + wt1To (ix [] rows i) j.toNat = wtTo rows i.toNat + wt1To (ix [] rows i) (j + 1).toNat by rw [wt1To_succ _ j0]; first | (rw [if_neg h28]; omega) | (rw [if_pos (Classical.not_not.1 h28)]; omega))), rfl, rfl, trivial⟩ rfl)
  refine ent_exit ?_
  refine ent_k K7 ?_
  refine ent_region ?_
  refine emm rfl ?_
  refine ent_o rfl (ok_add rfl rfl (by omega) (by omega)) ?_
  refine emm rfl ?_
  refine ent_nil ?_
  refine ent_again (s := (i)) (i + 1) ⟨(by omega), ‹_›⟩ (by omega) (ent_rep ⟨rfl, slot_av (av_int (show wtTo rows i.toNat + wt1To (ix [] rows i) j.toNat = wtTo rows (i + 1).toNat by rw [wtTo_succ rows h0, show j.toNat = (ix [] rows i).length by omega]; rfl)), rfl, trivial⟩ rfl)
 refine ent_exit ?_
 refine ent_k K3 ?_
 refine esk rfl ?_
 refine ent_ret ?_
 exact retR1 (.inr rfl) results32 (resr_tmp (res_cv rfl (cv_int (by rw [show i.toNat = rows.length by omega]; rfl))))

theorem rInputs_ok (c : Cnv) (hFew : c.Few) (hOk : c.Ok) : Ctr Try.prog 72 [aCnv c] (aInt c.ins) := by
 have hF := hOk.fld
 have hS := hF.1
 have hq := hS.bd
 have hq2 := hq.2.2.2.2.2.1
 have hik : c.k = (c.Gen.length : Int) := rfl
 have hen : c.n = ((ix [] c.Gen 0).length : Int) := rfl
 have hkn := hOk.kn
 have hnl := hOk.len
 have hi1 := Cnv.ins_pos (c := c) hq2
 have hsi := Cnv.states_ins hq2 hOk.small
 have hil := Cnv.ins_le hq2 hOk.small
 have hst := Cnv.states_le hq2 hOk.small
 have hf1 := hFew.1
 refine ctr_of Try.call72 func72 rfl rfl ?_
 intro w O
 refine ent_lenC 0 2 rfl rfl (fun hlen0_2 => ?_)
 refine ent_lenC 0 3 rfl rfl (fun hlen0_3 => ?_)
 refine esr rfl fun _ K1 => ?_
 refine ent_boxS rfl rfl (AllOne.mem ⟨(one_int _), (one_int _), one_sl, one_sl, trivial⟩) (fun b1_1 => ?_)
 refine emm rfl ?_
 refine enk K1 ?_
 refine esk rfl ?_
 refine ent_seq fun _ K3 => ?_
 refine esk rfl ?_
 refine ent_block ?_
 refine ent_loop (fun (i : Int) => (⟨[(1, aEx (.pointer (some ⟨b1_1, 0, none⟩))), (3, aInt (c.F.q ^ i.toNat)), (4, aInt i)], [oBox b1_1 27 [aInt c.F.P, aInt c.F.M, aSl 1 false aInt c.F.mod, aSl 1 false aRows c.Gen]]⟩ : St)) (fun (i : Int) => (0 ≤ i) ∧ (i ≤ c.Gen.length)) (fun (i : Int) => (c.Gen.length - i).toNat) 0 ⟨(by omega), (by omega)⟩ (ent_rep ⟨rfl, slot_av (av_int (show 1 = c.F.q ^ (0 : Int).toNat by simp)), slot_av (av_int (show 0 = (0 : Int) by rfl)), trivial⟩ rfl) ?_
 rintro i ⟨h0, h1⟩
 show Ent _ ⟨_, [_]⟩ _
 refine ent_seq fun _ K5 => ?_
 refine esr rfl fun _ K6 => ?_
 refine ent_o rfl (ok_fieldAddrEx runUnderlying27 rfl sizeOf25 (by decide) rfl) ?_
 refine ent_o rfl (ok_loadB (k := 0) isAgg25 rfl rfl rfl) ?_
 refine ent_o rfl (ok_len rfl runUnderlying25 rfl) ?_
 refine ent_o rfl (ok_lss rfl rfl) ?_
 refine enk K6 ?_
 refine ent_condD rfl (fun h9 => ?_) (fun h9 => ?_)
 ·have hpm := pow_mono_of c.F.q hq2 (show (i + 1).toNat ≤ c.Gen.length by omega)
  have hps := pow_succ_toNat c.F.q i h0
  change c.F.q ^ (i + 1).toNat ≤ c.ins at hpm
  have hpp := pow_pos_of c.F.q hq2 (i + 1).toNat
  refine esp K5 ?_
  refine ent_seq fun _ K7 => ?_
  refine ent_block ?_
  refine ent_region ?_
  refine emm rfl ?_
  refine ent_o rfl (ok_fieldAddrEx runUnderlying27 rfl sizeOf24 (by decide) rfl) ?_
  refine ent_o rfl (ok_loadBS (k := 0) ti24 rfl rfl rfl) ?_
  refine ent_o rfl (ok_call (rOrder_ok c.F) rfl) ?_
  refine ent_o rfl (ok_mul rfl rfl (by omega) (by omega)) ?_
  refine emm rfl ?_
  refine enk K7 ?_
  refine ent_region ?_
  refine emm rfl ?_
  refine ent_o rfl (ok_add rfl rfl (by omega) (by omega)) ?_
  refine emm rfl ?_
  refine ent_nil ?_
  refine ent_again (s := (i)) (i + 1) ⟨(by omega), ‹_›⟩ (by omega) (ent_rep ⟨rfl, slot_av (av_int (show (c.F.q ^ i.toNat) * c.F.q = c.F.q ^ (i + 1).toNat by rw [pow_succ_toNat c.F.q i h0])), rfl, trivial⟩ rfl)
 refine ent_exit ?_
 refine ent_k K3 ?_
 refine esk rfl ?_
 refine ent_ret ?_
 exact retR1 (.inr rfl) results72 (resr_tmp (res_cv rfl (cv_int (by rw [show i.toNat = c.Gen.length by omega]; rfl))))

theorem rInput_ok (c : Cnv) (x : Int) (hFew : c.Few) (hOk : c.Ok) (hx0 : 0 ≤ x) (hx1 : x ≤ 9223372036854775807) : CtrF Try.prog 74 [aCnv c, aInt x] (aSl 1 false aInt (c.inp x)) := by
 have hF := hOk.fld
 have hS := hF.1
 have hq := hS.bd
 have hq2 := hq.2.2.2.2.2.1
 have hik : c.k = (c.Gen.length : Int) := rfl
 have hen : c.n = ((ix [] c.Gen 0).length : Int) := rfl
 have hkn := hOk.kn
 have hnl := hOk.len
 have hi1 := Cnv.ins_pos (c := c) hq2
 have hsi := Cnv.states_ins hq2 hOk.small
 have hil := Cnv.ins_le hq2 hOk.small
 have hst := Cnv.states_le hq2 hOk.small
 have hf1 := hFew.1
 refine ctrF_of Try.call74 func74 rfl rfl ?_
 intro w O
 refine ent_lenC 0 2 rfl rfl (fun hlen0_2 => ?_)
 refine ent_lenC 0 3 rfl rfl (fun hlen0_3 => ?_)
 refine esr rfl fun _ K1 => ?_
 refine ent_boxS rfl rfl (AllOne.mem ⟨(one_int _), (one_int _), one_sl, one_sl, trivial⟩) (fun b2_1 => ?_)
 refine emm rfl ?_
 refine enk K1 ?_
 refine esk rfl ?_
 refine ent_seq fun _ K3 => ?_
 refine esk rfl ?_
 refine ent_block ?_
 refine ent_open 3 1 false aInt (fun _ => rfl) ?_
 refine ent_loop (fun (ss : Int × Option Nat × Nat) => match ss with | (i, rr3, cc3) => (⟨[(1, aInt (x / c.F.q ^ i.toNat)), (2, aEx (.pointer (some ⟨b2_1, 0, none⟩))), (5, aEx (vec rr3 ((digS c.F.q i.toNat x).length) cc3)), (6, aInt i)], [oVec rr3 cc3 3 1 false aInt (digS c.F.q i.toNat x), oBox b2_1 27 [aInt c.F.P, aInt c.F.M, aSl 1 false aInt c.F.mod, aSl 1 false aRows c.Gen]]⟩ : St)) (fun (ss : Int × Option Nat × Nat) => match ss with | (i, rr3, cc3) => (0 ≤ i) ∧ (i ≤ c.Gen.length)) (fun (ss : Int × Option Nat × Nat) => match ss with | (i, rr3, cc3) => (c.Gen.length - i).toNat) (0, none, 0) ⟨(by omega), (by omega)⟩ (ent_rep ⟨slot_av (av_int (show x = x / c.F.q ^ (0 : Int).toNat by simp)), rfl, slot_av ((show aEx (vec none ([] : List _).length 0) = aEx (vec none ((digS c.F.q (0 : Int).toNat x).length) 0) from av_vec (congrArg List.length (show digS c.F.q (0 : Int).toNat x = [] by rfl).symm))), slot_av (av_int (show 0 = (0 : Int) by rfl)), trivial⟩ (own_cons (own_vec (show digS c.F.q (0 : Int).toNat x = [] by rfl)) (rfl))) ?_
 rintro ⟨i, rr3, cc3⟩ ⟨h0, h1⟩
 show Ent _ ⟨_, [_, _]⟩ _
 have ldg := length_digS c.F.q i.toNat x
 refine ent_seq fun _ K5 => ?_
 refine esr rfl fun _ K6 => ?_
 refine ent_o rfl (ok_fieldAddrEx runUnderlying27 rfl sizeOf25 (by decide) rfl) ?_
 refine ent_o rfl (ok_loadB (k := 1) isAgg25 rfl rfl rfl) ?_
 refine ent_o rfl (ok_len rfl runUnderlying25 rfl) ?_
 refine ent_o rfl (ok_lss rfl rfl) ?_
 refine enk K6 ?_
 refine ent_condD rfl (fun h11 => ?_) (fun h11 => ?_)
 ·have hp := pow_pos_of c.F.q hq2 i.toNat
  have hxd := Int.ediv_nonneg hx0 (show 0 ≤ c.F.q ^ i.toNat by omega)
  have hxl := Int.ediv_le_self (c.F.q ^ i.toNat) hx0
  refine esp K5 ?_
  refine ent_seq fun _ K7 => ?_
  refine ent_block ?_
  refine esr rfl fun _ K8 => ?_
  refine ent_o rfl (ok_fieldAddrEx runUnderlying27 rfl sizeOf24 (by decide) rfl) ?_
  refine ent_o rfl (ok_loadBS (k := 1) ti24 rfl rfl rfl) ?_
  refine ent_o rfl (ok_call (rOrder_ok c.F) rfl) ?_
  refine ent_o rfl (ok_rem rfl rfl (by omega) (by omega)) ?_
  refine ent_appendL (k := 0) (enc := aInt) (y := (x / c.F.q ^ i.toNat) % c.F.q) rfl rfl vt22 rfl rfl rfl rfl ((elem_one (one_int _))) (by omega) (by omega) (by decide) (fun b21_4 c21_4 => ?_)
  refine emm rfl ?_
  refine enk K8 ?_
  refine ent_region ?_
  refine emm rfl ?_
  refine ent_o rfl (ok_fieldAddrEx runUnderlying27 rfl sizeOf24 (by decide) rfl) ?_
  refine ent_o rfl (ok_loadBS (k := 1) ti24 rfl rfl rfl) ?_
  refine ent_o rfl (ok_call (rOrder_ok c.F) rfl) ?_
  refine ent_o rfl (ok_quo rfl rfl (by omega) (by omega) (by omega)) ?_
  refine emm rfl ?_
  refine enk K7 ?_
  refine ent_region ?_
  refine emm rfl ?_
  refine ent_o rfl (ok_add rfl rfl (by omega) (by omega)) ?_
  refine emm rfl ?_
  refine ent_nil ?_
  refine ent_again (s := (i, rr3, cc3)) (i + 1, (some b21_4), c21_4) ⟨(by omega), ‹_›⟩ (by dsimp only; omega) (ent_rep ⟨slot_av (av_int (show (x / c.F.q ^ i.toNat) / c.F.q = x / c.F.q ^ (i + 1).toNat by rw [pow_succ_toNat c.F.q i h0, Int.ediv_ediv_of_nonneg (by omega)])), rfl, slot_av (av_vec (congrArg List.length (show digS c.F.q (i + 1).toNat x = (digS c.F.q i.toNat x) ++ [(x / c.F.q ^ i.toNat) % c.F.q] by rw [show (i + 1).toNat = i.toNat + 1 by omega]; exact digS_snoc c.F.q (by omega) i.toNat x).symm)), rfl, trivial⟩ (own_cons (own_vec (show digS c.F.q (i + 1).toNat x = (digS c.F.q i.toNat x) ++ [(x / c.F.q ^ i.toNat) % c.F.q] by rw [show (i + 1).toNat = i.toNat + 1 by omega]; exact digS_snoc c.F.q (by omega) i.toNat x)) (rfl)))
 refine ent_exit ?_
 refine ent_k K3 ?_
 refine esk rfl ?_
 refine ent_ret ?_
 exact retR1 (.inr rfl) results74 (resr_tmp (res_cv rfl (cvF_vec (k := 0) flat_int rfl rfl rfl (by rw [show i.toNat = c.Gen.length by omega]; rfl))))

theorem rSmall_ok (c : Cnv) (m : Int) (hFew : c.Few) (hOk : c.Ok) : Ctr Try.prog 36 [aCnv c, aInt m] (aBool (decide (c.states * c.ins ≤ m ∧ c.n ≤ 6))) := by
 have hF := hOk.fld
 have hS := hF.1
 have hq := hS.bd
 have hq2 := hq.2.2.2.2.2.1
 have hik : c.k = (c.Gen.length : Int) := rfl
 have hen : c.n = ((ix [] c.Gen 0).length : Int) := rfl
 have hkn := hOk.kn
 have hnl := hOk.len
 have hi1 := Cnv.ins_pos (c := c) hq2
 have hsi := Cnv.states_ins hq2 hOk.small
 have hil := Cnv.ins_le hq2 hOk.small
 have hst := Cnv.states_le hq2 hOk.small
 have hf1 := hFew.1
 have hsn := Int.mul_nonneg (show 0 ≤ c.states by omega) (show 0 ≤ c.ins by omega)
 refine ctr_of Try.call36 func36 rfl rfl ?_
 intro w O
 refine ent_lenC 0 2 rfl rfl (fun hlen0_2 => ?_)
 refine ent_lenC 0 3 rfl rfl (fun hlen0_3 => ?_)
 refine esr rfl fun _ K1 => ?_
 refine ent_boxS rfl rfl (AllOne.mem ⟨(one_int _), (one_int _), one_sl, one_sl, trivial⟩) (fun b2_1 => ?_)
 refine emm rfl ?_
 refine enk K1 ?_
 refine ent_seq fun _ K2 => ?_
 refine ent_cut (⟨[(4, aBool (decide (((c.states * c.ins) ≤ m) ∧ ((↑(ix [] c.Gen 0).length : Int) ≤ 6))))], [oBox b2_1 27 [aInt c.F.P, aInt c.F.M, aSl 1 false aInt c.F.mod, aSl 1 false aRows c.Gen]]⟩) ?_ ?_
 ·refine ent_draw 16 mixed (by kernel_rfl) (by kernel_rfl) (by kernel_rfl) ?_
  refine dw_o rfl (ok_loadBS (k := 0) ti27 rfl rfl rfl) ?_
  refine dw_o rfl (ok_call (rStates_ok c ‹_› ‹_›) rfl) ?_
  refine dw_o rfl (ok_loadBS (k := 0) ti27 rfl rfl rfl) ?_
  refine dw_o rfl (ok_call (rInputs_ok c ‹_› ‹_›) rfl) ?_
  refine dw_o rfl (ok_mul rfl rfl (by omega) (by omega)) ?_
  refine dw_o rfl (ok_move rfl) ?_
  refine dw_o rfl (ok_leq rfl rfl) ?_
  refine dw_o rfl (ok_move rfl) ?_
  refine dw_guardDt rfl rfl rfl rfl (fun hg12 => ?_) (fun hg12 => ?_)
  ·refine dw_o rfl (ok_fieldAddrEx runUnderlying27 rfl sizeOf25 (by decide) rfl) ?_
   refine dw_guardT rfl rfl rfl rfl (decide_eq_true hg12) ?_
   refine dw_o rfl (ok_loadB (k := 0) isAgg25 rfl rfl rfl) ?_
   refine dw_guardT rfl rfl rfl rfl (decide_eq_true hg12) ?_
   refine dw_o rfl (ok_index [] sl25 rfl rfl (by omega) (by omega)) ?_
   refine dw_guardT rfl rfl rfl rfl (decide_eq_true hg12) ?_
   refine dw_o rfl (ok_load ti42 rfl) ?_
   refine dw_guardT rfl rfl rfl rfl (decide_eq_true hg12) ?_
   refine dw_o rfl (ok_len rfl runUnderlying42 rfl) ?_
   refine dw_guardT rfl rfl rfl rfl (decide_eq_true hg12) ?_
   refine dw_o rfl (ok_leq rfl rfl) ?_
   refine dw_o rfl (ok_pickT rfl (decide_eq_true hg12) rfl) ?_
   refine dw_o rfl (ok_assign rfl) ?_
   refine dw_nil ?_
   refine ent_nil ?_
   exact ent_rep ⟨slot_bool (dq_Q ((and_iff_right hg12).trans Iff.rfl)), trivial⟩ rfl
  refine dw_guardF rfl rfl rfl rfl (decide_eq_false hg12) ?_
  refine dw_guardF rfl rfl rfl rfl (decide_eq_false hg12) ?_
  refine dw_guardF rfl rfl rfl rfl (decide_eq_false hg12) ?_
  refine dw_guardF rfl rfl rfl rfl (decide_eq_false hg12) ?_
  refine dw_guardF rfl rfl rfl rfl (decide_eq_false hg12) ?_
  refine dw_o rfl (ok_pickF rfl (decide_eq_false hg12) rfl) ?_
  refine dw_o rfl (ok_assign rfl) ?_
  refine dw_nil ?_
  refine ent_nil ?_
  exact ent_rep ⟨slot_bool (dq_F rfl (fun h => hg12 h.1)), trivial⟩ rfl
 refine ent_k K2 ?_
 refine ent_ret ?_
 exact retR1 (.inr rfl) results36 (resr_tmp (res_cv rfl (cv_bool rfl)))
end Go.Proofs.Ytfjhbdfgbpcchaa

