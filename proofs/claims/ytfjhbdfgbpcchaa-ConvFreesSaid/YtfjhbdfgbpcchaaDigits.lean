/-
  Digits, weights, inputs.
-/
import Derived.Test.YtfjhbdfgbpcchaaProg
import Derived.Test.YtfjhbdfgbpcchaaTab
import Derived.Test.YtfjhbdfgbpcchaaCy
import Derived.Test.YtfjhbdfgbpcchaaPlainX
import Derived.Test.YtfjhbdfgbpcchaaFieldA
import Derived.Test.YtfjhbdfgbpcchaaFieldB
import Derived.Test.YtfjhbdfgbpcchaaFieldC
import Derived.Test.YtfjhbdfgbpcchaaFieldE
import Derived.Test.YtfjhbdfgbpcchaaPoly
import Derived.Test.YtfjhbdfgbpcchaaBuild
import Derived.Test.YtfjhbdfgbpcchaaRefC
import Derived.Test.YtfjhbdfgbpcchaaStep
import Derived.Test.YtfjhbdfgbpcchaaRefN
open Go Go.Cw
namespace Go.Proofs.Ytfjhbdfgbpcchaa
set_option maxRecDepth 100000
set_option linter.unusedVariables false
set_option linter.unusedSimpArgs false

abbrev aFp (p : Cnv.Fp) : AV := aAgg [aInt p.D, aSl 1 false aInts p.Msg, aInts p.Pot]

theorem digits_ok (x q n : Int) (hx : 0 ≤ x) (hx2 : x ≤ 9223372036854775807) (hq : 2 ≤ q) (hn : 0 ≤ n) (hn2 : n ≤ 1000000) : CtrF Try.prog 106 [aInt x, aInt q, aInt n] (aVec 3 1 false aInt (digS q n.toNat x)) := by
  have ld := length_digS q n.toNat x
  refine ctrF_of Try.call106 Try.func106 rfl rfl ?_
  intro w O
  refine ent_seq fun K1 hK1 => ?_
  refine ent_region ?_
  refine ent_o rfl (ok_assign rfl) ?_
  refine ent_nil ?_
  refine ent_k hK1 ?_
  refine ent_seq fun K2 hK2 => ?_
  refine ent_region ?_
  refine ent_o rfl (ok_move rfl) ?_
  refine ent_make aInt 0 rfl vt22 rfl rfl (by omega) (by omega) (by omega) (fun _ _ => rfl) (AllV.mem ⟨rfl, trivial⟩) (fun b10_1 => ?_)
  refine ent_o rfl (ok_assign rfl) ?_
  refine ent_nil ?_
  refine ent_k hK2 ?_
  refine ent_seq fun K3 hK3 => ?_
  refine ent_seq fun K4 hK4 => ?_
  refine ent_region ?_
  refine ent_o rfl (ok_move rfl) ?_
  refine ent_o rfl (ok_lenEx rfl Try.runUnderlying22 rfl) ?_
  refine ent_o rfl (ok_move rfl) ?_
  refine ent_nil ?_
  refine ent_k hK4 ?_
  refine ent_block ?_
  refine ent_loop (fun (i : Int) => (⟨[(0, aInt (x / q ^ i.toNat)), (1, aInt q), (7, aEx (vec (some b10_1) ((n).toNat) ((n).toNat))), (12, aInt (↑((n).toNat) : Int)), (13, aInt i)], [oVec (some b10_1) ((n).toNat) 3 1 false aInt (mixL (digS q n.toNat x) (List.replicate n.toNat 0) i)]⟩ : St)) (fun (i : Int) => (0 ≤ i) ∧ (i ≤ n)) (fun (i : Int) => (n - i).toNat) 0 ⟨(by first | rfl | assumption | omega | (simp_all; done) | grind), (by first | rfl | assumption | omega | (simp_all; done) | grind)⟩ (ent_rep ⟨slot_av (av_int (show x = x / q ^ (0 : Int).toNat by simp)), rfl, rfl, rfl, slot_av (av_int (show 0 = (0 : Int) by first | rfl | assumption | omega | (simp_all; done) | grind)), trivial⟩ (own_cons (own_vec (show mixL (digS q n.toNat x) (List.replicate n.toNat 0) (0 : Int) = List.replicate ((n).toNat) 0 by exact mixL_zero _ _)) (rfl))) ?_
  rintro i ⟨h0, h1⟩
  show Ent _ (⟨[(0, aInt (x / q ^ i.toNat)), (1, aInt q), (7, aEx (vec (some b10_1) ((n).toNat) ((n).toNat))), (12, aInt (↑((n).toNat) : Int)), (13, aInt i)], [oVec (some b10_1) ((n).toNat) 3 1 false aInt (mixL (digS q n.toNat x) (List.replicate n.toNat 0) i)]⟩ : St) _
  have lm : (mixL (digS q n.toNat x) (List.replicate n.toNat 0) i).length = n.toNat := by rw [length_mixL _ _ (by simpa using ld)]; simp
  refine ent_seq fun K5 hK5 => ?_
  refine ent_region ?_
  refine ent_o rfl (ok_lss rfl rfl) ?_
  refine ent_nil ?_
  refine ent_k hK5 ?_
  refine ent_seq fun K6 hK6 => ?_
  refine ent_condD rfl (fun h14 => ?_) (fun h14 => ?_)
  · have hp := pow_pos_of q hq i.toNat
    have hxd := Int.ediv_nonneg hx (show 0 ≤ q ^ i.toNat by omega)
    have hxl := Int.ediv_le_self (q ^ i.toNat) hx
    refine ent_skip ?_
    refine ent_k hK6 ?_
    refine ent_seq fun K7 hK7 => ?_
    refine ent_block ?_
    refine ent_seq fun K8 hK8 => ?_
    refine ent_region ?_
    refine ent_o rfl (ok_move rfl) ?_
    refine ent_o rfl (ok_assign rfl) ?_
    refine ent_nil ?_
    refine ent_k hK8 ?_
    refine ent_seq fun K9 hK9 => ?_
    refine ent_region ?_
    refine ent_o rfl (ok_move rfl) ?_
    refine ent_o rfl (ok_move rfl) ?_
    refine ent_o rfl (ok_move rfl) ?_
    refine ent_o rfl (ok_move rfl) ?_
    refine ent_o rfl (ok_rem rfl rfl (by omega) (by omega)) ?_
    refine ent_o rfl (ok_indexV sl22 rfl rfl (by omega) (by omega)) ?_
    refine ent_storeV (k := 0) (z := (x / q ^ i.toNat) % q) ti3 rfl rfl rfl (elem_one (one_int _)) (by omega) (by omega) ?_
    refine ent_nil ?_
    refine ent_k hK9 ?_
    refine ent_region ?_
    refine ent_o rfl (ok_move rfl) ?_
    refine ent_o rfl (ok_move rfl) ?_
    refine ent_o rfl (ok_quo rfl rfl (by omega) (by omega) (by omega)) ?_
    refine ent_o rfl (ok_assign rfl) ?_
    refine ent_nil ?_
    refine ent_k hK7 ?_
    refine ent_region ?_
    refine ent_o rfl (ok_add rfl rfl (by omega) (by omega)) ?_
    refine ent_o rfl (ok_move rfl) ?_
    refine ent_nil ?_
    refine ent_again (s := (i)) (i + 1) ⟨(by first | rfl | assumption | omega | (simp_all; done) | grind), (by first | rfl | assumption | omega | (simp_all; done) | grind)⟩ (by first | omega | (dsimp only; omega)) (ent_rep ⟨slot_av (av_int (show (x / q ^ i.toNat) / q = x / q ^ (i + 1).toNat by rw [pow_succ_toNat q i h0, Int.ediv_ediv_of_nonneg (by omega)])), rfl, rfl, rfl, rfl, trivial⟩ (own_cons (own_vec (show mixL (digS q n.toNat x) (List.replicate n.toNat 0) (i + 1) = List.set (mixL (digS q n.toNat x) (List.replicate n.toNat 0) i) (i).toNat ((x / q ^ i.toNat) % q) by exact (mixL_set _ _ h0 (by simp; omega) (by simpa using ld) (by rw [show ix 0 (digS q n.toNat x) i = x / q ^ i.toNat % q from by have e := Cnv.ix_digS q (by omega) n.toNat x i.toNat (by omega); rwa [show ((i.toNat : Nat) : Int) = i by omega] at e])).symm)) (rfl)))
  · refine ent_exit ?_
    refine ent_k hK3 ?_
    refine ent_seq fun K10 hK10 => ?_
    refine ent_region ?_
    refine ent_o rfl (ok_move rfl) ?_
    refine ent_o rfl (ok_assign rfl) ?_
    refine ent_nil ?_
    refine ent_k hK10 ?_
    refine ent_ret ?_
    exact retR1 (.inr rfl) Try.results106 (resr_tmp (res_cv rfl (cvF_vecV (k := 0) flat_int rfl rfl (by first | rfl | (simp; done) | (simp_all; done) | omega) (by exact mixL_all _ _ (by omega) (by simp; omega)))))

theorem weight_ok (l : List Int)  : Ctr Try.prog 112 [aSl 1 false aInt l] (aInt (wt1 l)) := by
  refine ctr_of Try.call112 Try.func112 rfl rfl ?_
  intro w O
  refine ent_len 0 rfl (fun hlen0 => ?_)
  refine ent_seq fun K1 hK1 => ?_
  refine ent_region ?_
  refine ent_o rfl (ok_assign rfl) ?_
  refine ent_nil ?_
  refine ent_k hK1 ?_
  refine ent_seq fun K2 hK2 => ?_
  refine ent_region ?_
  refine ent_o rfl (ok_assign rfl) ?_
  refine ent_nil ?_
  refine ent_k hK2 ?_
  refine ent_seq fun K3 hK3 => ?_
  refine ent_seq fun K4 hK4 => ?_
  refine ent_region ?_
  refine ent_o rfl (ok_move rfl) ?_
  refine ent_o rfl (ok_len rfl Try.runUnderlying22 rfl) ?_
  refine ent_o rfl (ok_move rfl) ?_
  refine ent_nil ?_
  refine ent_k hK4 ?_
  refine ent_block ?_
  refine ent_loop (fun (i : Int) => (⟨[(3, aInt (wt1To l i.toNat)), (6, aSl 1 false aInt l), (7, aInt (↑l.length : Int)), (8, aInt i)], []⟩ : St)) (fun (i : Int) => (0 ≤ i) ∧ (i ≤ l.length)) (fun (i : Int) => (l.length - i).toNat) 0 ⟨(by first | rfl | assumption | omega | (simp_all; done) | grind), (by first | rfl | assumption | omega | (simp_all; done) | grind)⟩ (ent_rep ⟨slot_av (av_int (show 0 = wt1To l (0 : Int).toNat by rfl)), rfl, rfl, slot_av (av_int (show 0 = (0 : Int) by first | rfl | assumption | omega | (simp_all; done) | grind)), trivial⟩ rfl) ?_
  rintro i ⟨h0, h1⟩
  show Ent _ (⟨[(3, aInt (wt1To l i.toNat)), (6, aSl 1 false aInt l), (7, aInt (↑l.length : Int)), (8, aInt i)], []⟩ : St) _
  have hwb := wt1To_le l i.toNat
  refine ent_seq fun K5 hK5 => ?_
  refine ent_region ?_
  refine ent_o rfl (ok_lss rfl rfl) ?_
  refine ent_nil ?_
  refine ent_k hK5 ?_
  refine ent_seq fun K6 hK6 => ?_
  refine ent_condD rfl (fun h9 => ?_) (fun h9 => ?_)
  · refine ent_skip ?_
    refine ent_k hK6 ?_
    refine ent_seq fun K7 hK7 => ?_
    refine ent_block ?_
    refine ent_seq fun K8 hK8 => ?_
    refine ent_region ?_
    refine ent_o rfl (ok_index 0 sl22 rfl rfl (by omega) (by omega)) ?_
    refine ent_o rfl (ok_load ti3 rfl) ?_
    refine ent_o rfl (ok_assign rfl) ?_
    refine ent_nil ?_
    refine ent_k hK8 ?_
    refine ent_seq fun K9 hK9 => ?_
    refine ent_region ?_
    refine ent_o rfl (ok_move rfl) ?_
    refine ent_o rfl (ok_neq rfl rfl) ?_
    refine ent_nil ?_
    refine ent_k hK9 ?_
    refine ent_condD rfl (fun h13 => ?_) (fun h13 => ?_)
    · refine ent_region ?_
      refine ent_o rfl (ok_move rfl) ?_
      refine ent_o rfl (ok_add rfl rfl (by omega) (by omega)) ?_
      refine ent_o rfl (ok_assign rfl) ?_
      refine ent_nil ?_
      refine ent_k hK7 ?_
      refine ent_region ?_
      refine ent_o rfl (ok_add rfl rfl (by omega) (by omega)) ?_
      refine ent_o rfl (ok_move rfl) ?_
      refine ent_nil ?_
      refine ent_again (s := (i)) (i + 1) ⟨(by first | rfl | assumption | omega | (simp_all; done) | grind), (by first | rfl | assumption | omega | (simp_all; done) | grind)⟩ (by first | omega | (dsimp only; omega)) (ent_rep ⟨slot_av (av_int (show (wt1To l i.toNat) + 1 = wt1To l (i + 1).toNat by rw [wt1To_succ l h0]; first | (rw [if_neg h13]) | (rw [if_pos (Classical.not_not.1 h13)]; omega))), rfl, rfl, rfl, trivial⟩ rfl)
    · refine ent_skip ?_
      refine ent_k hK7 ?_
      refine ent_region ?_
      refine ent_o rfl (ok_add rfl rfl (by omega) (by omega)) ?_
      refine ent_o rfl (ok_move rfl) ?_
      refine ent_nil ?_
      refine ent_again (s := (i)) (i + 1) ⟨(by first | rfl | assumption | omega | (simp_all; done) | grind), (by first | rfl | assumption | omega | (simp_all; done) | grind)⟩ (by first | omega | (dsimp only; omega)) (ent_rep ⟨slot_av (av_int (show wt1To l i.toNat = wt1To l (i + 1).toNat by rw [wt1To_succ l h0]; first | (rw [if_neg h13]) | (rw [if_pos (Classical.not_not.1 h13)]; omega))), rfl, rfl, rfl, trivial⟩ rfl)
  · refine ent_exit ?_
    refine ent_k hK3 ?_
    refine ent_seq fun K10 hK10 => ?_
    refine ent_region ?_
    refine ent_o rfl (ok_move rfl) ?_
    refine ent_o rfl (ok_assign rfl) ?_
    refine ent_nil ?_
    refine ent_k hK10 ?_
    refine ent_ret ?_
    exact retR1 (.inr rfl) Try.results112 (resr_tmp (res_cv rfl (cv_int (by rw [show i.toNat = l.length by omega]; rfl))))

theorem rInputs_ok (c : Cnv) (hFew : c.Few) (hOk : c.Ok) : Ctr Try.prog 72 [aCnv c] (aInt c.ins) := by
  have hF := hOk.fld
  have hS := hF.1
  have hq := hS.bd
  have hq2 := hq.2.2.2.2.2.1
  have hik : c.k = (c.Gen.length : Int) := rfl
  have hen : c.n = ((ix [] c.Gen 0).length : Int) := rfl
  have hkn := hOk.kn
  have hnl := hOk.len
  have hi1 := Cnv.ins_pos (c := c) hq2
  have hsi := Cnv.states_ins hq2 hOk.small
  have hil := Cnv.ins_le hq2 hOk.small
  have hst := Cnv.states_le hq2 hOk.small
  have hf1 := hFew.1
  refine ctr_of Try.call72 Try.func72 rfl rfl ?_
  intro w O
  refine ent_lenC 0 2 rfl rfl (fun hlen0_2 => ?_)
  refine ent_lenC 0 3 rfl rfl (fun hlen0_3 => ?_)
  refine ent_seq fun K1 hK1 => ?_
  refine ent_region ?_
  refine ent_boxS rfl rfl (AllOne.mem ⟨(one_int _), (one_int _), one_sl, one_sl, trivial⟩) (fun b1_1 => ?_)
  refine ent_o rfl (ok_assign rfl) ?_
  refine ent_nil ?_
  refine ent_k hK1 ?_
  refine ent_seq fun K2 hK2 => ?_
  refine ent_region ?_
  refine ent_o rfl (ok_assign rfl) ?_
  refine ent_nil ?_
  refine ent_k hK2 ?_
  refine ent_seq fun K3 hK3 => ?_
  refine ent_seq fun K4 hK4 => ?_
  refine ent_region ?_
  refine ent_o rfl (ok_assign rfl) ?_
  refine ent_nil ?_
  refine ent_k hK4 ?_
  refine ent_block ?_
  refine ent_loop (fun (i : Int) => (⟨[(1, aEx (.pointer (some ⟨b1_1, 0, none⟩))), (3, aInt (c.F.q ^ i.toNat)), (4, aInt i)], [oBox b1_1 27 [aInt c.F.P, aInt c.F.M, aSl 1 false aInt c.F.mod, aSl 1 false aRows c.Gen]]⟩ : St)) (fun (i : Int) => (0 ≤ i) ∧ (i ≤ c.Gen.length)) (fun (i : Int) => (c.Gen.length - i).toNat) 0 ⟨(by first | rfl | assumption | omega | (simp_all; done) | grind), (by first | rfl | assumption | omega | (simp_all; done) | grind)⟩ (ent_rep ⟨rfl, slot_av (av_int (show 1 = c.F.q ^ (0 : Int).toNat by simp)), slot_av (av_int (show 0 = (0 : Int) by first | rfl | assumption | omega | (simp_all; done) | grind)), trivial⟩ rfl) ?_
  rintro i ⟨h0, h1⟩
  show Ent _ (⟨[(1, aEx (.pointer (some ⟨b1_1, 0, none⟩))), (3, aInt (c.F.q ^ i.toNat)), (4, aInt i)], [oBox b1_1 27 [aInt c.F.P, aInt c.F.M, aSl 1 false aInt c.F.mod, aSl 1 false aRows c.Gen]]⟩ : St) _
  refine ent_seq fun K5 hK5 => ?_
  refine ent_seq fun K6 hK6 => ?_
  refine ent_region ?_
  refine ent_o rfl (ok_move rfl) ?_
  refine ent_o rfl (ok_fieldAddrEx Try.runUnderlying27 rfl Try.sizeOf25 (by decide) rfl) ?_
  refine ent_o rfl (ok_loadB (k := 0) Try.isAgg25 rfl rfl rfl) ?_
  refine ent_o rfl (ok_len rfl Try.runUnderlying25 rfl) ?_
  refine ent_o rfl (ok_lss rfl rfl) ?_
  refine ent_nil ?_
  refine ent_k hK6 ?_
  refine ent_condD rfl (fun h9 => ?_) (fun h9 => ?_)
  · have hpm := pow_mono_of c.F.q hq2 (show (i + 1).toNat ≤ c.Gen.length by omega)
    have hps := pow_succ_toNat c.F.q i h0
    change c.F.q ^ (i + 1).toNat ≤ c.ins at hpm
    have hpp := pow_pos_of c.F.q hq2 (i + 1).toNat
    refine ent_skip ?_
    refine ent_k hK5 ?_
    refine ent_seq fun K7 hK7 => ?_
    refine ent_block ?_
    refine ent_region ?_
    refine ent_o rfl (ok_move rfl) ?_
    refine ent_o rfl (ok_fieldAddrEx Try.runUnderlying27 rfl Try.sizeOf24 (by decide) rfl) ?_
    refine ent_o rfl (ok_loadBS (k := 0) ti24 rfl rfl rfl) ?_
    refine ent_o rfl (ok_call (rOrder_ok c.F) rfl) ?_
    refine ent_o rfl (ok_mul rfl rfl (by omega) (by omega)) ?_
    refine ent_o rfl (ok_assign rfl) ?_
    refine ent_nil ?_
    refine ent_k hK7 ?_
    refine ent_region ?_
    refine ent_o rfl (ok_move rfl) ?_
    refine ent_o rfl (ok_add rfl rfl (by omega) (by omega)) ?_
    refine ent_o rfl (ok_assign rfl) ?_
    refine ent_nil ?_
    refine ent_again (s := (i)) (i + 1) ⟨(by first | rfl | assumption | omega | (simp_all; done) | grind), (by first | rfl | assumption | omega | (simp_all; done) | grind)⟩ (by first | omega | (dsimp only; omega)) (ent_rep ⟨rfl, slot_av (av_int (show (c.F.q ^ i.toNat) * c.F.q = c.F.q ^ (i + 1).toNat by rw [pow_succ_toNat c.F.q i h0])), rfl, trivial⟩ rfl)
  · refine ent_exit ?_
    refine ent_k hK3 ?_
    refine ent_seq fun K8 hK8 => ?_
    refine ent_region ?_
    refine ent_o rfl (ok_move rfl) ?_
    refine ent_o rfl (ok_assign rfl) ?_
    refine ent_nil ?_
    refine ent_k hK8 ?_
    refine ent_ret ?_
    exact retR1 (.inr rfl) Try.results72 (resr_tmp (res_cv rfl (cv_int (by rw [show i.toNat = c.Gen.length by omega]; rfl))))

theorem rInput_ok (c : Cnv) (x : Int) (hFew : c.Few) (hOk : c.Ok) (hx0 : 0 ≤ x) (hx1 : x ≤ 9223372036854775807) : CtrF Try.prog 74 [aCnv c, aInt x] (aSl 1 false aInt (c.inp x)) := by
  have hF := hOk.fld
  have hS := hF.1
  have hq := hS.bd
  have hq2 := hq.2.2.2.2.2.1
  have hik : c.k = (c.Gen.length : Int) := rfl
  have hen : c.n = ((ix [] c.Gen 0).length : Int) := rfl
  have hkn := hOk.kn
  have hnl := hOk.len
  have hi1 := Cnv.ins_pos (c := c) hq2
  have hsi := Cnv.states_ins hq2 hOk.small
  have hil := Cnv.ins_le hq2 hOk.small
  have hst := Cnv.states_le hq2 hOk.small
  have hf1 := hFew.1
  refine ctrF_of Try.call74 Try.func74 rfl rfl ?_
  intro w O
  refine ent_lenC 0 2 rfl rfl (fun hlen0_2 => ?_)
  refine ent_lenC 0 3 rfl rfl (fun hlen0_3 => ?_)
  refine ent_seq fun K1 hK1 => ?_
  refine ent_region ?_
  refine ent_boxS rfl rfl (AllOne.mem ⟨(one_int _), (one_int _), one_sl, one_sl, trivial⟩) (fun b2_1 => ?_)
  refine ent_o rfl (ok_assign rfl) ?_
  refine ent_nil ?_
  refine ent_k hK1 ?_
  refine ent_seq fun K2 hK2 => ?_
  refine ent_region ?_
  refine ent_o rfl (ok_assign rfl) ?_
  refine ent_nil ?_
  refine ent_k hK2 ?_
  refine ent_seq fun K3 hK3 => ?_
  refine ent_seq fun K4 hK4 => ?_
  refine ent_region ?_
  refine ent_o rfl (ok_assign rfl) ?_
  refine ent_nil ?_
  refine ent_k hK4 ?_
  refine ent_block ?_
  refine ent_open 3 1 false aInt (fun _ => rfl) ?_
  refine ent_loop (fun (ss : Int × Option Nat × Nat) => match ss with | (i, rr3, cc3) => (⟨[(1, aInt (x / c.F.q ^ i.toNat)), (2, aEx (.pointer (some ⟨b2_1, 0, none⟩))), (5, aEx (vec rr3 ((digS c.F.q i.toNat x).length) cc3)), (6, aInt i)], [oVec rr3 cc3 3 1 false aInt (digS c.F.q i.toNat x), oBox b2_1 27 [aInt c.F.P, aInt c.F.M, aSl 1 false aInt c.F.mod, aSl 1 false aRows c.Gen]]⟩ : St)) (fun (ss : Int × Option Nat × Nat) => match ss with | (i, rr3, cc3) => (0 ≤ i) ∧ (i ≤ c.Gen.length)) (fun (ss : Int × Option Nat × Nat) => match ss with | (i, rr3, cc3) => (c.Gen.length - i).toNat) (0, none, 0) ⟨(by first | rfl | assumption | omega | (simp_all; done) | grind), (by first | rfl | assumption | omega | (simp_all; done) | grind)⟩ (ent_rep ⟨slot_av (av_int (show x = x / c.F.q ^ (0 : Int).toNat by simp)), rfl, slot_av ((show aEx (vec none ([] : List _).length 0) = aEx (vec none ((digS c.F.q (0 : Int).toNat x).length) 0) from av_vec (congrArg List.length (show digS c.F.q (0 : Int).toNat x = [] by rfl).symm))), slot_av (av_int (show 0 = (0 : Int) by first | rfl | assumption | omega | (simp_all; done) | grind)), trivial⟩ (own_cons (own_vec (show digS c.F.q (0 : Int).toNat x = [] by rfl)) (rfl))) ?_
  rintro ⟨i, rr3, cc3⟩ ⟨h0, h1⟩
  show Ent _ (⟨[(1, aInt (x / c.F.q ^ i.toNat)), (2, aEx (.pointer (some ⟨b2_1, 0, none⟩))), (5, aEx (vec rr3 ((digS c.F.q i.toNat x).length) cc3)), (6, aInt i)], [oVec rr3 cc3 3 1 false aInt (digS c.F.q i.toNat x), oBox b2_1 27 [aInt c.F.P, aInt c.F.M, aSl 1 false aInt c.F.mod, aSl 1 false aRows c.Gen]]⟩ : St) _
  have ldg := length_digS c.F.q i.toNat x
  refine ent_seq fun K5 hK5 => ?_
  refine ent_seq fun K6 hK6 => ?_
  refine ent_region ?_
  refine ent_o rfl (ok_move rfl) ?_
  refine ent_o rfl (ok_fieldAddrEx Try.runUnderlying27 rfl Try.sizeOf25 (by decide) rfl) ?_
  refine ent_o rfl (ok_loadB (k := 1) Try.isAgg25 rfl rfl rfl) ?_
  refine ent_o rfl (ok_len rfl Try.runUnderlying25 rfl) ?_
  refine ent_o rfl (ok_lss rfl rfl) ?_
  refine ent_nil ?_
  refine ent_k hK6 ?_
  refine ent_condD rfl (fun h11 => ?_) (fun h11 => ?_)
  · have hp := pow_pos_of c.F.q hq2 i.toNat
    have hxd := Int.ediv_nonneg hx0 (show 0 ≤ c.F.q ^ i.toNat by omega)
    have hxl := Int.ediv_le_self (c.F.q ^ i.toNat) hx0
    refine ent_skip ?_
    refine ent_k hK5 ?_
    refine ent_seq fun K7 hK7 => ?_
    refine ent_block ?_
    refine ent_seq fun K8 hK8 => ?_
    refine ent_region ?_
    refine ent_o rfl (ok_move rfl) ?_
    refine ent_o rfl (ok_move rfl) ?_
    refine ent_o rfl (ok_fieldAddrEx Try.runUnderlying27 rfl Try.sizeOf24 (by decide) rfl) ?_
    refine ent_o rfl (ok_loadBS (k := 1) ti24 rfl rfl rfl) ?_
    refine ent_o rfl (ok_call (rOrder_ok c.F) rfl) ?_
    refine ent_o rfl (ok_rem rfl rfl (by omega) (by omega)) ?_
    refine ent_appendL (k := 0) (enc := aInt) (y := (x / c.F.q ^ i.toNat) % c.F.q) rfl rfl vt22 rfl rfl (by first | rfl | (simp; done) | (simp_all; done) | omega) rfl ((elem_one (one_int _))) (by first | omega | (simp only [List.length_append, List.length_cons, List.length_nil]; omega) | (simp; omega)) (by first | omega | (simp only [List.length_append, List.length_cons, List.length_nil]; omega) | (simp; omega)) (by decide) (fun b21_4 c21_4 => ?_)
    refine ent_o rfl (ok_assign rfl) ?_
    refine ent_nil ?_
    refine ent_k hK8 ?_
    refine ent_region ?_
    refine ent_o rfl (ok_move rfl) ?_
    refine ent_o rfl (ok_fieldAddrEx Try.runUnderlying27 rfl Try.sizeOf24 (by decide) rfl) ?_
    refine ent_o rfl (ok_loadBS (k := 1) ti24 rfl rfl rfl) ?_
    refine ent_o rfl (ok_call (rOrder_ok c.F) rfl) ?_
    refine ent_o rfl (ok_quo rfl rfl (by omega) (by omega) (by omega)) ?_
    refine ent_o rfl (ok_assign rfl) ?_
    refine ent_nil ?_
    refine ent_k hK7 ?_
    refine ent_region ?_
    refine ent_o rfl (ok_move rfl) ?_
    refine ent_o rfl (ok_add rfl rfl (by omega) (by omega)) ?_
    refine ent_o rfl (ok_assign rfl) ?_
    refine ent_nil ?_
    refine ent_again (s := (i, rr3, cc3)) (i + 1, (some b21_4), c21_4) ⟨(by first | rfl | assumption | omega | (simp_all; done) | grind), (by first | rfl | assumption | omega | (simp_all; done) | grind)⟩ (by first | omega | (dsimp only; omega)) (ent_rep ⟨slot_av (av_int (show (x / c.F.q ^ i.toNat) / c.F.q = x / c.F.q ^ (i + 1).toNat by rw [pow_succ_toNat c.F.q i h0, Int.ediv_ediv_of_nonneg (by omega)])), rfl, slot_av (av_vec (congrArg List.length (show digS c.F.q (i + 1).toNat x = (digS c.F.q i.toNat x) ++ [(x / c.F.q ^ i.toNat) % c.F.q] by rw [show (i + 1).toNat = i.toNat + 1 by omega]; exact digS_snoc c.F.q (by omega) i.toNat x).symm)), rfl, trivial⟩ (own_cons (own_vec (show digS c.F.q (i + 1).toNat x = (digS c.F.q i.toNat x) ++ [(x / c.F.q ^ i.toNat) % c.F.q] by rw [show (i + 1).toNat = i.toNat + 1 by omega]; exact digS_snoc c.F.q (by omega) i.toNat x)) (rfl)))
  · refine ent_exit ?_
    refine ent_k hK3 ?_
    refine ent_seq fun K9 hK9 => ?_
    refine ent_region ?_
    refine ent_o rfl (ok_move rfl) ?_
    refine ent_o rfl (ok_assign rfl) ?_
    refine ent_nil ?_
    refine ent_k hK9 ?_
    refine ent_ret ?_
    exact retR1 (.inr rfl) Try.results74 (resr_tmp (res_cv rfl (cvF_vec (k := 0) flat_int rfl rfl (by first | rfl | (simp; done) | (simp_all; done) | omega) (by rw [show i.toNat = c.Gen.length by omega]; rfl))))

theorem rSmall_ok (c : Cnv) (m : Int) (hFew : c.Few) (hOk : c.Ok) : Ctr Try.prog 36 [aCnv c, aInt m] (aBool (decide (c.states * c.ins ≤ m ∧ c.n ≤ 6))) := by
  have hF := hOk.fld
  have hS := hF.1
  have hq := hS.bd
  have hq2 := hq.2.2.2.2.2.1
  have hik : c.k = (c.Gen.length : Int) := rfl
  have hen : c.n = ((ix [] c.Gen 0).length : Int) := rfl
  have hkn := hOk.kn
  have hnl := hOk.len
  have hi1 := Cnv.ins_pos (c := c) hq2
  have hsi := Cnv.states_ins hq2 hOk.small
  have hil := Cnv.ins_le hq2 hOk.small
  have hst := Cnv.states_le hq2 hOk.small
  have hf1 := hFew.1
  have hsn := Int.mul_nonneg (show 0 ≤ c.states by omega) (show 0 ≤ c.ins by omega)
  refine ctr_of Try.call36 Try.func36 rfl rfl ?_
  intro w O
  refine ent_lenC 0 2 rfl rfl (fun hlen0_2 => ?_)
  refine ent_lenC 0 3 rfl rfl (fun hlen0_3 => ?_)
  refine ent_seq fun K1 hK1 => ?_
  refine ent_region ?_
  refine ent_boxS rfl rfl (AllOne.mem ⟨(one_int _), (one_int _), one_sl, one_sl, trivial⟩) (fun b2_1 => ?_)
  refine ent_o rfl (ok_assign rfl) ?_
  refine ent_nil ?_
  refine ent_k hK1 ?_
  refine ent_seq fun K2 hK2 => ?_
  refine ent_cut (⟨[(4, aBool (decide (((c.states * c.ins) ≤ m) ∧ ((↑(ix [] c.Gen 0).length : Int) ≤ 6))))], [oBox b2_1 27 [aInt c.F.P, aInt c.F.M, aSl 1 false aInt c.F.mod, aSl 1 false aRows c.Gen]]⟩) ?_ ?_
  · refine ent_draw 16 mixed (by kernel_rfl) (by kernel_rfl) (by kernel_rfl) ?_
    refine dw_o rfl (ok_loadBS (k := 0) ti27 rfl rfl rfl) ?_
    refine dw_o rfl (ok_call (rStates_ok c (by first | rfl | assumption | omega | (simp_all; done) | grind) (by first | rfl | assumption | omega | (simp_all; done) | grind)) rfl) ?_
    refine dw_o rfl (ok_loadBS (k := 0) ti27 rfl rfl rfl) ?_
    refine dw_o rfl (ok_call (rInputs_ok c (by first | rfl | assumption | omega | (simp_all; done) | grind) (by first | rfl | assumption | omega | (simp_all; done) | grind)) rfl) ?_
    refine dw_o rfl (ok_mul rfl rfl (by omega) (by omega)) ?_
    refine dw_o rfl (ok_move rfl) ?_
    refine dw_o rfl (ok_leq rfl rfl) ?_
    refine dw_o rfl (ok_move rfl) ?_
    refine dw_guardDt rfl rfl rfl rfl (fun hg12 => ?_) (fun hg12 => ?_)
    · refine dw_o rfl (ok_fieldAddrEx Try.runUnderlying27 rfl Try.sizeOf25 (by decide) rfl) ?_
      refine dw_guardT rfl rfl rfl rfl (decide_eq_true hg12) ?_
      refine dw_o rfl (ok_loadB (k := 0) Try.isAgg25 rfl rfl rfl) ?_
      refine dw_guardT rfl rfl rfl rfl (decide_eq_true hg12) ?_
      refine dw_o rfl (ok_index [] sl25 rfl rfl (by omega) (by omega)) ?_
      refine dw_guardT rfl rfl rfl rfl (decide_eq_true hg12) ?_
      refine dw_o rfl (ok_load ti42 rfl) ?_
      refine dw_guardT rfl rfl rfl rfl (decide_eq_true hg12) ?_
      refine dw_o rfl (ok_len rfl Try.runUnderlying42 rfl) ?_
      refine dw_guardT rfl rfl rfl rfl (decide_eq_true hg12) ?_
      refine dw_o rfl (ok_leq rfl rfl) ?_
      refine dw_o rfl (ok_pickT rfl (decide_eq_true hg12) rfl) ?_
      refine dw_o rfl (ok_assign rfl) ?_
      refine dw_nil ?_
      refine ent_nil ?_
      exact ent_rep ⟨slot_bool (dq_Q ((and_iff_right hg12).trans Iff.rfl)), trivial⟩ rfl
    · refine dw_guardF rfl rfl rfl rfl (decide_eq_false hg12) ?_
      refine dw_guardF rfl rfl rfl rfl (decide_eq_false hg12) ?_
      refine dw_guardF rfl rfl rfl rfl (decide_eq_false hg12) ?_
      refine dw_guardF rfl rfl rfl rfl (decide_eq_false hg12) ?_
      refine dw_guardF rfl rfl rfl rfl (decide_eq_false hg12) ?_
      refine dw_o rfl (ok_pickF rfl (decide_eq_false hg12) rfl) ?_
      refine dw_o rfl (ok_assign rfl) ?_
      refine dw_nil ?_
      refine ent_nil ?_
      exact ent_rep ⟨slot_bool (dq_F rfl (fun h => hg12 h.1)), trivial⟩ rfl
  refine ent_k hK2 ?_
  refine ent_ret ?_
  exact retR1 (.inr rfl) Try.results36 (resr_tmp (res_cv rfl (cv_bool (by rfl))))
end Go.Proofs.Ytfjhbdfgbpcchaa
