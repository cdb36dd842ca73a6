/-
  All steps of a machine.
-/
import Derived.Test.YtfjhbdfgbpcchaaProg
import Derived.Test.YtfjhbdfgbpcchaaTab
import Derived.Test.YtfjhbdfgbpcchaaCy
import Derived.Test.YtfjhbdfgbpcchaaPlainX
import Derived.Test.YtfjhbdfgbpcchaaFieldA
import Derived.Test.YtfjhbdfgbpcchaaFieldB
import Derived.Test.YtfjhbdfgbpcchaaFieldC
import Derived.Test.YtfjhbdfgbpcchaaFieldE
import Derived.Test.YtfjhbdfgbpcchaaPoly
import Derived.Test.YtfjhbdfgbpcchaaBuild
import Derived.Test.YtfjhbdfgbpcchaaRefC
import Derived.Test.YtfjhbdfgbpcchaaStep
import Derived.Test.YtfjhbdfgbpcchaaRefN
import Derived.Test.YtfjhbdfgbpcchaaDigits
open Go Go.Cw
namespace Go.Proofs.Ytfjhbdfgbpcchaa
set_option maxRecDepth 100000
set_option linter.unusedVariables false
set_option linter.unusedSimpArgs false
set_option maxHeartbeats 1000000 in
theorem edges_ok (c : Cnv) (hFew : c.Few) (hOk : c.Ok) : Ctr Try.prog 70 [aMach c] (aAgg [aInt c.ins, aSl 1 false aInt c.eNxs, aSl 1 false aInt c.eWts]) := by
  have hF := hOk.fld
  have hS := hF.1
  have hq := hS.bd
  have hq2 := hq.2.2.2.2.2.1
  have hik : c.k = (c.Gen.length : Int) := rfl
  have hen : c.n = ((ix [] c.Gen 0).length : Int) := rfl
  have hkn := hOk.kn
  have hnl := hOk.len
  have hi1 := Cnv.ins_pos (c := c) hq2
  have hsi := Cnv.states_ins hq2 hOk.small
  have hil := Cnv.ins_le hq2 hOk.small
  have hst := Cnv.states_le hq2 hOk.small
  have hf1 := hFew.1
  have hzg : c.GoodIn (List.replicate ((c.k)).toNat 0) := Cnv.zrow_good hq2
  have hst0 : (0 : Int) < c.states := by omega
  refine ctr_of Try.call70 Try.func70 rfl rfl ?_
  intro w O
  refine ent_lenP 0 1 rfl rfl (fun hlen0_1 => ?_)
  refine ent_lenP 0 4 rfl rfl (fun hlen0_4 => ?_)
  refine ent_lenP 0 8 rfl rfl (fun hlen0_8 => ?_)
  refine ent_seq fun K1 hK1 => ?_
  refine ent_region ?_
  refine ent_alloc (z := .agg #[.int .i64 0, .slice none 0 0, .slice none 0 0]) [aInt 0, aEx (.slice none 0 0), aEx (.slice none 0 0)] rfl zv96 rfl zc96 (fun b2_1 => ?_)
  refine ent_nil ?_
  refine ent_k hK1 ?_
  refine ent_seq fun K2 hK2 => ?_
  refine ent_region ?_
  refine ent_o rfl (ok_build st96 (As := [aInt 0, aEx (.slice none 0 0), aEx (.slice none 0 0)]) z96 (⟨0, 1, rfl, .inl ⟨rfl, _, rfl, (one_int _), rfl, rfl⟩⟩)) ?_
  refine ent_alloc (z := .agg #[.int .i64 0, .slice none 0 0, .slice none 0 0]) [aInt 0, aEx (.slice none 0 0), aEx (.slice none 0 0)] rfl zv96 rfl zc96 (fun b3_2 => ?_)
  refine ent_storeBS (k := 0) Try.sizeOf96 rfl rfl rfl (AllOne.mem ⟨(one_int _), (one_ex rfl), (one_ex rfl), trivial⟩) rfl rfl ?_
  refine ent_nil ?_
  refine ent_k hK2 ?_
  refine ent_seq fun K3 hK3 => ?_
  refine ent_seq fun K4 hK4 => ?_
  refine ent_region ?_
  refine ent_o rfl (ok_move rfl) ?_
  refine ent_o rfl (ok_nilCheck rfl) ?_
  refine ent_o rfl (ok_fieldAddr1 Try.runUnderlying84 rfl Try.sizeOf3 rfl rfl) ?_
  refine ent_o rfl (ok_load ti3 rfl) ?_
  refine ent_o rfl (ok_move rfl) ?_
  refine ent_nil ?_
  refine ent_k hK4 ?_
  refine ent_block ?_
  refine ent_loop (fun (i : Int) => (⟨[(0, aMach c), (2, aEx (.pointer (some ⟨b2_1, 0, none⟩))), (3, aEx (.pointer (some ⟨b3_2, 0, none⟩))), (19, aInt c.k), (20, aInt i)], [oBox b3_2 96 [aInt (c.F.q ^ i.toNat), aEx (.slice none 0 0), aEx (.slice none 0 0)], oBox b2_1 96 [aInt 0, aEx (.slice none 0 0), aEx (.slice none 0 0)]]⟩ : St)) (fun (i : Int) => (0 ≤ i) ∧ (i ≤ c.k)) (fun (i : Int) => (c.k - i).toNat) 0 ⟨(by first | rfl | assumption | omega | (simp_all; done) | grind), (by first | rfl | assumption | omega | (simp_all; done) | grind)⟩ (ent_rep ⟨rfl, rfl, rfl, rfl, slot_av (av_int (show 0 = (0 : Int) by first | rfl | assumption | omega | (simp_all; done) | grind)), trivial⟩ (own_cons (own_box (av_cons (av_int (show c.F.q ^ (0 : Int).toNat = 1 by simp)) (rfl))) (rfl))) ?_
  rintro i ⟨h0, h1⟩
  show Ent _ (⟨[(0, aMach c), (2, aEx (.pointer (some ⟨b2_1, 0, none⟩))), (3, aEx (.pointer (some ⟨b3_2, 0, none⟩))), (19, aInt c.k), (20, aInt i)], [oBox b3_2 96 [aInt (c.F.q ^ i.toNat), aEx (.slice none 0 0), aEx (.slice none 0 0)], oBox b2_1 96 [aInt 0, aEx (.slice none 0 0), aEx (.slice none 0 0)]]⟩ : St) _
  refine ent_seq fun K5 hK5 => ?_
  refine ent_region ?_
  refine ent_o rfl (ok_lss rfl rfl) ?_
  refine ent_nil ?_
  refine ent_k hK5 ?_
  refine ent_seq fun K6 hK6 => ?_
  refine ent_condD rfl (fun h21 => ?_) (fun h21 => ?_)
  · have hpm := pow_mono_of c.F.q hq2 (show (i + 1).toNat ≤ c.Gen.length by omega)
    have hps := pow_succ_toNat c.F.q i h0
    change c.F.q ^ (i + 1).toNat ≤ c.ins at hpm
    have hpp := pow_pos_of c.F.q hq2 (i + 1).toNat
    refine ent_skip ?_
    refine ent_k hK6 ?_
    refine ent_seq fun K7 hK7 => ?_
    refine ent_block ?_
    refine ent_draw 8 mixed (by kernel_rfl) (by kernel_rfl) (by kernel_rfl) ?_
    refine dw_o rfl (ok_fieldAddrEx Try.runUnderlying96 rfl Try.sizeOf3 (by decide) rfl) ?_
    refine dw_o rfl (ok_loadB (k := 0) Try.isAgg3 rfl rfl rfl) ?_
    refine dw_o rfl (ok_move rfl) ?_
    refine dw_o rfl (ok_nilCheck rfl) ?_
    refine dw_o rfl (ok_fieldAddr1 Try.runUnderlying84 rfl Try.sizeOf3 rfl rfl) ?_
    refine dw_o rfl (ok_load ti3 rfl) ?_
    refine dw_o rfl (ok_mul rfl rfl (by omega) (by omega)) ?_
    refine dw_o rfl (ok_fieldAddrEx Try.runUnderlying96 rfl Try.sizeOf3 (by decide) rfl) ?_
    refine dw_nil ?_
    refine ent_storeB (k := 0) Try.sizeOf3 rfl rfl rfl (one_int _) rfl ?_
    refine ent_nil ?_
    refine ent_k hK7 ?_
    refine ent_region ?_
    refine ent_o rfl (ok_add rfl rfl (by omega) (by omega)) ?_
    refine ent_o rfl (ok_move rfl) ?_
    refine ent_nil ?_
    refine ent_again (s := (i)) (i + 1) ⟨(by first | rfl | assumption | omega | (simp_all; done) | grind), (by first | rfl | assumption | omega | (simp_all; done) | grind)⟩ (by first | omega | (dsimp only; omega)) (ent_rep ⟨rfl, rfl, rfl, rfl, rfl, trivial⟩ (own_cons (own_box (av_cons (av_int (show c.F.q ^ (i + 1).toNat = (c.F.q ^ i.toNat) * c.F.q by rw [pow_succ_toNat c.F.q i h0])) (rfl))) (rfl)))
  · have hci : c.F.q ^ i.toNat = c.ins := by unfold Cnv.ins; rw [show i.toNat = c.Gen.length by omega]
    have lr1 : (List.replicate ((c.F.q ^ i.toNat)).toNat (0 : Int)).length = c.ins.toNat := by rw [List.length_replicate, hci]
    have lr2 : (List.replicate ((c.F.q ^ i.toNat)).toNat ([] : List Int)).length = c.ins.toNat := by rw [List.length_replicate, hci]
    refine ent_exit ?_
    refine ent_k hK3 ?_
    refine ent_seq fun K8 hK8 => ?_
    refine ent_drawV2 (e1 := 3) (e2 := 22) (enc1 := aInt) (enc2 := aInts) (xs1 := (List.replicate (c.F.q ^ i.toNat).toNat 0 : List Int)) (xs2 := (List.replicate (c.F.q ^ i.toNat).toNat [] : List (List Int))) 4 5 [(0, aMach c), (2, aEx (.pointer (some ⟨b2_1, 0, none⟩))), (3, aEx (.pointer (some ⟨b3_2, 0, none⟩)))] mixed (by kernel_rfl) (by kernel_rfl) (by kernel_rfl) (by kernel_rfl) ⟨rfl, rfl, rfl, trivial⟩ (by decide) (pl_rep pl_ex) (pl_rep pl_nilSl) (fun w => ?_) (fun ra_3 ca_3 rb_3 cb_3 => ?_)
    · refine dw_o rfl (ok_fieldAddrEx Try.runUnderlying96 rfl Try.sizeOf3 (by decide) rfl) ?_
      refine dw_o rfl (ok_loadB (k := 0) Try.isAgg3 rfl rfl rfl) ?_
      refine dw_o rfl (ok_makeA aInt 0 vt22 rfl rfl (by omega) (by omega) (by omega) (fun _ _ => rfl) (AllV.mem ⟨rfl, trivial⟩)) ?_
      refine dw_o rfl (ok_fieldAddrEx Try.runUnderlying96 rfl Try.sizeOf3 (by decide) rfl) ?_
      refine dw_o rfl (ok_loadB (k := 0) Try.isAgg3 rfl rfl rfl) ?_
      refine dw_o rfl (ok_makeA aInts [] vt42 rfl rfl (by omega) (by omega) (by omega) (fun h O => aSl_nil (fun _ => rfl) _ _ _ rfl) (AllV.mem ⟨rfl, trivial⟩)) ?_
      refine dw_o rfl (ok_assign rfl) ?_
      refine dw_o rfl (ok_assign rfl) ?_
      exact ⟨rfl, rfl⟩
    refine ent_rsome 0 rfl (by omega) (fun b4_4 hb4_4 => ?_)
    subst hb4_4
    refine ent_rsome 1 rfl (by omega) (fun b5_5 hb5_5 => ?_)
    subst hb5_5
    refine ent_k hK8 ?_
    refine ent_seq fun K9 hK9 => ?_
    refine ent_seq fun K10 hK10 => ?_
    refine ent_region ?_
    refine ent_o rfl (ok_fieldAddrEx Try.runUnderlying96 rfl Try.sizeOf3 (by decide) rfl) ?_
    refine ent_o rfl (ok_loadB (k := 2) Try.isAgg3 rfl rfl rfl) ?_
    refine ent_o rfl (ok_move rfl) ?_
    refine ent_nil ?_
    refine ent_k hK10 ?_
    refine ent_block ?_
    refine ent_loop (fun (x : Int) => (⟨[(0, aMach c), (2, aEx (.pointer (some ⟨b2_1, 0, none⟩))), (3, aEx (.pointer (some ⟨b3_2, 0, none⟩))), (4, aEx (vec (some b4_4) (((List.replicate (c.F.q ^ i.toNat).toNat 0 : List Int)).length) ca_3)), (5, aEx (vec (some b5_5) (((List.replicate (c.F.q ^ i.toNat).toNat [] : List (List Int))).length) cb_3)), (38, aInt (c.F.q ^ i.toNat)), (39, aInt x)], [oVec (some b4_4) ca_3 3 1 false aInt (fillR (fun xx => c.nxt 0 (c.inp xx) c.Gen.length) 0 c.ins x), oVec (some b5_5) cb_3 22 1 false aInts (fillR (fun xx => c.outL 0 (c.inp xx)) [] c.ins x), oBox b3_2 96 [aInt c.ins, aEx (.slice none 0 0), aEx (.slice none 0 0)], oBox b2_1 96 [aInt 0, aEx (.slice none 0 0), aEx (.slice none 0 0)]]⟩ : St)) (fun (x : Int) => (0 ≤ x) ∧ (x ≤ c.ins)) (fun (x : Int) => (c.ins - x).toNat) 0 ⟨(by first | rfl | assumption | omega | (simp_all; done) | grind), (by first | rfl | assumption | omega | (simp_all; done) | grind)⟩ (ent_rep ⟨rfl, rfl, rfl, rfl, rfl, rfl, slot_av (av_int (show 0 = (0 : Int) by first | rfl | assumption | omega | (simp_all; done) | grind)), trivial⟩ (own_cons (own_vec (show fillR (fun xx => c.nxt 0 (c.inp xx) c.Gen.length) 0 c.ins (0 : Int) = (List.replicate (c.F.q ^ i.toNat).toNat 0 : List Int) by first | (rw [fillR_zero, hci]) | (rw [fillR_zero, ← hci]))) (own_cons (own_vec (show fillR (fun xx => c.outL 0 (c.inp xx)) [] c.ins (0 : Int) = (List.replicate (c.F.q ^ i.toNat).toNat [] : List (List Int)) by first | (rw [fillR_zero, hci]) | (rw [fillR_zero, ← hci]))) (own_cons (own_box (av_cons (av_int (show c.ins = c.F.q ^ i.toNat by exact hci.symm)) (rfl))) (rfl))))) ?_
    rintro x ⟨x0, x1⟩
    show Ent _ (⟨[(0, aMach c), (2, aEx (.pointer (some ⟨b2_1, 0, none⟩))), (3, aEx (.pointer (some ⟨b3_2, 0, none⟩))), (4, aEx (vec (some b4_4) (((List.replicate (c.F.q ^ i.toNat).toNat 0 : List Int)).length) ca_3)), (5, aEx (vec (some b5_5) (((List.replicate (c.F.q ^ i.toNat).toNat [] : List (List Int))).length) cb_3)), (38, aInt (c.F.q ^ i.toNat)), (39, aInt x)], [oVec (some b4_4) ca_3 3 1 false aInt (fillR (fun xx => c.nxt 0 (c.inp xx) c.Gen.length) 0 c.ins x), oVec (some b5_5) cb_3 22 1 false aInts (fillR (fun xx => c.outL 0 (c.inp xx)) [] c.ins x), oBox b3_2 96 [aInt c.ins, aEx (.slice none 0 0), aEx (.slice none 0 0)], oBox b2_1 96 [aInt 0, aEx (.slice none 0 0), aEx (.slice none 0 0)]]⟩ : St) _
    have lah : (fillR (fun xx => c.nxt 0 (c.inp xx) c.Gen.length) 0 c.ins x).length = c.ins.toNat := length_fillR _ _ x0 x1
    have lou : (fillR (fun xx => c.outL 0 (c.inp xx)) [] c.ins x).length = c.ins.toNat := length_fillR _ _ x0 x1
    refine ent_seq fun K11 hK11 => ?_
    refine ent_region ?_
    refine ent_o rfl (ok_lss rfl rfl) ?_
    refine ent_nil ?_
    refine ent_k hK11 ?_
    refine ent_seq fun K12 hK12 => ?_
    refine ent_condD rfl (fun h40 => ?_) (fun h40 => ?_)
    · have hgx := Cnv.inp_good (c := c) hq2 x
      change c.GoodIn (digS c.F.q (c.k).toNat x) at hgx
      refine ent_skip ?_
      refine ent_k hK12 ?_
      refine ent_seq fun K13 hK13 => ?_
      refine ent_block ?_
      refine ent_seq fun K14 hK14 => ?_
      refine ent_region ?_
      refine ent_o rfl (ok_move rfl) ?_
      refine ent_o rfl (ok_assign rfl) ?_
      refine ent_nil ?_
      refine ent_k hK14 ?_
      refine ent_drawFl 19 [2, 3, 18] mixed (by kernel_rfl) (by kernel_rfl) (by kernel_rfl) (by kernel_rfl) (by kernel_rfl) (fun _ _ _ _ _ h => h) ?_
      refine dw_o rfl (ok_move rfl) ?_
      refine dw_o rfl (ok_move rfl) ?_
      refine dw_o rfl (ok_move rfl) ?_
      refine dw_o rfl (ok_move rfl) ?_
      refine dw_o rfl (ok_move rfl) ?_
      refine dw_o rfl (ok_move rfl) ?_
      refine dw_o rfl (ok_move rfl) ?_
      refine dw_o rfl (ok_nilCheck rfl) ?_
      refine dw_o rfl (ok_fieldAddr1 Try.runUnderlying84 rfl Try.sizeOf3 rfl rfl) ?_
      refine dw_o rfl (ok_load ti3 rfl) ?_
      refine dw_o rfl (ok_move rfl) ?_
      refine dw_o rfl (ok_nilCheck rfl) ?_
      refine dw_o rfl (ok_fieldAddr1 Try.runUnderlying84 rfl Try.sizeOf3 rfl rfl) ?_
      refine dw_o rfl (ok_load ti3 rfl) ?_
      refine dw_o rfl (ok_call (CtrF.ctr (CtrF.sl (digits_ok x c.F.q c.k (by first | rfl | assumption | omega | (simp_all; done) | grind) (by first | rfl | assumption | omega | (simp_all; done) | grind) (by first | rfl | assumption | omega | (simp_all; done) | grind) (by first | rfl | assumption | omega | (simp_all; done) | grind) (by first | rfl | assumption | omega | (simp_all; done) | grind)))) rfl) ?_
      refine dw_o rfl (ok_call (CtrF.ctr (step_ok c 0 (digS c.F.q c.k.toNat x) (by first | rfl | assumption | omega | (simp_all; done) | grind) (by first | rfl | assumption | omega | (simp_all; done) | grind) (Int.le_refl 0) hst0 hgx)) rfl) ?_
      refine dw_o rfl (ok_move rfl) ?_
      refine dw_o rfl (ok_extract rfl rfl) ?_
      refine dw_o rfl (ok_extract rfl rfl) ?_
      refine dw_nil ?_
      refine ent_o rfl (ok_indexV sl22 rfl rfl (by omega) (by omega)) ?_
      refine ent_storeV (k := 0) (z := c.nxt 0 (digS c.F.q c.k.toNat x) c.Gen.length) ti3 rfl rfl rfl (elem_one (one_int _)) (by omega) (by omega) ?_
      refine ent_o rfl (ok_indexV sl42 rfl rfl (by omega) (by omega)) ?_
      refine ent_storeV (k := 1) (z := c.outL 0 (digS c.F.q c.k.toNat x)) ti22 rfl rfl rfl (elem_one one_sl) (by omega) (by omega) ?_
      refine ent_nil ?_
      refine ent_k hK13 ?_
      refine ent_region ?_
      refine ent_o rfl (ok_add rfl rfl (by omega) (by omega)) ?_
      refine ent_o rfl (ok_move rfl) ?_
      refine ent_nil ?_
      refine ent_again (s := (x)) (x + 1) ⟨(by first | rfl | assumption | omega | (simp_all; done) | grind), (by first | rfl | assumption | omega | (simp_all; done) | grind)⟩ (by first | omega | (dsimp only; omega)) (ent_rep ⟨rfl, rfl, rfl, rfl, rfl, rfl, rfl, trivial⟩ (own_cons (own_vec (show fillR (fun xx => c.nxt 0 (c.inp xx) c.Gen.length) 0 c.ins (x + 1) = List.set (fillR (fun xx => c.nxt 0 (c.inp xx) c.Gen.length) 0 c.ins x) (x).toNat (c.nxt 0 (digS c.F.q c.k.toNat x) c.Gen.length) by first | exact (fillR_set _ 0 x0 (by omega)).symm | exact (fillR_set _ [] x0 (by omega)).symm)) (own_cons (own_vec (show fillR (fun xx => c.outL 0 (c.inp xx)) [] c.ins (x + 1) = List.set (fillR (fun xx => c.outL 0 (c.inp xx)) [] c.ins x) (x).toNat (c.outL 0 (digS c.F.q c.k.toNat x)) by first | exact (fillR_set _ 0 x0 (by omega)).symm | exact (fillR_set _ [] x0 (by omega)).symm)) (rfl))))
    · have hxi : x = c.ins := by omega
      refine ent_exit ?_
      refine ent_k hK9 ?_
      refine ent_seq fun K15 hK15 => ?_
      refine ent_region ?_
      refine ent_o rfl (ok_move rfl) ?_
      refine ent_o rfl (ok_nilCheck rfl) ?_
      refine ent_o rfl (ok_fieldAddr1 Try.runUnderlying84 rfl Try.sizeOf3 rfl rfl) ?_
      refine ent_o rfl (ok_load ti3 rfl) ?_
      refine ent_make aInt 0 rfl vt22 rfl rfl (by omega) (by omega) (by omega) (fun _ _ => rfl) (AllV.mem ⟨rfl, trivial⟩) (fun b68_6 => ?_)
      refine ent_o rfl (ok_assign rfl) ?_
      refine ent_nil ?_
      refine ent_k hK15 ?_
      refine ent_seq fun K16 hK16 => ?_
      refine ent_seq fun K17 hK17 => ?_
      refine ent_region ?_
      refine ent_o rfl (ok_move rfl) ?_
      refine ent_o rfl (ok_nilCheck rfl) ?_
      refine ent_o rfl (ok_fieldAddr1 Try.runUnderlying84 rfl Try.sizeOf3 rfl rfl) ?_
      refine ent_o rfl (ok_load ti3 rfl) ?_
      refine ent_o rfl (ok_move rfl) ?_
      refine ent_nil ?_
      refine ent_k hK17 ?_
      refine ent_block ?_
      refine ent_open 3 1 false aInt (fun _ => rfl) ?_
      refine ent_open 3 1 false aInt (fun _ => rfl) ?_
      refine ent_loop (fun (ss : Int × Option Nat × Nat × Option Nat × Nat) => match ss with | (s, rr8, cc8, rr10, cc10) => (⟨[(0, aMach c), (2, aEx (.pointer (some ⟨b2_1, 0, none⟩))), (3, aEx (.pointer (some ⟨b3_2, 0, none⟩))), (4, aEx (vec (some b4_4) (((List.replicate (c.F.q ^ i.toNat).toNat 0 : List Int)).length) ca_3)), (5, aEx (vec (some b5_5) (((List.replicate (c.F.q ^ i.toNat).toNat [] : List (List Int))).length) cb_3)), (7, aEx (vec (some b68_6) ((c.k).toNat) ((c.k).toNat))), (72, aInt c.states), (73, aInt s)], [oVec rr10 cc10 3 1 false aInt (mapR c.eWt (s * c.ins)), oVec rr8 cc8 3 1 false aInt (mapR c.eNx (s * c.ins)), oVec (some b68_6) ((c.k).toNat) 3 1 false aInt (List.replicate ((c.k).toNat) 0), oVec (some b4_4) ca_3 3 1 false aInt (fillR (fun xx => c.nxt 0 (c.inp xx) c.Gen.length) 0 c.ins x), oVec (some b5_5) cb_3 22 1 false aInts (fillR (fun xx => c.outL 0 (c.inp xx)) [] c.ins x), oBox b3_2 96 [aInt c.ins, aEx (vec rr8 ((mapR c.eNx (s * c.ins)).length) cc8), aEx (vec rr10 ((mapR c.eWt (s * c.ins)).length) cc10)], oBox b2_1 96 [aInt 0, aEx (.slice none 0 0), aEx (.slice none 0 0)]]⟩ : St)) (fun (ss : Int × Option Nat × Nat × Option Nat × Nat) => match ss with | (s, rr8, cc8, rr10, cc10) => (0 ≤ s) ∧ (s ≤ c.states)) (fun (ss : Int × Option Nat × Nat × Option Nat × Nat) => match ss with | (s, rr8, cc8, rr10, cc10) => (c.states - s).toNat) (0, none, 0, none, 0) ⟨(by first | rfl | assumption | omega | (simp_all; done) | grind), (by first | rfl | assumption | omega | (simp_all; done) | grind)⟩ (ent_rep ⟨rfl, rfl, rfl, rfl, rfl, rfl, rfl, slot_av (av_int (show 0 = (0 : Int) by first | rfl | assumption | omega | (simp_all; done) | grind)), trivial⟩ (own_cons (own_vec (show mapR c.eWt ((0 : Int) * c.ins) = [] by first | rfl | simp [mapR_zero])) (own_cons (own_vec (show mapR c.eNx ((0 : Int) * c.ins) = [] by first | rfl | simp [mapR_zero])) (own_cons (rfl) (own_cons (rfl) (own_cons (rfl) (own_cons (own_box (av_cons rfl (av_cons ((by first | rfl | (simp [mapR_zero]; rfl))) (av_cons ((by first | rfl | (simp [mapR_zero]; rfl))) (rfl))))) (rfl)))))))) ?_
      rintro ⟨s, rr8, cc8, rr10, cc10⟩ ⟨s0, s1⟩
      show Ent _ (⟨[(0, aMach c), (2, aEx (.pointer (some ⟨b2_1, 0, none⟩))), (3, aEx (.pointer (some ⟨b3_2, 0, none⟩))), (4, aEx (vec (some b4_4) (((List.replicate (c.F.q ^ i.toNat).toNat 0 : List Int)).length) ca_3)), (5, aEx (vec (some b5_5) (((List.replicate (c.F.q ^ i.toNat).toNat [] : List (List Int))).length) cb_3)), (7, aEx (vec (some b68_6) ((c.k).toNat) ((c.k).toNat))), (72, aInt c.states), (73, aInt s)], [oVec rr10 cc10 3 1 false aInt (mapR c.eWt (s * c.ins)), oVec rr8 cc8 3 1 false aInt (mapR c.eNx (s * c.ins)), oVec (some b68_6) ((c.k).toNat) 3 1 false aInt (List.replicate ((c.k).toNat) 0), oVec (some b4_4) ca_3 3 1 false aInt (fillR (fun xx => c.nxt 0 (c.inp xx) c.Gen.length) 0 c.ins x), oVec (some b5_5) cb_3 22 1 false aInts (fillR (fun xx => c.outL 0 (c.inp xx)) [] c.ins x), oBox b3_2 96 [aInt c.ins, aEx (vec rr8 ((mapR c.eNx (s * c.ins)).length) cc8), aEx (vec rr10 ((mapR c.eWt (s * c.ins)).length) cc10)], oBox b2_1 96 [aInt 0, aEx (.slice none 0 0), aEx (.slice none 0 0)]]⟩ : St) _
      refine ent_seq fun K18 hK18 => ?_
      refine ent_region ?_
      refine ent_o rfl (ok_lss rfl rfl) ?_
      refine ent_nil ?_
      refine ent_k hK18 ?_
      refine ent_seq fun K19 hK19 => ?_
      refine ent_condD rfl (fun h74 => ?_) (fun h74 => ?_)
      · have hsm := Int.mul_le_mul_of_nonneg_right (show s + 1 ≤ c.states by omega) (show 0 ≤ c.ins by omega)
        rw [Int.add_mul, Int.one_mul] at hsm
        have hsm0 := Int.mul_nonneg s0 (show 0 ≤ c.ins by omega)
        have lout := Cnv.length_outL (c := c) s (List.replicate ((c.k)).toNat 0)
        have hns := Cnv.nxt_states (s := s) hq2 hzg
        refine ent_skip ?_
        refine ent_k hK19 ?_
        refine ent_seq fun K20 hK20 => ?_
        refine ent_block ?_
        refine ent_seq fun K21 hK21 => ?_
        refine ent_region ?_
        refine ent_o rfl (ok_move rfl) ?_
        refine ent_o rfl (ok_assign rfl) ?_
        refine ent_nil ?_
        refine ent_k hK21 ?_
        refine ent_seq fun K22 hK22 => ?_
        refine ent_region ?_
        refine ent_o rfl (ok_move rfl) ?_
        refine ent_o rfl (ok_move rfl) ?_
        refine ent_o rfl (ok_move rfl) ?_
        refine ent_o rfl (ok_callF [2] (step_ok c s (List.replicate ((c.k).toNat) 0) (by first | rfl | assumption | omega | (simp_all; done) | grind) (by first | rfl | assumption | omega | (simp_all; done) | grind) s0 (by omega) hzg) ⟨arg_a rfl (cv_id (sub_lent _)), arg_a rfl (cv_id (sub_lent _)), arg_a rfl (cv_vec (k := 2) (off_lent rfl (by decide)) (by first | rfl | (simp; done) | (simp_all; done) | omega) (by first | rfl | assumption | omega | (simp_all; done) | grind)), trivial⟩) ?_
        refine ent_o rfl (ok_move rfl) ?_
        refine ent_o rfl (ok_extract rfl rfl) ?_
        refine ent_o rfl (ok_extract rfl rfl) ?_
        refine ent_o rfl (ok_assign rfl) ?_
        refine ent_o rfl (ok_assign rfl) ?_
        refine ent_nil ?_
        refine ent_k hK22 ?_
        refine ent_seq fun K23 hK23 => ?_
        refine ent_region ?_
        refine ent_o rfl (ok_fieldAddrEx Try.runUnderlying96 rfl Try.sizeOf3 (by decide) rfl) ?_
        refine ent_o rfl (ok_loadB (k := 5) Try.isAgg3 rfl rfl rfl) ?_
        refine ent_o rfl (ok_move rfl) ?_
        refine ent_nil ?_
        refine ent_k hK23 ?_
        refine ent_block ?_
        refine ent_loop (fun (ss : Int × Option Nat × Nat × Option Nat × Nat) => match ss with | (y, rr11, cc11, rr12, cc12) => (⟨[(0, aMach c), (2, aEx (.pointer (some ⟨b2_1, 0, none⟩))), (3, aEx (.pointer (some ⟨b3_2, 0, none⟩))), (4, aEx (vec (some b4_4) (((List.replicate (c.F.q ^ i.toNat).toNat 0 : List Int)).length) ca_3)), (5, aEx (vec (some b5_5) (((List.replicate (c.F.q ^ i.toNat).toNat [] : List (List Int))).length) cb_3)), (7, aEx (vec (some b68_6) ((c.k).toNat) ((c.k).toNat))), (9, aInt (c.nxt s (List.replicate ((c.k).toNat) 0) c.Gen.length)), (10, aSl 1 false aInt (c.outL s (List.replicate ((c.k).toNat) 0))), (72, aInt c.states), (73, aInt s), (84, aInt c.ins), (85, aInt y)], [oVec rr12 cc12 3 1 false aInt (mapR c.eWt (s * c.ins + y)), oVec rr11 cc11 3 1 false aInt (mapR c.eNx (s * c.ins + y)), oVec (some b68_6) ((c.k).toNat) 3 1 false aInt (List.replicate ((c.k).toNat) 0), oVec (some b4_4) ca_3 3 1 false aInt (fillR (fun xx => c.nxt 0 (c.inp xx) c.Gen.length) 0 c.ins x), oVec (some b5_5) cb_3 22 1 false aInts (fillR (fun xx => c.outL 0 (c.inp xx)) [] c.ins x), oBox b3_2 96 [aInt c.ins, aEx (vec rr11 ((mapR c.eNx (s * c.ins + y)).length) cc11), aEx (vec rr12 ((mapR c.eWt (s * c.ins + y)).length) cc12)], oBox b2_1 96 [aInt 0, aEx (.slice none 0 0), aEx (.slice none 0 0)]]⟩ : St)) (fun (ss : Int × Option Nat × Nat × Option Nat × Nat) => match ss with | (y, rr11, cc11, rr12, cc12) => (0 ≤ y) ∧ (y ≤ c.ins)) (fun (ss : Int × Option Nat × Nat × Option Nat × Nat) => match ss with | (y, rr11, cc11, rr12, cc12) => (c.ins - y).toNat) (0, rr8, cc8, rr10, cc10) ⟨(by first | rfl | assumption | omega | (simp_all; done) | grind), (by first | rfl | assumption | omega | (simp_all; done) | grind)⟩ (ent_rep ⟨rfl, rfl, rfl, rfl, rfl, rfl, rfl, rfl, rfl, rfl, rfl, slot_av (av_int (show 0 = (0 : Int) by first | rfl | assumption | omega | (simp_all; done) | grind)), trivial⟩ (own_cons (own_vec (show mapR c.eWt (s * c.ins + (0 : Int)) = mapR c.eWt (s * c.ins) by rw [Int.add_zero])) (own_cons (own_vec (show mapR c.eNx (s * c.ins + (0 : Int)) = mapR c.eNx (s * c.ins) by rw [Int.add_zero])) (own_cons (rfl) (own_cons (rfl) (own_cons (rfl) (own_cons (own_box (av_cons rfl (av_cons (av_vec (congrArg List.length (show mapR c.eNx (s * c.ins + (0 : Int)) = mapR c.eNx (s * c.ins) by rw [Int.add_zero]))) (av_cons (av_vec (congrArg List.length (show mapR c.eWt (s * c.ins + (0 : Int)) = mapR c.eWt (s * c.ins) by rw [Int.add_zero]))) (rfl))))) (rfl)))))))) ?_
        rintro ⟨y, rr11, cc11, rr12, cc12⟩ ⟨y0, y1⟩
        show Ent _ (⟨[(0, aMach c), (2, aEx (.pointer (some ⟨b2_1, 0, none⟩))), (3, aEx (.pointer (some ⟨b3_2, 0, none⟩))), (4, aEx (vec (some b4_4) (((List.replicate (c.F.q ^ i.toNat).toNat 0 : List Int)).length) ca_3)), (5, aEx (vec (some b5_5) (((List.replicate (c.F.q ^ i.toNat).toNat [] : List (List Int))).length) cb_3)), (7, aEx (vec (some b68_6) ((c.k).toNat) ((c.k).toNat))), (9, aInt (c.nxt s (List.replicate ((c.k).toNat) 0) c.Gen.length)), (10, aSl 1 false aInt (c.outL s (List.replicate ((c.k).toNat) 0))), (72, aInt c.states), (73, aInt s), (84, aInt c.ins), (85, aInt y)], [oVec rr12 cc12 3 1 false aInt (mapR c.eWt (s * c.ins + y)), oVec rr11 cc11 3 1 false aInt (mapR c.eNx (s * c.ins + y)), oVec (some b68_6) ((c.k).toNat) 3 1 false aInt (List.replicate ((c.k).toNat) 0), oVec (some b4_4) ca_3 3 1 false aInt (fillR (fun xx => c.nxt 0 (c.inp xx) c.Gen.length) 0 c.ins x), oVec (some b5_5) cb_3 22 1 false aInts (fillR (fun xx => c.outL 0 (c.inp xx)) [] c.ins x), oBox b3_2 96 [aInt c.ins, aEx (vec rr11 ((mapR c.eNx (s * c.ins + y)).length) cc11), aEx (vec rr12 ((mapR c.eWt (s * c.ins + y)).length) cc12)], oBox b2_1 96 [aInt 0, aEx (.slice none 0 0), aEx (.slice none 0 0)]]⟩ : St) _
        have lnx := length_mapR c.eNx (s * c.ins + y)
        have lwt := length_mapR c.eWt (s * c.ins + y)
        refine ent_seq fun K24 hK24 => ?_
        refine ent_region ?_
        refine ent_o rfl (ok_lss rfl rfl) ?_
        refine ent_nil ?_
        refine ent_k hK24 ?_
        refine ent_seq fun K25 hK25 => ?_
        refine ent_condD rfl (fun h86 => ?_) (fun h86 => ?_)
        · have hat0 : 0 ≤ s * c.ins + y := by omega
          have hoy : ix [] (fillR (fun xx => c.outL 0 (c.inp xx)) [] c.ins x) y = c.outL 0 (c.inp y) := by rw [fillR_all _ _ (by omega), hxi]; exact ix_mapR [] _ y0 h86
          have hay : ix 0 (fillR (fun xx => c.nxt 0 (c.inp xx) c.Gen.length) 0 c.ins x) y = c.nxt 0 (c.inp y) c.Gen.length := by rw [fillR_all _ _ (by omega), hxi]; exact ix_mapR 0 _ y0 h86
          have loy := Cnv.length_outL (c := c) 0 (c.inp y)
          have hny := Cnv.nxt_states (s := 0) hq2 (Cnv.inp_good (c := c) hq2 y)
          have hnx : c.eNx (s * c.ins + y) = c.nxt s (List.replicate ((c.k)).toNat 0) c.Gen.length + ix 0 (fillR (fun xx => c.nxt 0 (c.inp xx) c.Gen.length) 0 c.ins x) y := by rw [Cnv.eNx_at hi1 y0 h86, Cnv.nxt_add hq2, hay]; rfl
          refine ent_skip ?_
          refine ent_k hK25 ?_
          refine ent_seq fun K26 hK26 => ?_
          refine ent_block ?_
          refine ent_seq fun K27 hK27 => ?_
          refine ent_region ?_
          refine ent_o rfl (ok_move rfl) ?_
          refine ent_o rfl (ok_assign rfl) ?_
          refine ent_nil ?_
          refine ent_k hK27 ?_
          refine ent_seq fun K28 hK28 => ?_
          refine ent_region ?_
          refine ent_o rfl (ok_assign rfl) ?_
          refine ent_nil ?_
          refine ent_k hK28 ?_
          refine ent_seq fun K29 hK29 => ?_
          refine ent_seq fun K30 hK30 => ?_
          refine ent_region ?_
          refine ent_o rfl (ok_move rfl) ?_
          refine ent_o rfl (ok_len rfl Try.runUnderlying22 rfl) ?_
          refine ent_o rfl (ok_move rfl) ?_
          refine ent_nil ?_
          refine ent_k hK30 ?_
          refine ent_block ?_
          refine ent_loop (fun (j : Int) => (⟨[(0, aMach c), (2, aEx (.pointer (some ⟨b2_1, 0, none⟩))), (3, aEx (.pointer (some ⟨b3_2, 0, none⟩))), (4, aEx (vec (some b4_4) (((List.replicate (c.F.q ^ i.toNat).toNat 0 : List Int)).length) ca_3)), (5, aEx (vec (some b5_5) (((List.replicate (c.F.q ^ i.toNat).toNat [] : List (List Int))).length) cb_3)), (7, aEx (vec (some b68_6) ((c.k).toNat) ((c.k).toNat))), (9, aInt (c.nxt s (List.replicate ((c.k).toNat) 0) c.Gen.length)), (10, aSl 1 false aInt (c.outL s (List.replicate ((c.k).toNat) 0))), (11, aInt y), (12, aInt (wt1To (c.outL s (c.inp y)) j.toNat)), (72, aInt c.states), (73, aInt s), (84, aInt c.ins), (85, aInt y), (88, aSl 1 false aInt (c.outL s (List.replicate ((c.k).toNat) 0))), (89, aInt (↑(c.outL s (List.replicate ((c.k).toNat) 0)).length : Int)), (90, aInt j)], [oVec rr12 cc12 3 1 false aInt (mapR c.eWt (s * c.ins + y)), oVec rr11 cc11 3 1 false aInt (mapR c.eNx (s * c.ins + y)), oVec (some b68_6) ((c.k).toNat) 3 1 false aInt (List.replicate ((c.k).toNat) 0), oVec (some b4_4) ca_3 3 1 false aInt (fillR (fun xx => c.nxt 0 (c.inp xx) c.Gen.length) 0 c.ins x), oVec (some b5_5) cb_3 22 1 false aInts (fillR (fun xx => c.outL 0 (c.inp xx)) [] c.ins x), oBox b3_2 96 [aInt c.ins, aEx (vec rr11 ((mapR c.eNx (s * c.ins + y)).length) cc11), aEx (vec rr12 ((mapR c.eWt (s * c.ins + y)).length) cc12)], oBox b2_1 96 [aInt 0, aEx (.slice none 0 0), aEx (.slice none 0 0)]]⟩ : St)) (fun (j : Int) => (0 ≤ j) ∧ (j ≤ c.n)) (fun (j : Int) => (c.n - j).toNat) 0 ⟨(by first | rfl | assumption | omega | (simp_all; done) | grind), (by first | rfl | assumption | omega | (simp_all; done) | grind)⟩ (ent_rep ⟨rfl, rfl, rfl, rfl, rfl, rfl, rfl, rfl, rfl, slot_av (av_int (show 0 = wt1To (c.outL s (c.inp y)) (0 : Int).toNat by rfl)), rfl, rfl, rfl, rfl, rfl, rfl, slot_av (av_int (show 0 = (0 : Int) by first | rfl | assumption | omega | (simp_all; done) | grind)), trivial⟩ rfl) ?_
          rintro j ⟨j0, j1⟩
          show Ent _ (⟨[(0, aMach c), (2, aEx (.pointer (some ⟨b2_1, 0, none⟩))), (3, aEx (.pointer (some ⟨b3_2, 0, none⟩))), (4, aEx (vec (some b4_4) (((List.replicate (c.F.q ^ i.toNat).toNat 0 : List Int)).length) ca_3)), (5, aEx (vec (some b5_5) (((List.replicate (c.F.q ^ i.toNat).toNat [] : List (List Int))).length) cb_3)), (7, aEx (vec (some b68_6) ((c.k).toNat) ((c.k).toNat))), (9, aInt (c.nxt s (List.replicate ((c.k).toNat) 0) c.Gen.length)), (10, aSl 1 false aInt (c.outL s (List.replicate ((c.k).toNat) 0))), (11, aInt y), (12, aInt (wt1To (c.outL s (c.inp y)) j.toNat)), (72, aInt c.states), (73, aInt s), (84, aInt c.ins), (85, aInt y), (88, aSl 1 false aInt (c.outL s (List.replicate ((c.k).toNat) 0))), (89, aInt (↑(c.outL s (List.replicate ((c.k).toNat) 0)).length : Int)), (90, aInt j)], [oVec rr12 cc12 3 1 false aInt (mapR c.eWt (s * c.ins + y)), oVec rr11 cc11 3 1 false aInt (mapR c.eNx (s * c.ins + y)), oVec (some b68_6) ((c.k).toNat) 3 1 false aInt (List.replicate ((c.k).toNat) 0), oVec (some b4_4) ca_3 3 1 false aInt (fillR (fun xx => c.nxt 0 (c.inp xx) c.Gen.length) 0 c.ins x), oVec (some b5_5) cb_3 22 1 false aInts (fillR (fun xx => c.outL 0 (c.inp xx)) [] c.ins x), oBox b3_2 96 [aInt c.ins, aEx (vec rr11 ((mapR c.eNx (s * c.ins + y)).length) cc11), aEx (vec rr12 ((mapR c.eWt (s * c.ins + y)).length) cc12)], oBox b2_1 96 [aInt 0, aEx (.slice none 0 0), aEx (.slice none 0 0)]]⟩ : St) _
          have hwb := wt1To_le (c.outL s (c.inp y)) j.toNat
          refine ent_seq fun K31 hK31 => ?_
          refine ent_region ?_
          refine ent_o rfl (ok_lss rfl rfl) ?_
          refine ent_nil ?_
          refine ent_k hK31 ?_
          refine ent_seq fun K32 hK32 => ?_
          refine ent_condD rfl (fun h91 => ?_) (fun h91 => ?_)
          · have loy2 : ((ix [] (fillR (fun xx => c.outL 0 (c.inp xx)) [] c.ins x) y).length : Int) = c.n := by rw [hoy]; exact loy
            have hadd : addF c.F (ix 0 (c.outL s (List.replicate ((c.k)).toNat 0)) j) (ix 0 (ix [] (fillR (fun xx => c.outL 0 (c.inp xx)) [] c.ins x) y) j) = ix 0 (c.outL s (c.inp y)) j := by rw [hoy]; exact Cnv.out_add hF s (c.inp y) j0 (by omega)
            refine ent_skip ?_
            refine ent_k hK32 ?_
            refine ent_seq fun K33 hK33 => ?_
            refine ent_block ?_
            refine ent_seq fun K34 hK34 => ?_
            refine ent_region ?_
            refine ent_o rfl (ok_move rfl) ?_
            refine ent_o rfl (ok_index 0 sl22 rfl rfl (by omega) (by omega)) ?_
            refine ent_o rfl (ok_load ti3 rfl) ?_
            refine ent_o rfl (ok_assign rfl) ?_
            refine ent_o rfl (ok_assign rfl) ?_
            refine ent_nil ?_
            refine ent_k hK34 ?_
            refine ent_seq fun K35 hK35 => ?_
            refine ent_draw 14 mixed (by kernel_rfl) (by kernel_rfl) (by kernel_rfl) ?_
            refine dw_o rfl (ok_move rfl) ?_
            refine dw_o rfl (ok_nilCheck rfl) ?_
            refine dw_o rfl (ok_fieldAddr1 Try.runUnderlying84 rfl Try.sizeOf82 rfl rfl) ?_
            refine dw_o rfl (ok_load ti82 rfl) ?_
            refine dw_o rfl (ok_move rfl) ?_
            refine dw_o rfl (ok_move rfl) ?_
            refine dw_o rfl (ok_move rfl) ?_
            refine dw_o rfl (ok_indexV sl42 rfl rfl (by omega) (by omega)) ?_
            refine dw_o rfl (ok_loadV (k := 4) [] ti22 rfl rfl (by omega) (by omega)) ?_
            refine dw_o rfl (ok_move rfl) ?_
            refine dw_o rfl (ok_index 0 sl22 rfl rfl (by omega) (by omega)) ?_
            refine dw_o rfl (ok_load ti3 rfl) ?_
            refine dw_o rfl (ok_call (Add_ok c.F (ix 0 (c.outL s (List.replicate ((c.k).toNat) 0)) j) (ix 0 (ix [] (fillR (fun xx => c.outL 0 (c.inp xx)) [] c.ins x) y) j) (by first | rfl | assumption | omega | (simp_all; done) | grind)) rfl) ?_
            refine dw_o rfl (ok_neq rfl rfl) ?_
            refine dw_nil ?_
            refine ent_nil ?_
            refine ent_k hK35 ?_
            refine ent_condD rfl (fun h108 => ?_) (fun h108 => ?_)
            · refine ent_region ?_
              refine ent_o rfl (ok_move rfl) ?_
              refine ent_o rfl (ok_add rfl rfl (by omega) (by omega)) ?_
              refine ent_o rfl (ok_assign rfl) ?_
              refine ent_nil ?_
              refine ent_k hK33 ?_
              refine ent_region ?_
              refine ent_o rfl (ok_add rfl rfl (by omega) (by omega)) ?_
              refine ent_o rfl (ok_move rfl) ?_
              refine ent_nil ?_
              refine ent_again (s := (j)) (j + 1) ⟨(by first | rfl | assumption | omega | (simp_all; done) | grind), (by first | rfl | assumption | omega | (simp_all; done) | grind)⟩ (by first | omega | (dsimp only; omega)) (ent_rep ⟨rfl, rfl, rfl, rfl, rfl, rfl, rfl, rfl, rfl, slot_av (av_int (show (wt1To (c.outL s (c.inp y)) j.toNat) + 1 = wt1To (c.outL s (c.inp y)) (j + 1).toNat by rw [wt1To_succ _ j0, ← hadd]; first | (rw [if_neg h108]) | (rw [if_pos (Classical.not_not.1 h108)]; omega))), rfl, rfl, rfl, rfl, rfl, rfl, rfl, trivial⟩ rfl)
            · refine ent_skip ?_
              refine ent_k hK33 ?_
              refine ent_region ?_
              refine ent_o rfl (ok_add rfl rfl (by omega) (by omega)) ?_
              refine ent_o rfl (ok_move rfl) ?_
              refine ent_nil ?_
              refine ent_again (s := (j)) (j + 1) ⟨(by first | rfl | assumption | omega | (simp_all; done) | grind), (by first | rfl | assumption | omega | (simp_all; done) | grind)⟩ (by first | omega | (dsimp only; omega)) (ent_rep ⟨rfl, rfl, rfl, rfl, rfl, rfl, rfl, rfl, rfl, slot_av (av_int (show wt1To (c.outL s (c.inp y)) j.toNat = wt1To (c.outL s (c.inp y)) (j + 1).toNat by rw [wt1To_succ _ j0, ← hadd]; first | (rw [if_neg h108]) | (rw [if_pos (Classical.not_not.1 h108)]; omega))), rfl, rfl, rfl, rfl, rfl, rfl, rfl, trivial⟩ rfl)
          · have hwt : c.eWt (s * c.ins + y) = wt1To (c.outL s (c.inp y)) j.toNat := by rw [Cnv.eWt_at hi1 y0 h86]; have := Cnv.length_outL (c := c) s (c.inp y); unfold wt1; rw [show j.toNat = (c.outL s (c.inp y)).length by omega]
            refine ent_exit ?_
            refine ent_k hK29 ?_
            refine ent_seq fun K36 hK36 => ?_
            refine ent_draw 9 mixed (by kernel_rfl) (by kernel_rfl) (by kernel_rfl) ?_
            refine dw_o rfl (ok_fieldAddrEx Try.runUnderlying96 rfl Try.sizeOf22 (by decide) rfl) ?_
            refine dw_o rfl (ok_loadB (k := 5) Try.isAgg22 rfl rfl rfl) ?_
            refine dw_o rfl (ok_move rfl) ?_
            refine dw_o rfl (ok_move rfl) ?_
            refine dw_o rfl (ok_move rfl) ?_
            refine dw_o rfl (ok_indexV sl22 rfl rfl (by omega) (by omega)) ?_
            refine dw_o rfl (ok_loadV (k := 3) 0 ti3 rfl rfl (by omega) (by omega)) ?_
            refine dw_o rfl (ok_add rfl rfl (by omega) (by omega)) ?_
            refine dw_o rfl (ok_build1 (enc := aInt) (y := (c.nxt s (List.replicate ((c.k).toNat) 0) c.Gen.length) + (ix 0 (fillR (fun xx => c.nxt 0 (c.inp xx) c.Gen.length) 0 c.ins x) y)) vt22 rfl (elem_one (one_int _)) (by decide)) ?_
            refine dw_nil ?_
            refine ent_appendS (k := 1) rfl vt22 rfl rfl (by first | rfl | (simp; done) | (simp_all; done) | omega) rfl (cv_id sub_refl) (by first | omega | (simp only [List.length_append, List.length_cons, List.length_nil]; omega) | (simp; omega)) (by first | omega | (simp only [List.length_append, List.length_cons, List.length_nil]; omega) | (simp; omega)) (fun r121_12 cr121_12 => ?_)
            refine ent_o rfl (ok_fieldAddrEx Try.runUnderlying96 rfl Try.sizeOf22 (by decide) rfl) ?_
            refine ent_storeB (k := 5) Try.sizeOf22 rfl rfl rfl (one_ex rfl) rfl ?_
            refine ent_nil ?_
            refine ent_k hK36 ?_
            refine ent_region ?_
            refine ent_o rfl (ok_fieldAddrEx Try.runUnderlying96 rfl Try.sizeOf22 (by decide) rfl) ?_
            refine ent_o rfl (ok_loadB (k := 5) Try.isAgg22 rfl rfl rfl) ?_
            refine ent_o rfl (ok_move rfl) ?_
            refine ent_appendL (k := 0) (enc := aInt) (y := wt1To (c.outL s (c.inp y)) j.toNat) rfl rfl vt22 rfl rfl (by first | rfl | (simp; done) | (simp_all; done) | omega) rfl ((elem_one (one_int _))) (by first | omega | (simp only [List.length_append, List.length_cons, List.length_nil]; omega) | (simp; omega)) (by first | omega | (simp only [List.length_append, List.length_cons, List.length_nil]; omega) | (simp; omega)) (by decide) (fun b127_14 c127_14 => ?_)
            refine ent_o rfl (ok_fieldAddrEx Try.runUnderlying96 rfl Try.sizeOf22 (by decide) rfl) ?_
            refine ent_storeB (k := 5) Try.sizeOf22 rfl rfl rfl (one_ex rfl) rfl ?_
            refine ent_nil ?_
            refine ent_k hK26 ?_
            refine ent_region ?_
            refine ent_o rfl (ok_add rfl rfl (by omega) (by omega)) ?_
            refine ent_o rfl (ok_move rfl) ?_
            refine ent_nil ?_
            refine ent_again (s := (y, rr11, cc11, rr12, cc12)) (y + 1, r121_12, cr121_12, (some b127_14), c127_14) ⟨(by first | rfl | assumption | omega | (simp_all; done) | grind), (by first | rfl | assumption | omega | (simp_all; done) | grind)⟩ (by first | omega | (dsimp only; omega)) (ent_rep ⟨rfl, rfl, rfl, rfl, rfl, rfl, rfl, rfl, rfl, rfl, rfl, rfl, trivial⟩ (own_cons (own_vec (show mapR c.eWt (s * c.ins + (y + 1)) = (mapR c.eWt (s * c.ins + y)) ++ [wt1To (c.outL s (c.inp y)) j.toNat] by first | (rw [← Int.add_assoc, mapR_succ _ hat0, hnx]) | (rw [← Int.add_assoc, mapR_succ _ hat0, hwt]))) (own_cons (own_vec (show mapR c.eNx (s * c.ins + (y + 1)) = (mapR c.eNx (s * c.ins + y)) ++ [(c.nxt s (List.replicate ((c.k).toNat) 0) c.Gen.length) + (ix 0 (fillR (fun xx => c.nxt 0 (c.inp xx) c.Gen.length) 0 c.ins x) y)] by first | (rw [← Int.add_assoc, mapR_succ _ hat0, hnx]) | (rw [← Int.add_assoc, mapR_succ _ hat0, hwt]))) (own_cons (rfl) (own_cons (rfl) (own_cons (rfl) (own_cons (own_box (av_cons rfl (av_cons (av_vec (congrArg List.length (show mapR c.eNx (s * c.ins + (y + 1)) = (mapR c.eNx (s * c.ins + y)) ++ [(c.nxt s (List.replicate ((c.k).toNat) 0) c.Gen.length) + (ix 0 (fillR (fun xx => c.nxt 0 (c.inp xx) c.Gen.length) 0 c.ins x) y)] by first | (rw [← Int.add_assoc, mapR_succ _ hat0, hnx]) | (rw [← Int.add_assoc, mapR_succ _ hat0, hwt])))) (av_cons (av_vec (congrArg List.length (show mapR c.eWt (s * c.ins + (y + 1)) = (mapR c.eWt (s * c.ins + y)) ++ [wt1To (c.outL s (c.inp y)) j.toNat] by first | (rw [← Int.add_assoc, mapR_succ _ hat0, hnx]) | (rw [← Int.add_assoc, mapR_succ _ hat0, hwt])))) (rfl))))) (rfl))))))))
        · refine ent_exit ?_
          refine ent_k hK20 ?_
          refine ent_region ?_
          refine ent_o rfl (ok_add rfl rfl (by omega) (by omega)) ?_
          refine ent_o rfl (ok_move rfl) ?_
          refine ent_nil ?_
          refine ent_again (s := (s, rr8, cc8, rr10, cc10)) (s + 1, rr11, cc11, rr12, cc12) ⟨(by first | rfl | assumption | omega | (simp_all; done) | grind), (by first | rfl | assumption | omega | (simp_all; done) | grind)⟩ (by first | omega | (dsimp only; omega)) (ent_rep ⟨rfl, rfl, rfl, rfl, rfl, rfl, rfl, rfl, trivial⟩ (own_cons (own_vec (show mapR c.eWt ((s + 1) * c.ins) = mapR c.eWt (s * c.ins + y) by rw [Int.add_mul, Int.one_mul, show y = c.ins by omega])) (own_cons (own_vec (show mapR c.eNx ((s + 1) * c.ins) = mapR c.eNx (s * c.ins + y) by rw [Int.add_mul, Int.one_mul, show y = c.ins by omega])) (own_cons (rfl) (own_cons (rfl) (own_cons (rfl) (own_cons (own_box (av_cons rfl (av_cons (av_vec (congrArg List.length (show mapR c.eNx ((s + 1) * c.ins) = mapR c.eNx (s * c.ins + y) by rw [Int.add_mul, Int.one_mul, show y = c.ins by omega]))) (av_cons (av_vec (congrArg List.length (show mapR c.eWt ((s + 1) * c.ins) = mapR c.eWt (s * c.ins + y) by rw [Int.add_mul, Int.one_mul, show y = c.ins by omega]))) (rfl))))) (rfl))))))))
      · refine ent_exit ?_
        refine ent_k hK16 ?_
        refine ent_seq fun K37 hK37 => ?_
        refine ent_region ?_
        refine ent_o rfl (ok_loadBS (k := 5) ti96 rfl rfl rfl) ?_
        refine ent_storeBS (k := 6) Try.sizeOf96 rfl rfl rfl (AllOne.mem ⟨(one_int _), (one_ex rfl), (one_ex rfl), trivial⟩) rfl rfl ?_
        refine ent_nil ?_
        refine ent_k hK37 ?_
        refine ent_ret ?_
        exact retR1 (.inr rfl) Try.results70 (resr_cell (k := 6) ti96 rfl rfl rfl (cv_agg ⟨cv_int (by first | rfl | (rw [show s = c.states by omega]; rfl)), cv_vec (k := 1) (off_x rfl) (by first | rfl | (simp; done) | (simp_all; done) | omega) (by first | rfl | (rw [show s = c.states by omega]; rfl)), cv_vec (k := 0) (off_x rfl) (by first | rfl | (simp; done) | (simp_all; done) | omega) (by first | rfl | (rw [show s = c.states by omega]; rfl)), trivial⟩))
end Go.Proofs.Ytfjhbdfgbpcchaa
