/-
  Walks of functions of the program and the reference.
-/
import Derived.Test.YtfjhbdfgbpcchaaCyLib
import Derived.Test.YtfjhbdfgbpcchaaPlainJ2
import Derived.Test.YtfjhbdfgbpcchaaV9
import Derived.Test.YtfjhbdfgbpcchaaV11
import Derived.Test.YtfjhbdfgbpcchaaV12
open Go Go.Cw
namespace Go.Proofs.Ytfjhbdfgbpcchaa
open Try
set_option maxRecDepth 100000
set_option linter.unusedVariables false
set_option linter.unusedSimpArgs false
theorem rStates_ok (c : Cnv) (hFew : c.Few) (hOk : c.Ok) : Ctr Try.prog 23 [aCnv c] (aInt c.states) := by
 have hF := hOk.fld
 have hS := hF.1
 have hq := hS.bd
 have hst := Cnv.states_le hq.2.2.2.2.2.1 hOk.small
 have hkn := hOk.kn
 have hnl := hOk.len
 have hik : c.k = (c.Gen.length : Int) := rfl
 have hen : c.n = ((ix [] c.Gen 0).length : Int) := rfl
 refine ctr_of Try.call23 func23 rfl rfl ?_
 intro w O
 refine ent_lenC 0 2 rfl rfl (fun hlen0_2 => ?_)
 refine ent_lenC 0 3 rfl rfl (fun hlen0_3 => ?_)
 refine esr rfl fun _ K1 => ?_
 refine ent_boxS rfl rfl (AllOne.mem ⟨(one_int _), (one_int _), one_sl, one_sl, trivial⟩) (fun b1_1 => ?_)
 refine emm rfl ?_
 refine enk K1 ?_
 refine esk rfl ?_
 refine ent_seq fun _ K3 => ?_
 refine esk rfl ?_
 refine ent_block ?_
 refine ent_loop (fun (i : Int) => (⟨[(1, aEx (.pointer (some ⟨b1_1, 0, none⟩))), (3, aInt (c.fst i)), (4, aInt i)], [oBox b1_1 27 [aInt c.F.P, aInt c.F.M, aSl 1 false aInt c.F.mod, aSl 1 false aRows c.Gen]]⟩ : St)) (fun (i : Int) => (0 ≤ i) ∧ (i ≤ c.Gen.length)) (fun (i : Int) => (c.Gen.length - i).toNat) 0 ⟨(by omega), (by omega)⟩ (ent_rep ⟨rfl, slot_av (av_int (show 1 = c.fst (0 : Int) by simp [Cnv.fst, Cnv.sumD])), slot_av (av_int (show 0 = (0 : Int) by rfl)), trivial⟩ rfl) ?_
 rintro i ⟨h0, h1⟩
 show Ent _ ⟨_, [_]⟩ _
 refine ent_seq fun _ K5 => ?_
 refine esr rfl fun _ K6 => ?_
 refine ent_o rfl (ok_fieldAddrEx runUnderlying27 rfl sizeOf25 (by decide) rfl) ?_
 refine ent_o rfl (ok_loadB (k := 0) isAgg25 rfl rfl rfl) ?_
 refine ent_o rfl (ok_len rfl runUnderlying25 rfl) ?_
 refine ent_o rfl (ok_lss rfl rfl) ?_
 refine enk K6 ?_
 refine ent_condD rfl (fun h10 => ?_) (fun h10 => ?_)
 ·refine esp K5 ?_
  refine ent_seq fun _ K7 => ?_
  refine ent_block ?_
  refine esk rfl ?_
  refine ent_block ?_
  refine ent_loop (fun (d : Int) => (⟨[(1, aEx (.pointer (some ⟨b1_1, 0, none⟩))), (3, aInt (c.fst i * c.F.q ^ d.toNat)), (4, aInt i), (5, aInt d)], [oBox b1_1 27 [aInt c.F.P, aInt c.F.M, aSl 1 false aInt c.F.mod, aSl 1 false aRows c.Gen]]⟩ : St)) (fun (d : Int) => (0 ≤ d) ∧ (d ≤ c.deg i)) (fun (d : Int) => (c.deg i - d).toNat) 0 ⟨(by omega), (c.deg_nonneg i)⟩ (ent_rep ⟨rfl, slot_av (av_int (show c.fst i = c.fst i * c.F.q ^ (0 : Int).toNat by simp)), rfl, slot_av (av_int (show 0 = (0 : Int) by rfl)), trivial⟩ rfl) ?_
  rintro d ⟨d0, d1⟩
  show Ent _ ⟨_, [_]⟩ _
  refine ent_seq fun _ K9 => ?_
  refine esr rfl fun _ K10 => ?_
  refine ent_o rfl (ok_loadBS (k := 0) ti27 rfl rfl rfl) ?_
  refine emm rfl ?_
  refine ent_o rfl (ok_call (rDegree_ok c i ‹_› ‹_›) rfl) ?_
  refine ent_o rfl (ok_lss rfl rfl) ?_
  refine enk K10 ?_
  refine ent_condD rfl (fun h17 => ?_) (fun h17 => ?_)
  ·have hfq := Cnv.fst_part hq.2.2.2.2.2.1 hOk.small h0 (show i < c.Gen.length by omega) d0 (show d ≤ c.deg i by omega)
   have hmm : 0 ≤ c.fst i * c.F.q ^ d.toNat * c.F.q ∧ c.fst i * c.F.q ^ d.toNat * c.F.q ≤ 65536 * 256 := ⟨Int.mul_nonneg (by omega) (by omega), Int.mul_le_mul (by omega) (by omega) (by omega) (by omega)⟩
   have hdl := hFew.deg_le i h0 (by omega)
   refine esp K9 ?_
   refine ent_seq fun _ K11 => ?_
   refine ent_block ?_
   refine ent_region ?_
   refine emm rfl ?_
   refine ent_o rfl (ok_fieldAddrEx runUnderlying27 rfl sizeOf24 (by decide) rfl) ?_
   refine ent_o rfl (ok_loadBS (k := 0) ti24 rfl rfl rfl) ?_
   refine ent_o rfl (ok_call (rOrder_ok c.F) rfl) ?_
   refine ent_o rfl (ok_mul rfl rfl (by omega) (by omega)) ?_
   refine emm rfl ?_
   refine enk K11 ?_
   refine ent_region ?_
   refine emm rfl ?_
   refine ent_o rfl (ok_add rfl rfl (by omega) (by omega)) ?_
   refine emm rfl ?_
   refine ent_nil ?_
   refine ent_again (s := (d)) (d + 1) ⟨(by omega), ‹_›⟩ (by omega) (ent_rep ⟨rfl, slot_av (av_int (show (c.fst i * c.F.q ^ d.toNat) * c.F.q = c.fst i * c.F.q ^ (d + 1).toNat by rw [pow_succ_toNat c.F.q d d0, Int.mul_assoc])), rfl, rfl, trivial⟩ rfl)
  refine ent_exit ?_
  refine ent_k K7 ?_
  refine ent_region ?_
  refine emm rfl ?_
  refine ent_o rfl (ok_add rfl rfl (by omega) (by omega)) ?_
  refine emm rfl ?_
  refine ent_nil ?_
  refine ent_again (s := (i)) (i + 1) ⟨(by omega), ‹_›⟩ (by omega) (ent_rep ⟨rfl, slot_av (av_int (show c.fst i * c.F.q ^ d.toNat = c.fst (i + 1) by rw [c.fst_succ h0, show c.deg i = d by omega])), rfl, trivial⟩ rfl)
 refine ent_exit ?_
 refine ent_k K3 ?_
 refine esk rfl ?_
 refine ent_ret ?_
 exact retR1 (.inr rfl) results23 (resr_tmp (res_cv rfl (cv_int (by unfold Cnv.fst Cnv.states; rw [show i.toNat = c.Gen.length by omega]))))

theorem rNext_ok (c : Cnv) (s : Int) (inn : List Int) (hFew : c.Few) (hOk : c.Ok) (hs0 : 0 ≤ s) (hs1 : s < c.states) (hg : c.GoodIn inn) : CtrF Try.prog 25 [aCnv c, aInt s, aSl 1 false aInt inn] (aTup [aInt (c.nxt s inn c.Gen.length), aSl 1 false aInt (c.outL s inn)]) := by
 have hF := hOk.fld
 have hS := hF.1
 have hq := hS.bd
 have hst := Cnv.states_le hq.2.2.2.2.2.1 hOk.small
 have hkn := hOk.kn
 have hnl := hOk.len
 have hik : c.k = (c.Gen.length : Int) := rfl
 have hen : c.n = ((ix [] c.Gen 0).length : Int) := rfl
 have hil := hg.1
 refine ctrF_of Try.call25 func25 rfl rfl ?_
 intro w O
 refine ent_lenC 0 2 rfl rfl (fun hlen0_2 => ?_)
 refine ent_lenC 0 3 rfl rfl (fun hlen0_3 => ?_)
 refine ent_len 2 rfl (fun hlen2 => ?_)
 refine esr rfl fun _ K1 => ?_
 refine ent_boxS rfl rfl (AllOne.mem ⟨(one_int _), (one_int _), one_sl, one_sl, trivial⟩) (fun b3_1 => ?_)
 refine emm rfl ?_
 refine enk K1 ?_
 refine esr rfl fun _ K2 => ?_
 refine ent_o rfl (ok_fieldAddrEx runUnderlying27 rfl sizeOf24 (by decide) rfl) ?_
 refine ent_o rfl (ok_loadBS (k := 0) ti24 rfl rfl rfl) ?_
 refine ent_o rfl (ok_call (rOrder_ok c.F) rfl) ?_
 refine emm rfl ?_
 refine enk K2 ?_
 refine esk rfl ?_
 refine esk rfl ?_
 refine esr rfl fun _ K5 => ?_
 refine ent_o rfl (ok_fieldAddrEx runUnderlying27 rfl sizeOf25 (by decide) rfl) ?_
 refine ent_o rfl (ok_loadB (k := 0) isAgg25 rfl rfl rfl) ?_
 refine ent_o rfl (ok_index [] sl25 rfl rfl (by omega) (by omega)) ?_
 refine ent_o rfl (ok_load ti42 rfl) ?_
 refine ent_o rfl (ok_len rfl runUnderlying42 rfl) ?_
 refine ent_make aInt 0 rfl vt22 rfl rfl (by omega) (by omega) (by omega) (fun _ _ => rfl) (AllV.mem ⟨rfl, trivial⟩) (fun b25_2 => ?_)
 refine emm rfl ?_
 refine enk K5 ?_
 refine ent_seq fun _ K6 => ?_
 refine esk rfl ?_
 refine ent_block ?_
 refine ent_loop (fun (i : Int) => (⟨[(1, aInt (s / c.fst i)), (2, aSl 1 false aInt inn), (3, aEx (.pointer (some ⟨b3_1, 0, none⟩))), (8, aInt c.F.q), (9, aInt (c.nxt s inn i.toNat)), (10, aInt (c.fst i)), (11, aEx (vec (some b25_2) (((↑(ix [] c.Gen 0).length : Int)).toNat) (((↑(ix [] c.Gen 0).length : Int)).toNat))), (12, aInt i)], [oVec (some b25_2) (((↑(ix [] c.Gen 0).length : Int)).toNat) 3 1 false aInt (mapR (fun jj => c.outTo s inn jj i.toNat) c.n), oBox b3_1 27 [aInt c.F.P, aInt c.F.M, aSl 1 false aInt c.F.mod, aSl 1 false aRows c.Gen]]⟩ : St)) (fun (i : Int) => (0 ≤ i) ∧ (i ≤ c.Gen.length)) (fun (i : Int) => (c.Gen.length - i).toNat) 0 ⟨(by omega), (by omega)⟩ (ent_rep ⟨slot_av (av_int (show s = s / c.fst (0 : Int) by simp [Cnv.fst, Cnv.sumD])), rfl, rfl, rfl, slot_av (av_int (show 0 = c.nxt s inn (0 : Int).toNat by rfl)), slot_av (av_int (show 1 = c.fst (0 : Int) by simp [Cnv.fst, Cnv.sumD])), rfl, slot_av (av_int (show 0 = (0 : Int) by rfl)), trivial⟩ (own_cons (own_vec (show mapR (fun jj => c.outTo s inn jj (0 : Int).toNat) c.n = List.replicate (((↑(ix [] c.Gen 0).length : Int)).toNat) 0 by exact mapR_const 0 c.n)) (rfl))) ?_
 rintro i ⟨h0, h1⟩
 show Ent _ ⟨_, [_, _]⟩ _
 refine ent_seq fun _ K8 => ?_
 refine esr rfl fun _ K9 => ?_
 refine ent_o rfl (ok_fieldAddrEx runUnderlying27 rfl sizeOf25 (by decide) rfl) ?_
 refine ent_o rfl (ok_loadB (k := 1) isAgg25 rfl rfl rfl) ?_
 refine ent_o rfl (ok_len rfl runUnderlying25 rfl) ?_
 refine ent_o rfl (ok_lss rfl rfl) ?_
 refine enk K9 ?_
 refine ent_condD rfl (fun h30 => ?_) (fun h30 => ?_)
 ·have hfp := c.fst_pos hq.2.2.2.2.2.1 i
  have hfst1 := Cnv.fst_part hq.2.2.2.2.2.1 hOk.small h0 (show i < c.Gen.length by omega) (d := 0) (by omega) (c.deg_nonneg i)
  rw [show c.fst i * c.F.q ^ (0 : Int).toNat = c.fst i by simp] at hfst1
  have hrow := hOk.row h0 (show i < c.Gen.length by omega)
  have hdeg40 := hFew.deg_le i h0 (by omega)
  have hsf := Int.ediv_nonneg hs0 (show 0 ≤ c.fst i by omega)
  have hdn := c.deg_nonneg i
  have lm0 : (mapR (fun jj => c.outTo s inn jj i.toNat) c.n).length = c.n.toNat := length_mapR _ _
  have lm1 : (mapR (fun jj => c.outTo s inn jj (i + 1).toNat) c.n).length = c.n.toNat := length_mapR _ _
  refine esp K8 ?_
  refine ent_seq fun _ K10 => ?_
  refine ent_block ?_
  refine esr rfl fun _ K11 => ?_
  refine ent_o rfl (ok_index 0 sl22 rfl rfl (by omega) (by omega)) ?_
  refine ent_o rfl (ok_load ti3 rfl) ?_
  refine ent_buildN aInt [ix 0 inn i] rfl vt22 (by decide) (⟨0, 1, rfl, .inl ⟨rfl, _, rfl, (one_int _), rfl, rfl⟩⟩) rfl (fun b37_3 => ?_)
  refine emm rfl ?_
  refine enk K11 ?_
  refine ent_seq fun _ K12 => ?_
  refine esk rfl ?_
  refine ent_block ?_
  refine ent_loop (fun (ss : Int × Option Nat × Nat) => match ss with | (d, rr4, cc4) => (⟨[(1, aInt (s / c.fst i / c.F.q ^ d.toNat)), (2, aSl 1 false aInt inn), (3, aEx (.pointer (some ⟨b3_1, 0, none⟩))), (8, aInt c.F.q), (9, aInt (c.nxt s inn i.toNat)), (10, aInt (c.fst i)), (11, aEx (vec (some b25_2) (((↑(ix [] c.Gen 0).length : Int)).toNat) (((↑(ix [] c.Gen 0).length : Int)).toNat))), (12, aInt i), (13, aEx (vec rr4 ((c.lineTo s inn i d).length) cc4)), (14, aInt d)], [oVec rr4 cc4 3 1 false aInt (c.lineTo s inn i d), oVec (some b25_2) (((↑(ix [] c.Gen 0).length : Int)).toNat) 3 1 false aInt (mapR (fun jj => c.outTo s inn jj i.toNat) c.n), oBox b3_1 27 [aInt c.F.P, aInt c.F.M, aSl 1 false aInt c.F.mod, aSl 1 false aRows c.Gen]]⟩ : St)) (fun (ss : Int × Option Nat × Nat) => match ss with | (d, rr4, cc4) => (0 ≤ d) ∧ (d ≤ c.deg i)) (fun (ss : Int × Option Nat × Nat) => match ss with | (d, rr4, cc4) => (c.deg i - d).toNat) (0, (some b37_3), 1) ⟨(by omega), (c.deg_nonneg i)⟩ (ent_rep ⟨slot_av (av_int (show s / c.fst i = s / c.fst i / c.F.q ^ (0 : Int).toNat by simp)), rfl, rfl, rfl, rfl, rfl, rfl, rfl, slot_av (av_vec rfl), slot_av (av_int (show 0 = (0 : Int) by rfl)), trivial⟩ (own_cons (own_vec (show c.lineTo s inn i (0 : Int) = [ix 0 inn i] by rfl)) (rfl))) ?_
  rintro ⟨d, rr4, cc4⟩ ⟨d0, d1⟩
  show Ent _ ⟨_, [_, _, _]⟩ _
  refine ent_seq fun _ K14 => ?_
  refine esr rfl fun _ K15 => ?_
  refine ent_o rfl (ok_loadBS (k := 2) ti27 rfl rfl rfl) ?_
  refine emm rfl ?_
  refine ent_o rfl (ok_call (rDegree_ok c i ‹_› ‹_›) rfl) ?_
  refine ent_o rfl (ok_lss rfl rfl) ?_
  refine enk K15 ?_
  refine ent_condD rfl (fun h42 => ?_) (fun h42 => ?_)
  ·have hpp := pow_pos_of c.F.q hq.2.2.2.2.2.1 d.toNat
   have hsd := Int.ediv_nonneg hsf (show 0 ≤ c.F.q ^ d.toNat by omega)
   have hsl : s / c.fst i / c.F.q ^ d.toNat ≤ 65536 := Int.le_trans (Int.ediv_le_self _ hsf) (Int.le_trans (Int.ediv_le_self _ hs0) (by omega))
   have llt : ((c.lineTo s inn i d).length : Int) = d + 1 := by unfold Cnv.lineTo; rw [List.length_cons, length_digS]; omega
   refine esp K14 ?_
   refine ent_seq fun _ K16 => ?_
   refine ent_block ?_
   refine esr rfl fun _ K17 => ?_
   refine ent_o rfl (ok_rem rfl rfl (by omega) (by omega)) ?_
   refine ent_appendL (k := 0) (enc := aInt) (y := (s / c.fst i / c.F.q ^ d.toNat) % c.F.q) rfl rfl vt22 rfl rfl rfl rfl ((elem_one (one_int _))) (by omega) (by omega) (by decide) (fun b50_5 c50_5 => ?_)
   refine emm rfl ?_
   refine enk K17 ?_
   refine ent_region ?_
   refine emm rfl ?_
   refine ent_o rfl (ok_quo rfl rfl (by omega) (by omega) (by omega)) ?_
   refine emm rfl ?_
   refine enk K16 ?_
   refine ent_region ?_
   refine emm rfl ?_
   refine ent_o rfl (ok_add rfl rfl (by omega) (by omega)) ?_
   refine emm rfl ?_
   refine ent_nil ?_
   refine ent_again (s := (d, rr4, cc4)) (d + 1, (some b50_5), c50_5) ⟨(by omega), ‹_›⟩ (by dsimp only; omega) (ent_rep ⟨slot_av (av_int (show (s / c.fst i / c.F.q ^ d.toNat) / c.F.q = s / c.fst i / c.F.q ^ (d + 1).toNat by rw [pow_succ_toNat c.F.q d d0, Int.ediv_ediv_of_nonneg (by omega)])), rfl, rfl, rfl, rfl, rfl, rfl, rfl, slot_av (av_vec (congrArg List.length (show c.lineTo s inn i (d + 1) = (c.lineTo s inn i d) ++ [(s / c.fst i / c.F.q ^ d.toNat) % c.F.q] by exact c.lineTo_succ s inn hq.2.2.2.2.2.1 d0).symm)), rfl, trivial⟩ (own_cons (own_vec (show c.lineTo s inn i (d + 1) = (c.lineTo s inn i d) ++ [(s / c.fst i / c.F.q ^ d.toNat) % c.F.q] by exact c.lineTo_succ s inn hq.2.2.2.2.2.1 d0)) (rfl)))
  have hdq : d = c.deg i := by omega
  have hde : c.F.q ^ d.toNat = c.F.q ^ (c.deg i).toNat := by rw [hdq]
  have hla := c.lineTo_all s inn hdq
  have hll := c.length_line s inn i
  rw [← hla] at hll
  refine ent_exit ?_
  refine ent_k K12 ?_
  refine ent_seq fun _ K18 => ?_
  refine esk rfl ?_
  refine ent_block ?_
  refine ent_loop (fun (e : Int) => (⟨[(1, aInt (s / c.fst i / c.F.q ^ d.toNat)), (2, aSl 1 false aInt inn), (3, aEx (.pointer (some ⟨b3_1, 0, none⟩))), (8, aInt c.F.q), (9, aInt (c.nxt s inn i.toNat + c.nxE s inn i e.toNat)), (10, aInt (c.fst i * c.F.q ^ e.toNat)), (11, aEx (vec (some b25_2) (((↑(ix [] c.Gen 0).length : Int)).toNat) (((↑(ix [] c.Gen 0).length : Int)).toNat))), (12, aInt i), (13, aEx (vec rr4 ((c.lineTo s inn i d).length) cc4)), (15, aInt e)], [oVec rr4 cc4 3 1 false aInt (c.lineTo s inn i d), oVec (some b25_2) (((↑(ix [] c.Gen 0).length : Int)).toNat) 3 1 false aInt (mapR (fun jj => c.outTo s inn jj i.toNat) c.n), oBox b3_1 27 [aInt c.F.P, aInt c.F.M, aSl 1 false aInt c.F.mod, aSl 1 false aRows c.Gen]]⟩ : St)) (fun (e : Int) => (0 ≤ e) ∧ (e ≤ c.deg i)) (fun (e : Int) => (c.deg i - e).toNat) 0 ⟨(by omega), (c.deg_nonneg i)⟩ (ent_rep ⟨rfl, rfl, rfl, rfl, slot_av (av_int (show c.nxt s inn i.toNat = c.nxt s inn i.toNat + c.nxE s inn i (0 : Int).toNat by simp [Cnv.nxE])), slot_av (av_int (show c.fst i = c.fst i * c.F.q ^ (0 : Int).toNat by simp)), rfl, rfl, rfl, slot_av (av_int (show 0 = (0 : Int) by rfl)), trivial⟩ rfl) ?_
  rintro e ⟨e0, e1⟩
  show Ent _ ⟨_, [_, _, _]⟩ _
  refine ent_seq fun _ K20 => ?_
  refine esr rfl fun _ K21 => ?_
  refine ent_o rfl (ok_loadBS (k := 2) ti27 rfl rfl rfl) ?_
  refine emm rfl ?_
  refine ent_o rfl (ok_call (rDegree_ok c i ‹_› ‹_›) rfl) ?_
  refine ent_o rfl (ok_lss rfl rfl) ?_
  refine enk K21 ?_
  refine ent_condD rfl (fun h58 => ?_) (fun h58 => ?_)
  ·have hle : ix 0 (c.lineTo s inn i d) e = ix 0 (c.line s inn i) e := by rw [hla]
   have hxl := Cnv.line_lt (s := s) hq.2.2.2.2.2.1 hg h0 (show i < c.Gen.length by omega) e0 (show e ≤ c.deg i by omega)
   rw [← hle] at hxl
   have hfq := Cnv.fst_part hq.2.2.2.2.2.1 hOk.small h0 (show i < c.Gen.length by omega) e0 (show e ≤ c.deg i by omega)
   have hnl1 := Cnv.nxt_lt (s := s) hq.2.2.2.2.2.1 hg i.toNat (by omega)
   rw [show ((i.toNat : Nat) : Int) = i by omega] at hnl1
   have hnl2 := Cnv.nxE_lt (s := s) hq.2.2.2.2.2.1 hg h0 (show i < c.Gen.length by omega) hnl1.1 hnl1.2 e.toNat (by omega)
   have hmm : 0 ≤ ix 0 (c.lineTo s inn i d) e * (c.fst i * c.F.q ^ e.toNat) ∧ ix 0 (c.lineTo s inn i d) e * (c.fst i * c.F.q ^ e.toNat) ≤ 256 * 65536 := ⟨Int.mul_nonneg hxl.1 (by omega), Int.mul_le_mul (by omega) (by omega) (by omega) (by omega)⟩
   have hmq : 0 ≤ c.fst i * c.F.q ^ e.toNat * c.F.q ∧ c.fst i * c.F.q ^ e.toNat * c.F.q ≤ 65536 * 256 := ⟨Int.mul_nonneg (by omega) (by omega), Int.mul_le_mul (by omega) (by omega) (by omega) (by omega)⟩
   refine esp K20 ?_
   refine ent_seq fun _ K22 => ?_
   refine ent_block ?_
   refine esr rfl fun _ K23 => ?_
   refine ent_rsome 0 rfl (by omega) (fun b64_6 hb64_6 => ?_)
   subst hb64_6
   refine ent_o rfl (ok_indexV sl22 rfl rfl (by omega) (by omega)) ?_
   refine ent_o rfl (ok_loadV (k := 0) 0 ti3 rfl rfl (by omega) (by omega)) ?_
   refine emm rfl ?_
   refine ent_o rfl (ok_mul rfl rfl (by omega) (by omega)) ?_
   refine ent_o rfl (ok_add rfl rfl (by omega) (by omega)) ?_
   refine emm rfl ?_
   refine enk K23 ?_
   refine ent_region ?_
   refine emm rfl ?_
   refine ent_o rfl (ok_mul rfl rfl (by omega) (by omega)) ?_
   refine emm rfl ?_
   refine enk K22 ?_
   refine ent_region ?_
   refine emm rfl ?_
   refine ent_o rfl (ok_add rfl rfl (by omega) (by omega)) ?_
   refine emm rfl ?_
   refine ent_nil ?_
   refine ent_again (s := (e)) (e + 1) ⟨(by omega), ‹_›⟩ (by omega) (ent_rep ⟨rfl, rfl, rfl, rfl, slot_av (av_int (show (c.nxt s inn i.toNat + c.nxE s inn i e.toNat) + ((ix 0 (c.lineTo s inn i d) e) * (c.fst i * c.F.q ^ e.toNat)) = c.nxt s inn i.toNat + c.nxE s inn i (e + 1).toNat by rw [c.nxE_succ s inn e0, hle]; omega)), slot_av (av_int (show (c.fst i * c.F.q ^ e.toNat) * c.F.q = c.fst i * c.F.q ^ (e + 1).toNat by rw [pow_succ_toNat c.F.q e e0, Int.mul_assoc])), rfl, rfl, slot_av (av_vec (congrArg List.length (show c.lineTo s inn i d = c.lineTo s inn i d by rfl).symm)), rfl, trivial⟩ (own_cons (own_vec (show c.lineTo s inn i d = c.lineTo s inn i d by rfl)) (rfl)))
  have hee : e = c.deg i := by omega
  refine ent_exit ?_
  refine ent_k K18 ?_
  refine esk rfl ?_
  refine ent_block ?_
  refine ent_loop (fun (j : Int) => (⟨[(1, aInt (s / c.fst i / c.F.q ^ d.toNat)), (2, aSl 1 false aInt inn), (3, aEx (.pointer (some ⟨b3_1, 0, none⟩))), (8, aInt c.F.q), (9, aInt (c.nxt s inn i.toNat + c.nxE s inn i e.toNat)), (10, aInt (c.fst i * c.F.q ^ e.toNat)), (11, aEx (vec (some b25_2) (((↑(ix [] c.Gen 0).length : Int)).toNat) (((↑(ix [] c.Gen 0).length : Int)).toNat))), (12, aInt i), (13, aEx (vec rr4 ((c.lineTo s inn i d).length) cc4)), (16, aInt j)], [oVec rr4 cc4 3 1 false aInt (c.lineTo s inn i d), oVec (some b25_2) (((↑(ix [] c.Gen 0).length : Int)).toNat) 3 1 false aInt (mixL (mapR (fun jj => c.outTo s inn jj (i + 1).toNat) c.n) (mapR (fun jj => c.outTo s inn jj i.toNat) c.n) j), oBox b3_1 27 [aInt c.F.P, aInt c.F.M, aSl 1 false aInt c.F.mod, aSl 1 false aRows c.Gen]]⟩ : St)) (fun (j : Int) => (0 ≤ j) ∧ (j ≤ c.n)) (fun (j : Int) => (c.n - j).toNat) 0 ⟨(by omega), (by omega)⟩ (ent_rep ⟨rfl, rfl, rfl, rfl, rfl, rfl, rfl, rfl, rfl, slot_av (av_int (show 0 = (0 : Int) by rfl)), trivial⟩ (own_cons (rfl) (own_cons (own_vec (show mixL (mapR (fun jj => c.outTo s inn jj (i + 1).toNat) c.n) (mapR (fun jj => c.outTo s inn jj i.toNat) c.n) (0 : Int) = mapR (fun jj => c.outTo s inn jj i.toNat) c.n by exact mixL_zero _ _)) (rfl)))) ?_
  rintro j ⟨j0, j1⟩
  show Ent _ ⟨_, [_, _, _]⟩ _
  have lmx : (mixL (mapR (fun jj => c.outTo s inn jj (i + 1).toNat) c.n) (mapR (fun jj => c.outTo s inn jj i.toNat) c.n) j).length = c.n.toNat := by rw [length_mixL _ _ (by omega)]; exact lm0
  refine ent_seq fun _ K25 => ?_
  refine esr rfl fun _ K26 => ?_
  refine ent_o rfl (ok_lenEx rfl runUnderlying22 rfl) ?_
  refine ent_o rfl (ok_lss rfl rfl) ?_
  refine enk K26 ?_
  refine ent_condD rfl (fun h75 => ?_) (fun h75 => ?_)
  ·have hmi : ix 0 (mixL (mapR (fun jj => c.outTo s inn jj (i + 1).toNat) c.n) (mapR (fun jj => c.outTo s inn jj i.toNat) c.n) j) j = c.outTo s inn j i.toNat := by rw [ix_mixL _ _ j0 (by omega) (by omega)]; exact ix_mapR 0 _ j0 (by omega)
   have hval : addF c.F (ix 0 (mixL (mapR (fun jj => c.outTo s inn jj (i + 1).toNat) c.n) (mapR (fun jj => c.outTo s inn jj i.toNat) c.n) j) j) (dotF c.F (c.lineTo s inn i d) (ix [] (ix [] c.Gen i) j)) = ix 0 (mapR (fun jj => c.outTo s inn jj (i + 1).toNat) c.n) j := by rw [ix_mapR 0 _ j0 (by omega), hmi, hla]; exact Cnv.outTo_dot hS s inn h0 j0 (by omega)
   refine esp K25 ?_
   refine ent_seq fun _ K27 => ?_
   refine ent_block ?_
   refine ent_draw 22 mixed (by kernel_rfl) (by kernel_rfl) (by kernel_rfl) ?_
   refine dw_o rfl (ok_move rfl) ?_
   refine dw_o rfl (ok_move rfl) ?_
   refine dw_o rfl (ok_fieldAddrEx runUnderlying27 rfl sizeOf24 (by decide) rfl) ?_
   refine dw_o rfl (ok_loadBS (k := 2) ti24 rfl rfl rfl) ?_
   refine dw_o rfl (ok_move rfl) ?_
   refine dw_o rfl (ok_move rfl) ?_
   refine dw_o rfl (ok_indexV sl22 rfl rfl (by omega) (by omega)) ?_
   refine dw_o rfl (ok_loadV (k := 1) 0 ti3 rfl rfl (by omega) (by omega)) ?_
   refine dw_o rfl (ok_fieldAddrEx runUnderlying27 rfl sizeOf24 (by decide) rfl) ?_
   refine dw_o rfl (ok_loadBS (k := 2) ti24 rfl rfl rfl) ?_
   refine dw_o rfl (ok_move rfl) ?_
   refine dw_o rfl (ok_fieldAddrEx runUnderlying27 rfl sizeOf25 (by decide) rfl) ?_
   refine dw_o rfl (ok_loadB (k := 2) isAgg25 rfl rfl rfl) ?_
   refine dw_o rfl (ok_move rfl) ?_
   refine dw_o rfl (ok_index [] sl25 rfl rfl (by omega) (by omega)) ?_
   refine dw_o rfl (ok_load ti42 rfl) ?_
   refine dw_o rfl (ok_move rfl) ?_
   refine dw_o rfl (ok_index [] sl42 rfl rfl (by omega) (by omega)) ?_
   refine dw_o rfl (ok_load ti22 rfl) ?_
   refine dw_o rfl (ok_callP [0] (by exact pl_ex) (rDot_ok c.F (c.lineTo s inn i d) (ix [] (ix [] c.Gen i) j) ‹_›) ⟨arg_a rfl (cv_id (sub_lent _)), arg_a rfl (cv_vec (k := 0) (off_lent rfl (by decide)) rfl rfl), arg_a rfl (cv_id (sub_lent _)), trivial⟩) ?_
   refine dw_o rfl (ok_call (rAdd_ok c.F (ix 0 (mixL (mapR (fun jj => c.outTo s inn jj (i + 1).toNat) c.n) (mapR (fun jj => c.outTo s inn jj i.toNat) c.n) j) j) (dotF c.F (c.lineTo s inn i d) (ix [] (ix [] c.Gen i) j)) ‹_›) rfl) ?_
   refine dw_o rfl (ok_indexV sl22 rfl rfl (by omega) (by omega)) ?_
   refine dw_nil ?_
   refine ent_storeV (k := 1) (z := addF c.F (ix 0 (mixL (mapR (fun jj => c.outTo s inn jj (i + 1).toNat) c.n) (mapR (fun jj => c.outTo s inn jj i.toNat) c.n) j) j) (dotF c.F (c.lineTo s inn i d) (ix [] (ix [] c.Gen i) j))) ti3 rfl rfl rfl (elem_one (one_int _)) (by omega) (by omega) ?_
   refine enk K27 ?_
   refine ent_region ?_
   refine emm rfl ?_
   refine ent_o rfl (ok_add rfl rfl (by omega) (by omega)) ?_
   refine emm rfl ?_
   refine ent_nil ?_
   refine ent_again (s := (j)) (j + 1) ⟨(by omega), ‹_›⟩ (by omega) (ent_rep ⟨rfl, rfl, rfl, rfl, rfl, rfl, rfl, rfl, rfl, rfl, trivial⟩ (own_cons (rfl) (own_cons (own_vec (show mixL (mapR (fun jj => c.outTo s inn jj (i + 1).toNat) c.n) (mapR (fun jj => c.outTo s inn jj i.toNat) c.n) (j + 1) = List.set (mixL (mapR (fun jj => c.outTo s inn jj (i + 1).toNat) c.n) (mapR (fun jj => c.outTo s inn jj i.toNat) c.n) j) (j).toNat (addF c.F (ix 0 (mixL (mapR (fun jj => c.outTo s inn jj (i + 1).toNat) c.n) (mapR (fun jj => c.outTo s inn jj i.toNat) c.n) j) j) (dotF c.F (c.lineTo s inn i d) (ix [] (ix [] c.Gen i) j))) by exact (mixL_set _ _ j0 (by omega) (by omega) hval).symm)) (rfl))))
  refine ent_exit ?_
  refine ent_k K10 ?_
  refine ent_region ?_
  refine emm rfl ?_
  refine ent_o rfl (ok_add rfl rfl (by omega) (by omega)) ?_
  refine emm rfl ?_
  refine ent_nil ?_
  refine ent_drop 0 ?_
  refine ent_again (s := (i)) (i + 1) ⟨(by omega), ‹_›⟩ (by omega) (ent_rep ⟨slot_av (av_int (show s / c.fst i / c.F.q ^ d.toNat = s / c.fst (i + 1) by rw [c.fst_succ h0, hde, Int.ediv_ediv_of_nonneg (by omega)])), rfl, rfl, rfl, slot_av (av_int (show c.nxt s inn i.toNat + c.nxE s inn i e.toNat = c.nxt s inn (i + 1).toNat by rw [c.nxt_succ s inn h0, hee])), slot_av (av_int (show c.fst i * c.F.q ^ e.toNat = c.fst (i + 1) by rw [c.fst_succ h0, hee])), rfl, rfl, trivial⟩ (own_cons (own_vec (show mapR (fun jj => c.outTo s inn jj (i + 1).toNat) c.n = mixL (mapR (fun jj => c.outTo s inn jj (i + 1).toNat) c.n) (mapR (fun jj => c.outTo s inn jj i.toNat) c.n) j by exact (mixL_all _ _ (by omega) (by omega)).symm)) (rfl)))
 refine ent_exit ?_
 refine ent_k K6 ?_
 refine esk rfl ?_
 refine ent_ret ?_
 exact retR2 (.inr rfl) results25 (resr_tmp (res_cv rfl (cv_int (by rw [show i.toNat = c.Gen.length by omega])))) (resr_tmp (res_cv rfl (cvF_vec (k := 0) flat_int rfl rfl (by simp_all) (by rw [show i.toNat = c.Gen.length by omega]; rfl))))
end Go.Proofs.Ytfjhbdfgbpcchaa

