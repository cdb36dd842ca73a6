/-
  Walks of functions of the program and the reference.
-/
import Derived.Test.YtfjhbdfgbpcchaaV10
open Go Go.Cw
namespace Go.Proofs.Ytfjhbdfgbpcchaa
open Try
set_option maxRecDepth 100000
set_option linter.unusedVariables false
set_option linter.unusedSimpArgs false
theorem rDegree_ok (c : Cnv) (i : Int) (h0 : 0 ≤ i) (h1 : i < c.Gen.length) : Ctr Try.prog 61 [aCnv c, aInt i] (aInt (c.deg i)) := by
 refine ctr_of Try.call61 func61 rfl rfl ?_
 intro w O
 refine ent_lenC 0 2 rfl rfl (fun hlen0_2 => ?_)
 refine ent_lenC 0 3 rfl rfl (fun hlen0_3 => ?_)
 refine esr rfl fun _ K1 => ?_
 refine ent_boxS rfl rfl (AllOne.mem ⟨(one_int _), (one_int _), one_sl, one_sl, trivial⟩) (fun b2_1 => ?_)
 refine emm rfl ?_
 refine enk K1 ?_
 refine esk rfl ?_
 refine ent_seq fun _ K3 => ?_
 refine esk rfl ?_
 refine ent_block ?_
 refine ent_loop (fun (j : Int) => (⟨[(1, aInt i), (2, aEx (.pointer (some ⟨b2_1, 0, none⟩))), (5, aInt (rowDeg (ix [] c.Gen i) j.toNat)), (6, aInt j)], [oBox b2_1 27 [aInt c.F.P, aInt c.F.M, aSl 1 false aInt c.F.mod, aSl 1 false aRows c.Gen]]⟩ : St)) (fun (j : Int) => (0 ≤ j) ∧ (j ≤ (ix [] c.Gen i).length)) (fun (j : Int) => ((ix [] c.Gen i).length - j).toNat) 0 ⟨(by omega), (by omega)⟩ (ent_rep ⟨rfl, rfl, slot_av (av_int (show 0 = rowDeg (ix [] c.Gen i) (0 : Int).toNat by rfl)), slot_av (av_int (show 0 = (0 : Int) by rfl)), trivial⟩ rfl) ?_
 rintro j ⟨j0, j1⟩
 show Ent _ ⟨_, [_]⟩ _
 have hrn := rowDeg_nonneg (ix [] c.Gen i) j.toNat
 refine ent_seq fun _ K5 => ?_
 refine esr rfl fun _ K6 => ?_
 refine ent_o rfl (ok_fieldAddrEx runUnderlying27 rfl sizeOf25 (by decide) rfl) ?_
 refine ent_o rfl (ok_loadB (k := 0) isAgg25 rfl rfl rfl) ?_
 refine emm rfl ?_
 refine ent_o rfl (ok_index [] sl25 rfl rfl (by omega) (by omega)) ?_
 refine ent_o rfl (ok_load ti42 rfl) ?_
 refine ent_o rfl (ok_len rfl runUnderlying42 rfl) ?_
 refine ent_o rfl (ok_lss rfl rfl) ?_
 refine enk K6 ?_
 refine ent_condD rfl (fun h15 => ?_) (fun h15 => ?_)
 ·refine ent_len 13 rfl (fun hl13 => ?_)
  refine esp K5 ?_
  refine ent_seq fun _ K7 => ?_
  refine ent_block ?_
  refine esk rfl ?_
  refine ent_block ?_
  refine ent_loop (fun (d : Int) => (⟨[(1, aInt i), (2, aEx (.pointer (some ⟨b2_1, 0, none⟩))), (5, aInt (max (rowDeg (ix [] c.Gen i) j.toNat) ((trimN ((ix [] (ix [] c.Gen i) j).take d.toNat) : Int) - 1))), (6, aInt j), (7, aInt d)], [oBox b2_1 27 [aInt c.F.P, aInt c.F.M, aSl 1 false aInt c.F.mod, aSl 1 false aRows c.Gen]]⟩ : St)) (fun (d : Int) => (0 ≤ d) ∧ (d ≤ (ix [] (ix [] c.Gen i) j).length)) (fun (d : Int) => ((ix [] (ix [] c.Gen i) j).length - d).toNat) 0 ⟨(by omega), (by omega)⟩ (ent_rep ⟨rfl, rfl, slot_av (av_int (show rowDeg (ix [] c.Gen i) j.toNat = max (rowDeg (ix [] c.Gen i) j.toNat) ((trimN ((ix [] (ix [] c.Gen i) j).take (0 : Int).toNat) : Int) - 1) by simp [trimN]; omega)), rfl, slot_av (av_int (show 0 = (0 : Int) by rfl)), trivial⟩ rfl) ?_
  rintro d ⟨d0, d1⟩
  show Ent _ ⟨_, [_]⟩ _
  have htl := trimN_le ((ix [] (ix [] c.Gen i) j).take d.toNat)
  have htl2 : ((ix [] (ix [] c.Gen i) j).take d.toNat).length ≤ d.toNat := by simp; omega
  refine ent_seq fun _ K9 => ?_
  refine esr rfl fun _ K10 => ?_
  refine ent_o rfl (ok_fieldAddrEx runUnderlying27 rfl sizeOf25 (by decide) rfl) ?_
  refine ent_o rfl (ok_loadB (k := 0) isAgg25 rfl rfl rfl) ?_
  refine emm rfl ?_
  refine ent_o rfl (ok_index [] sl25 rfl rfl (by omega) (by omega)) ?_
  refine ent_o rfl (ok_load ti42 rfl) ?_
  refine emm rfl ?_
  refine ent_o rfl (ok_index [] sl42 rfl rfl (by omega) (by omega)) ?_
  refine ent_o rfl (ok_load ti22 rfl) ?_
  refine ent_o rfl (ok_len rfl runUnderlying22 rfl) ?_
  refine ent_o rfl (ok_lss rfl rfl) ?_
  refine enk K10 ?_
  refine ent_condD rfl (fun h28 => ?_) (fun h28 => ?_)
  ·refine ent_len 26 rfl (fun hl26 => ?_)
   have htt := trimN_take (l := (ix [] (ix [] c.Gen i) j)) d0 h28
   refine esp K9 ?_
   refine ent_seq fun _ K11 => ?_
   refine ent_block ?_
   refine esr rfl fun _ K12 => ?_
   refine ent_o rfl (ok_fieldAddrEx runUnderlying27 rfl sizeOf25 (by decide) rfl) ?_
   refine ent_o rfl (ok_loadB (k := 0) isAgg25 rfl rfl rfl) ?_
   refine emm rfl ?_
   refine ent_o rfl (ok_index [] sl25 rfl rfl (by omega) (by omega)) ?_
   refine ent_o rfl (ok_load ti42 rfl) ?_
   refine emm rfl ?_
   refine ent_o rfl (ok_index [] sl42 rfl rfl (by omega) (by omega)) ?_
   refine ent_o rfl (ok_load ti22 rfl) ?_
   refine emm rfl ?_
   refine ent_o rfl (ok_index 0 sl22 rfl rfl (by omega) (by omega)) ?_
   refine ent_o rfl (ok_load ti3 rfl) ?_
   refine ent_o rfl (ok_neq rfl rfl) ?_
   refine enk K12 ?_
   refine ent_condD rfl (fun h42 => ?_) (fun h42 => ?_)
   ·refine ent_region ?_
    refine emm rfl ?_
    refine ent_o rfl (ok_max rfl rfl) ?_
    refine emm rfl ?_
    refine enk K11 ?_
    refine ent_region ?_
    refine emm rfl ?_
    refine ent_o rfl (ok_add rfl rfl (by omega) (by omega)) ?_
    refine emm rfl ?_
    refine ent_nil ?_
    refine ent_again (s := (d)) (d + 1) ⟨(by omega), ‹_›⟩ (by omega) (ent_rep ⟨rfl, rfl, slot_av (av_int (show max (max (rowDeg (ix [] c.Gen i) j.toNat) ((trimN ((ix [] (ix [] c.Gen i) j).take d.toNat) : Int) - 1)) d = max (rowDeg (ix [] c.Gen i) j.toNat) ((trimN ((ix [] (ix [] c.Gen i) j).take (d + 1).toNat) : Int) - 1) by rw [htt]; first | (rw [if_pos (Classical.not_not.1 h42)]) | (rw [if_neg h42]; omega))), rfl, rfl, trivial⟩ rfl)
   refine esp K11 ?_
   refine ent_region ?_
   refine emm rfl ?_
   refine ent_o rfl (ok_add rfl rfl (by omega) (by omega)) ?_
   refine emm rfl ?_
   refine ent_nil ?_
   refine ent_again (s := (d)) (d + 1) ⟨(by omega), ‹_›⟩ (by omega) (ent_rep ⟨rfl, rfl, slot_av (av_int (show max (rowDeg (ix [] c.Gen i) j.toNat) ((trimN ((ix [] (ix [] c.Gen i) j).take d.toNat) : Int) - 1) = max (rowDeg (ix [] c.Gen i) j.toNat) ((trimN ((ix [] (ix [] c.Gen i) j).take (d + 1).toNat) : Int) - 1) by rw [htt]; first | (rw [if_pos (Classical.not_not.1 h42)]) | (rw [if_neg h42]; omega))), rfl, rfl, trivial⟩ rfl)
  have hft : (ix [] (ix [] c.Gen i) j).take d.toNat = (ix [] (ix [] c.Gen i) j) := List.take_of_length_le (by omega)
  refine ent_exit ?_
  refine ent_k K7 ?_
  refine ent_region ?_
  refine emm rfl ?_
  refine ent_o rfl (ok_add rfl rfl (by omega) (by omega)) ?_
  refine emm rfl ?_
  refine ent_nil ?_
  refine ent_again (s := (j)) (j + 1) ⟨(by omega), ‹_›⟩ (by omega) (ent_rep ⟨rfl, rfl, slot_av (av_int (show max (rowDeg (ix [] c.Gen i) j.toNat) ((trimN ((ix [] (ix [] c.Gen i) j).take d.toNat) : Int) - 1) = rowDeg (ix [] c.Gen i) (j + 1).toNat by rw [rowDeg_succ _ j0, hft])), rfl, trivial⟩ rfl)
 refine ent_exit ?_
 refine ent_k K3 ?_
 refine esk rfl ?_
 refine ent_ret ?_
 exact retR1 (.inr rfl) results61 (resr_tmp (res_cv rfl (cv_int (by unfold Cnv.deg degOf; rw [show j.toNat = (ix [] c.Gen i).length by omega]))))

theorem few_ok (c : Cnv)  : Ctr Try.prog 16 [aCnv c] (aBool (decide c.Short)) := by
 refine ctr_of Try.call16 func16 rfl rfl ?_
 intro w O
 refine ent_lenC 0 2 rfl rfl (fun hlen0_2 => ?_)
 refine ent_lenC 0 3 rfl rfl (fun hlen0_3 => ?_)
 refine esr rfl fun _ K1 => ?_
 refine ent_boxS rfl rfl (AllOne.mem ⟨(one_int _), (one_int _), one_sl, one_sl, trivial⟩) (fun b1_1 => ?_)
 refine emm rfl ?_
 refine enk K1 ?_
 refine ent_seq fun _ K2 => ?_
 refine esr rfl fun _ K3 => ?_
 refine ent_o rfl (ok_fieldAddrEx runUnderlying27 rfl sizeOf25 (by decide) rfl) ?_
 refine ent_o rfl (ok_loadB (k := 0) isAgg25 rfl rfl rfl) ?_
 refine ent_o rfl (ok_len rfl runUnderlying25 rfl) ?_
 refine ent_o rfl (ok_gtr rfl rfl) ?_
 refine enk K3 ?_
 refine ent_condD rfl (fun h9 => ?_) (fun h9 => ?_)
 ·refine esk rfl ?_
  refine ent_ret ?_
  exact retR1 (.inr rfl) results16 (resr_tmp (res_cv rfl (cv_bool (by exact (decide_eq_false (fun h => by have := h.1.1; unfold Cnv.k at this; omega)).symm))))
 refine esp K2 ?_
 refine esk rfl ?_
 refine ent_seq fun _ K6 => ?_
 refine esk rfl ?_
 refine ent_block ?_
 refine ent_loop (fun (i : Int) => (⟨[(1, aEx (.pointer (some ⟨b1_1, 0, none⟩))), (3, aInt (c.cnt i.toNat)), (4, aInt i)], [oBox b1_1 27 [aInt c.F.P, aInt c.F.M, aSl 1 false aInt c.F.mod, aSl 1 false aRows c.Gen]]⟩ : St)) (fun (i : Int) => (0 ≤ i) ∧ (i ≤ c.Gen.length) ∧ (c.FewTo i) ∧ (0 ≤ c.cnt i.toNat) ∧ (c.cnt i.toNat ≤ 2800 * i)) (fun (i : Int) => (c.Gen.length - i).toNat) 0 ⟨(by omega), (by omega), (Cnv.FewTo.zero c), (Int.le_refl _), (Int.le_refl _)⟩ (ent_rep ⟨rfl, slot_av (av_int (show 0 = c.cnt (0 : Int).toNat by rfl)), slot_av (av_int (show 0 = (0 : Int) by rfl)), trivial⟩ rfl) ?_
 rintro i ⟨h0, h1, hf, hc0, hc1⟩
 show Ent _ ⟨_, [_]⟩ _
 refine ent_seq fun _ K8 => ?_
 refine esr rfl fun _ K9 => ?_
 refine ent_o rfl (ok_fieldAddrEx runUnderlying27 rfl sizeOf25 (by decide) rfl) ?_
 refine ent_o rfl (ok_loadB (k := 0) isAgg25 rfl rfl rfl) ?_
 refine ent_o rfl (ok_len rfl runUnderlying25 rfl) ?_
 refine ent_o rfl (ok_lss rfl rfl) ?_
 refine enk K9 ?_
 refine ent_condD rfl (fun h14 => ?_) (fun h14 => ?_)
 ·have ek : c.k = (c.Gen.length : Int) := rfl
  refine esp K8 ?_
  refine ent_seq fun _ K10 => ?_
  refine ent_block ?_
  refine ent_seq fun _ K11 => ?_
  refine esr rfl fun _ K12 => ?_
  refine ent_o rfl (ok_fieldAddrEx runUnderlying27 rfl sizeOf25 (by decide) rfl) ?_
  refine ent_o rfl (ok_loadB (k := 0) isAgg25 rfl rfl rfl) ?_
  refine emm rfl ?_
  refine ent_o rfl (ok_index [] sl25 rfl rfl (by omega) (by omega)) ?_
  refine ent_o rfl (ok_load ti42 rfl) ?_
  refine ent_o rfl (ok_len rfl runUnderlying42 rfl) ?_
  refine ent_o rfl (ok_gtr rfl rfl) ?_
  refine enk K12 ?_
  refine ent_condD rfl (fun h23 => ?_) (fun h23 => ?_)
  ·refine esk rfl ?_
   refine ent_ret ?_
   exact retR1 (.inr rfl) results16 (resr_tmp (res_cv rfl (cv_bool (by exact (decide_eq_false (fun h => by have := (h.1.2 _ (ix_mem [] c.Gen h0 h14)).1; omega)).symm))))
  refine esp K11 ?_
  refine esk rfl ?_
  refine ent_block ?_
  refine ent_loop (fun (j : Int) => (⟨[(1, aEx (.pointer (some ⟨b1_1, 0, none⟩))), (3, aInt (c.cnt i.toNat + Cnv.lens (ix [] c.Gen i) j.toNat)), (4, aInt i), (5, aInt j)], [oBox b1_1 27 [aInt c.F.P, aInt c.F.M, aSl 1 false aInt c.F.mod, aSl 1 false aRows c.Gen]]⟩ : St)) (fun (j : Int) => (0 ≤ j) ∧ (j ≤ (ix [] c.Gen i).length) ∧ (∀ p ∈ (ix [] c.Gen i).take j.toNat, (p.length : Int) ≤ 40) ∧ (0 ≤ Cnv.lens (ix [] c.Gen i) j.toNat) ∧ (Cnv.lens (ix [] c.Gen i) j.toNat ≤ 40 * j)) (fun (j : Int) => ((ix [] c.Gen i).length - j).toNat) 0 ⟨(by omega), (by omega), (by simp), (Int.le_refl _), (Int.le_refl _)⟩ (ent_rep ⟨rfl, slot_av (av_int (show c.cnt i.toNat = c.cnt i.toNat + Cnv.lens (ix [] c.Gen i) (0 : Int).toNat by simp [Cnv.lens])), rfl, slot_av (av_int (show 0 = (0 : Int) by rfl)), trivial⟩ rfl) ?_
  rintro j ⟨j0, j1, jp, jl0, jl1⟩
  show Ent _ ⟨_, [_]⟩ _
  refine ent_seq fun _ K15 => ?_
  refine esr rfl fun _ K16 => ?_
  refine ent_o rfl (ok_fieldAddrEx runUnderlying27 rfl sizeOf25 (by decide) rfl) ?_
  refine ent_o rfl (ok_loadB (k := 0) isAgg25 rfl rfl rfl) ?_
  refine emm rfl ?_
  refine ent_o rfl (ok_index [] sl25 rfl rfl (by omega) (by omega)) ?_
  refine ent_o rfl (ok_load ti42 rfl) ?_
  refine ent_o rfl (ok_len rfl runUnderlying42 rfl) ?_
  refine ent_o rfl (ok_lss rfl rfl) ?_
  refine enk K16 ?_
  refine ent_condD rfl (fun h31 => ?_) (fun h31 => ?_)
  ·have hls := Cnv.lens_succ (ix [] c.Gen i) j0
   refine esp K15 ?_
   refine ent_seq fun _ K17 => ?_
   refine ent_block ?_
   refine ent_seq fun _ K18 => ?_
   refine esr rfl fun _ K19 => ?_
   refine ent_o rfl (ok_fieldAddrEx runUnderlying27 rfl sizeOf25 (by decide) rfl) ?_
   refine ent_o rfl (ok_loadB (k := 0) isAgg25 rfl rfl rfl) ?_
   refine emm rfl ?_
   refine ent_o rfl (ok_index [] sl25 rfl rfl (by omega) (by omega)) ?_
   refine ent_o rfl (ok_load ti42 rfl) ?_
   refine emm rfl ?_
   refine ent_o rfl (ok_index [] sl42 rfl rfl (by omega) (by omega)) ?_
   refine ent_o rfl (ok_load ti22 rfl) ?_
   refine ent_o rfl (ok_len rfl runUnderlying22 rfl) ?_
   refine ent_o rfl (ok_gtr rfl rfl) ?_
   refine enk K19 ?_
   refine ent_condD rfl (fun h43 => ?_) (fun h43 => ?_)
   ·refine esk rfl ?_
    refine ent_ret ?_
    exact retR1 (.inr rfl) results16 (resr_tmp (res_cv rfl (cv_bool (by exact (decide_eq_false (fun h => by have := (h.1.2 _ (ix_mem [] c.Gen h0 h14)).2 _ (ix_mem [] (ix [] c.Gen i) j0 h31); omega)).symm))))
   refine esp K18 ?_
   refine ent_region ?_
   refine emm rfl ?_
   refine ent_o rfl (ok_fieldAddrEx runUnderlying27 rfl sizeOf25 (by decide) rfl) ?_
   refine ent_o rfl (ok_loadB (k := 0) isAgg25 rfl rfl rfl) ?_
   refine emm rfl ?_
   refine ent_o rfl (ok_index [] sl25 rfl rfl (by omega) (by omega)) ?_
   refine ent_o rfl (ok_load ti42 rfl) ?_
   refine emm rfl ?_
   refine ent_o rfl (ok_index [] sl42 rfl rfl (by omega) (by omega)) ?_
   refine ent_o rfl (ok_load ti22 rfl) ?_
   refine ent_o rfl (ok_len rfl runUnderlying22 rfl) ?_
   refine ent_o rfl (ok_add rfl rfl (by omega) (by omega)) ?_
   refine emm rfl ?_
   refine enk K17 ?_
   refine ent_region ?_
   refine emm rfl ?_
   refine ent_o rfl (ok_add rfl rfl (by omega) (by omega)) ?_
   refine emm rfl ?_
   refine ent_nil ?_
   refine ent_again (s := (j)) (j + 1) ⟨(by omega), ‹_›, (Cnv.short_poly jp j0 h31 (by omega)), (by rw [hls]; omega), (by rw [hls]; omega)⟩ (by omega) (ent_rep ⟨rfl, slot_av (av_int (show (c.cnt i.toNat + Cnv.lens (ix [] c.Gen i) j.toNat) + (↑(ix [] (ix [] c.Gen i) j).length : Int) = c.cnt i.toNat + Cnv.lens (ix [] c.Gen i) (j + 1).toNat by rw [hls]; omega)), rfl, rfl, trivial⟩ rfl)
  have hal : ∀ p ∈ (ix [] c.Gen i), (p.length : Int) ≤ 40 := by rw [List.take_of_length_le (by omega)] at jp; exact jp
  have hcs := c.cnt_succ h0
  have hll := Cnv.lens_le (ix [] c.Gen i) hal (ix [] c.Gen i).length (Nat.le_refl _)
  refine ent_exit ?_
  refine ent_k K10 ?_
  refine ent_region ?_
  refine emm rfl ?_
  refine ent_o rfl (ok_add rfl rfl (by omega) (by omega)) ?_
  refine emm rfl ?_
  refine ent_nil ?_
  refine ent_again (s := (i)) (i + 1) ⟨(by omega), ‹_›, (hf.succ h0 h14 (by omega) hal), (by rw [hcs]; omega), (by rw [hcs]; omega)⟩ (by omega) (ent_rep ⟨rfl, slot_av (av_int (show c.cnt i.toNat + Cnv.lens (ix [] c.Gen i) j.toNat = c.cnt (i + 1).toNat by rw [hcs, show j.toNat = (ix [] c.Gen i).length by omega])), rfl, trivial⟩ rfl)
 refine ent_exit ?_
 refine ent_k K6 ?_
 refine esr rfl fun _ K21 => ?_
 refine ent_o rfl (ok_leq rfl rfl) ?_
 refine emm rfl ?_
 refine enk K21 ?_
 refine ent_ret ?_
 exact retR1 (.inr rfl) results16 (resr_tmp (res_cv rfl (cv_bool (by exact decide_eq_decide.2 ⟨fun h => ⟨hf.all (by unfold Cnv.k; omega) (by unfold Cnv.k; omega), by rw [show c.Gen.length = i.toNat by omega]; exact h⟩, fun h => by rw [show i.toNat = c.Gen.length by omega]; exact h.2⟩))))

theorem rCnvCheck_ok (c : Cnv) (hFew : c.Few) : Ctr Try.prog 18 [aCnv c] (aInt c.err) := by
 have ek : c.k = (c.Gen.length : Int) := rfl
 have en : c.n = ((ix [] c.Gen 0).length : Int) := rfl
 have hf1 := hFew.1
 refine ctr_of Try.call18 func18 rfl rfl ?_
 intro w O
 refine ent_lenC 0 2 rfl rfl (fun hlen0_2 => ?_)
 refine ent_lenC 0 3 rfl rfl (fun hlen0_3 => ?_)
 refine esr rfl fun _ K1 => ?_
 refine ent_boxS rfl rfl (AllOne.mem ⟨(one_int _), (one_int _), one_sl, one_sl, trivial⟩) (fun b1_1 => ?_)
 refine emm rfl ?_
 refine enk K1 ?_
 refine ent_seq fun _ K2 => ?_
 refine esr rfl fun _ K3 => ?_
 refine ent_o rfl (ok_fieldAddrEx runUnderlying27 rfl sizeOf24 (by decide) rfl) ?_
 refine ent_o rfl (ok_loadBS (k := 0) ti24 rfl rfl rfl) ?_
 refine ent_o rfl (ok_call (rCheck_ok c.F) rfl) ?_
 refine ent_o rfl (ok_neq rfl rfl) ?_
 refine enk K3 ?_
 refine ent_condD rfl (fun h12 => ?_) (fun h12 => ?_)
 ·refine esk rfl ?_
  refine ent_ret ?_
  exact retR1 (.inr rfl) results18 (resr_tmp (res_cv rfl (cv_int (by exact (Cnv.err_1 (fun h => h12 (fErr_ok h))).symm))))
 have hF : FOk c.F := fErr_zero.1 (Classical.not_not.1 h12)
 have hqb := hF.1.bd
 refine esp K2 ?_
 refine ent_seq fun _ K5 => ?_
 refine ent_seq fun _ K6 => ?_
 refine ent_cut (⟨[(1, aEx (.pointer (some ⟨b1_1, 0, none⟩))), (24, aBool (decide (((↑c.Gen.length : Int) = 0) ∨ ((↑(ix [] c.Gen 0).length : Int) = 0))))], [oBox b1_1 27 [aInt c.F.P, aInt c.F.M, aSl 1 false aInt c.F.mod, aSl 1 false aRows c.Gen]]⟩) ?_ ?_
 ·refine ent_region ?_
  refine ent_o rfl (ok_fieldAddrEx runUnderlying27 rfl sizeOf25 (by decide) rfl) ?_
  refine ent_o rfl (ok_loadB (k := 0) isAgg25 rfl rfl rfl) ?_
  refine ent_o rfl (ok_len rfl runUnderlying25 rfl) ?_
  refine ent_o rfl (ok_eql rfl rfl) ?_
  refine emm rfl ?_
  refine ent_guardXDf rfl rfl rfl rfl (fun hg17 => ?_) (fun hg17 => ?_)
  ·refine ent_o rfl (ok_fieldAddrEx runUnderlying27 rfl sizeOf25 (by decide) rfl) ?_
   refine ent_guardXT rfl rfl rfl rfl (decide_eq_false hg17) ?_
   refine ent_o rfl (ok_loadB (k := 0) isAgg25 rfl rfl rfl) ?_
   refine ent_guardXT rfl rfl rfl rfl (decide_eq_false hg17) ?_
   refine ent_o rfl (ok_index [] sl25 rfl rfl (by omega) (by omega)) ?_
   refine ent_guardXT rfl rfl rfl rfl (decide_eq_false hg17) ?_
   refine ent_o rfl (ok_load ti42 rfl) ?_
   refine ent_guardXT rfl rfl rfl rfl (decide_eq_false hg17) ?_
   refine ent_o rfl (ok_len rfl runUnderlying42 rfl) ?_
   refine ent_guardXT rfl rfl rfl rfl (decide_eq_false hg17) ?_
   refine ent_o rfl (ok_eql rfl rfl) ?_
   refine ent_o rfl (ok_pickF rfl (decide_eq_false hg17) rfl) ?_
   refine ent_nil ?_
   exact ent_rep ⟨rfl, slot_bool (dq_Q ((or_iff_right hg17).trans Iff.rfl)), trivial⟩ rfl
  refine ent_guardXF rfl rfl rfl rfl (decide_eq_true hg17) ?_
  refine ent_guardXF rfl rfl rfl rfl (decide_eq_true hg17) ?_
  refine ent_guardXF rfl rfl rfl rfl (decide_eq_true hg17) ?_
  refine ent_guardXF rfl rfl rfl rfl (decide_eq_true hg17) ?_
  refine ent_guardXF rfl rfl rfl rfl (decide_eq_true hg17) ?_
  refine ent_o rfl (ok_pickT rfl (decide_eq_true hg17) rfl) ?_
  refine ent_nil ?_
  exact ent_rep ⟨rfl, slot_bool (dq_T rfl (Or.inl hg17)), trivial⟩ rfl
 refine ent_k K6 ?_
 refine ent_condD rfl (fun h24 => ?_) (fun h24 => ?_)
 ·refine esk rfl ?_
  refine ent_ret ?_
  exact retR1 (.inr rfl) results18 (resr_tmp (res_cv rfl (cv_int (by exact (Cnv.err_3 hF (by unfold Cnv.badShape; omega)).symm))))
 refine esp K5 ?_
 refine ent_seq fun _ K8 => ?_
 refine esk rfl ?_
 refine ent_block ?_
 refine ent_loop (fun (z : Int) => (⟨[(1, aEx (.pointer (some ⟨b1_1, 0, none⟩))), (3, aInt z)], [oBox b1_1 27 [aInt c.F.P, aInt c.F.M, aSl 1 false aInt c.F.mod, aSl 1 false aRows c.Gen]]⟩ : St)) (fun (z : Int) => (0 ≤ z) ∧ (z ≤ c.Gen.length) ∧ (c.RowsTo z)) (fun (z : Int) => (c.Gen.length - z).toNat) 0 ⟨(by omega), (by omega), (Cnv.RowsTo.zero c)⟩ (ent_rep ⟨rfl, slot_av (av_int (show 0 = (0 : Int) by rfl)), trivial⟩ rfl) ?_
 rintro z ⟨z0, z1, zr⟩
 show Ent _ ⟨_, [_]⟩ _
 refine ent_seq fun _ K10 => ?_
 refine esr rfl fun _ K11 => ?_
 refine ent_o rfl (ok_fieldAddrEx runUnderlying27 rfl sizeOf25 (by decide) rfl) ?_
 refine ent_o rfl (ok_loadB (k := 0) isAgg25 rfl rfl rfl) ?_
 refine ent_o rfl (ok_len rfl runUnderlying25 rfl) ?_
 refine ent_o rfl (ok_lss rfl rfl) ?_
 refine enk K11 ?_
 refine ent_condD rfl (fun h29 => ?_) (fun h29 => ?_)
 ·refine esp K10 ?_
  refine ent_seq fun _ K12 => ?_
  refine ent_block ?_
  refine ent_seq fun _ K13 => ?_
  refine ent_draw 12 mixed (by kernel_rfl) (by kernel_rfl) (by kernel_rfl) ?_
  refine dw_o rfl (ok_fieldAddrEx runUnderlying27 rfl sizeOf25 (by decide) rfl) ?_
  refine dw_o rfl (ok_loadB (k := 0) isAgg25 rfl rfl rfl) ?_
  refine dw_o rfl (ok_move rfl) ?_
  refine dw_o rfl (ok_index [] sl25 rfl rfl (by omega) (by omega)) ?_
  refine dw_o rfl (ok_load ti42 rfl) ?_
  refine dw_o rfl (ok_len rfl runUnderlying42 rfl) ?_
  refine dw_o rfl (ok_fieldAddrEx runUnderlying27 rfl sizeOf25 (by decide) rfl) ?_
  refine dw_o rfl (ok_loadB (k := 0) isAgg25 rfl rfl rfl) ?_
  refine dw_o rfl (ok_index [] sl25 rfl rfl (by omega) (by omega)) ?_
  refine dw_o rfl (ok_load ti42 rfl) ?_
  refine dw_o rfl (ok_len rfl runUnderlying42 rfl) ?_
  refine dw_o rfl (ok_neq rfl rfl) ?_
  refine dw_nil ?_
  refine enk K13 ?_
  refine ent_condD rfl (fun h43 => ?_) (fun h43 => ?_)
  ·refine esk rfl ?_
   refine ent_ret ?_
   exact retR1 (.inr rfl) results18 (resr_tmp (res_cv rfl (cv_int (by exact (Cnv.err_3 hF (Cnv.badShape_row z0 h29 h43)).symm))))
  refine esp K12 ?_
  refine ent_region ?_
  refine emm rfl ?_
  refine ent_o rfl (ok_add rfl rfl (by omega) (by omega)) ?_
  refine emm rfl ?_
  refine ent_nil ?_
  refine ent_again (s := (z)) (z + 1) ⟨(by omega), ‹_›, (zr.succ z0 h29 (Classical.not_not.1 h43))⟩ (by omega) (ent_rep ⟨rfl, rfl, trivial⟩ rfl)
 refine ent_exit ?_
 refine ent_k K8 ?_
 refine ent_seq fun _ K15 => ?_
 refine ent_seq fun _ K16 => ?_
 refine ent_draw 9 mixed (by kernel_rfl) (by kernel_rfl) (by kernel_rfl) ?_
 refine dw_o rfl (ok_fieldAddrEx runUnderlying27 rfl sizeOf25 (by decide) rfl) ?_
 refine dw_o rfl (ok_loadB (k := 0) isAgg25 rfl rfl rfl) ?_
 refine dw_o rfl (ok_len rfl runUnderlying25 rfl) ?_
 refine dw_o rfl (ok_fieldAddrEx runUnderlying27 rfl sizeOf25 (by decide) rfl) ?_
 refine dw_o rfl (ok_loadB (k := 0) isAgg25 rfl rfl rfl) ?_
 refine dw_o rfl (ok_index [] sl25 rfl rfl (by omega) (by omega)) ?_
 refine dw_o rfl (ok_load ti42 rfl) ?_
 refine dw_o rfl (ok_len rfl runUnderlying42 rfl) ?_
 refine dw_o rfl (ok_gtr rfl rfl) ?_
 refine dw_nil ?_
 refine enk K16 ?_
 refine ent_condD rfl (fun h52 => ?_) (fun h52 => ?_)
 ·refine esk rfl ?_
  refine ent_ret ?_
  exact retR1 (.inr rfl) results18 (resr_tmp (res_cv rfl (cv_int (by exact (Cnv.err_3 hF (by unfold Cnv.badShape; omega)).symm))))
 have hsh : ¬ c.badShape := zr.shape (by omega) (by omega) (by omega) (by omega)
 refine esp K15 ?_
 refine ent_seq fun _ K18 => ?_
 refine esr rfl fun _ K19 => ?_
 refine ent_o rfl (ok_fieldAddrEx runUnderlying27 rfl sizeOf25 (by decide) rfl) ?_
 refine ent_o rfl (ok_loadB (k := 0) isAgg25 rfl rfl rfl) ?_
 refine ent_o rfl (ok_index [] sl25 rfl rfl (by omega) (by omega)) ?_
 refine ent_o rfl (ok_load ti42 rfl) ?_
 refine ent_o rfl (ok_len rfl runUnderlying42 rfl) ?_
 refine ent_o rfl (ok_gtr rfl rfl) ?_
 refine enk K19 ?_
 refine ent_condD rfl (fun h58 => ?_) (fun h58 => ?_)
 ·refine esk rfl ?_
  refine ent_ret ?_
  exact retR1 (.inr rfl) results18 (resr_tmp (res_cv rfl (cv_int (by exact (Cnv.err_4 hF hsh (by omega)).symm))))
 refine esp K18 ?_
 refine esk rfl ?_
 refine ent_seq fun _ K22 => ?_
 refine esk rfl ?_
 refine ent_block ?_
 refine ent_loop (fun (i : Int) => (⟨[(1, aEx (.pointer (some ⟨b1_1, 0, none⟩))), (4, aInt 1), (5, aInt i)], [oBox b1_1 27 [aInt c.F.P, aInt c.F.M, aSl 1 false aInt c.F.mod, aSl 1 false aRows c.Gen]]⟩ : St)) (fun (i : Int) => (0 ≤ i) ∧ (i ≤ c.Gen.length) ∧ (c.EltTo i)) (fun (i : Int) => (c.Gen.length - i).toNat) 0 ⟨(by omega), (by omega), (Cnv.EltTo.zero c)⟩ (ent_rep ⟨rfl, rfl, slot_av (av_int (show 0 = (0 : Int) by rfl)), trivial⟩ rfl) ?_
 rintro i ⟨h0, h1, he⟩
 show Ent _ ⟨_, [_]⟩ _
 refine ent_seq fun _ K24 => ?_
 refine esr rfl fun _ K25 => ?_
 refine ent_o rfl (ok_fieldAddrEx runUnderlying27 rfl sizeOf25 (by decide) rfl) ?_
 refine ent_o rfl (ok_loadB (k := 0) isAgg25 rfl rfl rfl) ?_
 refine ent_o rfl (ok_len rfl runUnderlying25 rfl) ?_
 refine ent_o rfl (ok_lss rfl rfl) ?_
 refine enk K25 ?_
 refine ent_condD rfl (fun h63 => ?_) (fun h63 => ?_)
 ·have hr70 := (hFew.2 _ (ix_mem [] c.Gen h0 (by omega))).1
  refine esp K24 ?_
  refine ent_seq fun _ K26 => ?_
  refine ent_block ?_
  refine esk rfl ?_
  refine ent_block ?_
  refine ent_loop (fun (j : Int) => (⟨[(1, aEx (.pointer (some ⟨b1_1, 0, none⟩))), (4, aInt 1), (5, aInt i), (6, aInt j)], [oBox b1_1 27 [aInt c.F.P, aInt c.F.M, aSl 1 false aInt c.F.mod, aSl 1 false aRows c.Gen]]⟩ : St)) (fun (j : Int) => (0 ≤ j) ∧ (j ≤ (ix [] c.Gen i).length) ∧ (Cnv.PolTo c.F (ix [] c.Gen i) j)) (fun (j : Int) => ((ix [] c.Gen i).length - j).toNat) 0 ⟨(by omega), (by omega), (Cnv.PolTo.zero _ _)⟩ (ent_rep ⟨rfl, rfl, rfl, slot_av (av_int (show 0 = (0 : Int) by rfl)), trivial⟩ rfl) ?_
  rintro j ⟨j0, j1, jp⟩
  show Ent _ ⟨_, [_]⟩ _
  refine ent_seq fun _ K28 => ?_
  refine esr rfl fun _ K29 => ?_
  refine ent_o rfl (ok_fieldAddrEx runUnderlying27 rfl sizeOf25 (by decide) rfl) ?_
  refine ent_o rfl (ok_loadB (k := 0) isAgg25 rfl rfl rfl) ?_
  refine emm rfl ?_
  refine ent_o rfl (ok_index [] sl25 rfl rfl (by omega) (by omega)) ?_
  refine ent_o rfl (ok_load ti42 rfl) ?_
  refine ent_o rfl (ok_len rfl runUnderlying42 rfl) ?_
  refine ent_o rfl (ok_lss rfl rfl) ?_
  refine enk K29 ?_
  refine ent_condD rfl (fun h73 => ?_) (fun h73 => ?_)
  ·refine esp K28 ?_
   refine ent_seq fun _ K30 => ?_
   refine ent_block ?_
   refine ent_seq fun _ K31 => ?_
   refine ent_draw 12 mixed (by kernel_rfl) (by kernel_rfl) (by kernel_rfl) ?_
   refine dw_o rfl (ok_fieldAddrEx runUnderlying27 rfl sizeOf24 (by decide) rfl) ?_
   refine dw_o rfl (ok_loadBS (k := 0) ti24 rfl rfl rfl) ?_
   refine dw_o rfl (ok_fieldAddrEx runUnderlying27 rfl sizeOf25 (by decide) rfl) ?_
   refine dw_o rfl (ok_loadB (k := 0) isAgg25 rfl rfl rfl) ?_
   refine dw_o rfl (ok_move rfl) ?_
   refine dw_o rfl (ok_index [] sl25 rfl rfl (by omega) (by omega)) ?_
   refine dw_o rfl (ok_load ti42 rfl) ?_
   refine dw_o rfl (ok_move rfl) ?_
   refine dw_o rfl (ok_index [] sl42 rfl rfl (by omega) (by omega)) ?_
   refine dw_o rfl (ok_load ti22 rfl) ?_
   refine dw_o rfl (ok_call (rEntries_ok c.F (ix [] (ix [] c.Gen i) j)) rfl) ?_
   refine dw_o rfl (ok_neq rfl rfl) ?_
   refine dw_nil ?_
   refine enk K31 ?_
   refine ent_condD rfl (fun h87 => ?_) (fun h87 => ?_)
   ·refine esk rfl ?_
    refine ent_ret ?_
    exact retR1 (.inr rfl) results18 (resr_tmp (res_cv rfl (cv_int (by exact (Cnv.err_2 hF hsh (by omega) (Cnv.badElt_at h0 h63 j0 h73 (by by_cases g : outF c.F (ix [] (ix [] c.Gen i) j); exact g; exact absurd (entErr_zero.2 g) h87))).symm))))
   refine esp K30 ?_
   refine ent_region ?_
   refine emm rfl ?_
   refine ent_o rfl (ok_add rfl rfl (by omega) (by omega)) ?_
   refine emm rfl ?_
   refine ent_nil ?_
   refine ent_again (s := (j)) (j + 1) ⟨(by omega), ‹_›, (jp.succ j0 h73 (entErr_zero.1 (Classical.not_not.1 h87)))⟩ (by omega) (ent_rep ⟨rfl, rfl, rfl, rfl, trivial⟩ rfl)
  refine ent_exit ?_
  refine ent_k K26 ?_
  refine ent_region ?_
  refine emm rfl ?_
  refine ent_o rfl (ok_add rfl rfl (by omega) (by omega)) ?_
  refine emm rfl ?_
  refine ent_nil ?_
  refine ent_again (s := (i)) (i + 1) ⟨(by omega), ‹_›, (he.succ h0 h63 jp (by omega))⟩ (by omega) (ent_rep ⟨rfl, rfl, rfl, trivial⟩ rfl)
 have hel : ¬ c.badElt := he.all (by omega)
 refine ent_exit ?_
 refine ent_k K22 ?_
 refine ent_seq fun _ K33 => ?_
 refine esk rfl ?_
 refine ent_block ?_
 refine ent_loop (fun (u : Int) => (⟨[(1, aEx (.pointer (some ⟨b1_1, 0, none⟩))), (4, aInt (c.F.q ^ (u + c.sumD u.toNat).toNat)), (7, aInt u)], [oBox b1_1 27 [aInt c.F.P, aInt c.F.M, aSl 1 false aInt c.F.mod, aSl 1 false aRows c.Gen]]⟩ : St)) (fun (u : Int) => (0 ≤ u) ∧ (u ≤ c.Gen.length) ∧ (c.F.q ^ (u + c.sumD u.toNat).toNat ≤ 65536)) (fun (u : Int) => (c.Gen.length - u).toNat) 0 ⟨(by omega), (by omega), (by simp [Cnv.sumD])⟩ (ent_rep ⟨rfl, slot_av (av_int (show 1 = c.F.q ^ ((0 : Int) + c.sumD (0 : Int).toNat).toNat by simp [Cnv.sumD])), slot_av (av_int (show 0 = (0 : Int) by rfl)), trivial⟩ rfl) ?_
 rintro u ⟨u0, u1, us⟩
 show Ent _ ⟨_, [_]⟩ _
 refine ent_seq fun _ K35 => ?_
 refine esr rfl fun _ K36 => ?_
 refine ent_o rfl (ok_fieldAddrEx runUnderlying27 rfl sizeOf25 (by decide) rfl) ?_
 refine ent_o rfl (ok_loadB (k := 0) isAgg25 rfl rfl rfl) ?_
 refine ent_o rfl (ok_len rfl runUnderlying25 rfl) ?_
 refine ent_o rfl (ok_lss rfl rfl) ?_
 refine enk K36 ?_
 refine ent_condD rfl (fun h92 => ?_) (fun h92 => ?_)
 ·have hdn := c.deg_nonneg u
  have hdl := hFew.deg_le u u0 (by omega)
  have hsn := c.sumD_nonneg u.toNat
  have hdp := c.deg_part u0 (show u < c.Gen.length by omega)
  refine esp K35 ?_
  refine ent_seq fun _ K37 => ?_
  refine ent_block ?_
  refine esk rfl ?_
  refine ent_block ?_
  refine ent_loop (fun (d : Int) => (⟨[(1, aEx (.pointer (some ⟨b1_1, 0, none⟩))), (4, aInt (c.F.q ^ (u + c.sumD u.toNat + d).toNat)), (7, aInt u), (8, aInt d)], [oBox b1_1 27 [aInt c.F.P, aInt c.F.M, aSl 1 false aInt c.F.mod, aSl 1 false aRows c.Gen]]⟩ : St)) (fun (d : Int) => (0 ≤ d) ∧ (d ≤ c.deg u + 1) ∧ (c.F.q ^ (u + c.sumD u.toNat + d).toNat ≤ 65536)) (fun (d : Int) => (c.deg u + 1 - d).toNat) 0 ⟨(by omega), (by have := c.deg_nonneg u; omega), (by rw [show u + c.sumD u.toNat + 0 = u + c.sumD u.toNat by omega]; exact us)⟩ (ent_rep ⟨rfl, slot_av (av_int (show c.F.q ^ (u + c.sumD u.toNat).toNat = c.F.q ^ (u + c.sumD u.toNat + (0 : Int)).toNat by rw [show u + c.sumD u.toNat + 0 = u + c.sumD u.toNat by omega])), rfl, slot_av (av_int (show 0 = (0 : Int) by rfl)), trivial⟩ rfl) ?_
  rintro d ⟨d0, d1, ds⟩
  show Ent _ ⟨_, [_]⟩ _
  refine ent_seq fun _ K39 => ?_
  refine esr rfl fun _ K40 => ?_
  refine ent_o rfl (ok_loadBS (k := 0) ti27 rfl rfl rfl) ?_
  refine emm rfl ?_
  refine ent_o rfl (ok_call (rDegree_ok c u ‹_› ‹_›) rfl) ?_
  refine ent_o rfl (ok_leq rfl rfl) ?_
  refine enk K40 ?_
  refine ent_condD rfl (fun h99 => ?_) (fun h99 => ?_)
  ·have hsq := pow_succ_toNat c.F.q (u + c.sumD u.toNat + d) (by omega)
   rw [show u + c.sumD u.toNat + d + 1 = u + c.sumD u.toNat + (d + 1) by omega] at hsq
   have hpo := pow_pos_of c.F.q hqb.2.2.2.2.2.1 (u + c.sumD u.toNat + d).toNat
   have hmm : 0 ≤ c.F.q ^ (u + c.sumD u.toNat + d).toNat * c.F.q ∧ c.F.q ^ (u + c.sumD u.toNat + d).toNat * c.F.q ≤ 65536 * 256 := ⟨Int.mul_nonneg (by omega) (by omega), Int.mul_le_mul ds (by omega) (by omega) (by omega)⟩
   have hpp := Cnv.pow_part (c := c) hqb.2.2.2.2.2.1 (e := u + c.sumD u.toNat + (d + 1)) (by unfold Cnv.total; omega)
   refine esp K39 ?_
   refine ent_seq fun _ K41 => ?_
   refine ent_block ?_
   refine esr rfl fun _ K42 => ?_
   refine ent_o rfl (ok_fieldAddrEx runUnderlying27 rfl sizeOf24 (by decide) rfl) ?_
   refine ent_o rfl (ok_loadBS (k := 0) ti24 rfl rfl rfl) ?_
   refine ent_o rfl (ok_call (rOrder_ok c.F) rfl) ?_
   refine ent_o rfl (ok_mul rfl rfl (by omega) (by omega)) ?_
   refine emm rfl ?_
   refine enk K42 ?_
   refine esr rfl fun _ K43 => ?_
   refine ent_o rfl (ok_gtr rfl rfl) ?_
   refine enk K43 ?_
   refine ent_condD rfl (fun h108 => ?_) (fun h108 => ?_)
   ·refine esk rfl ?_
    refine ent_ret ?_
    exact retR1 (.inr rfl) results18 (resr_tmp (res_cv rfl (cv_int (by exact (Cnv.err_8 hF hsh (by omega) hel (by unfold Cnv.big; omega)).symm))))
   refine esp K41 ?_
   refine ent_region ?_
   refine emm rfl ?_
   refine ent_o rfl (ok_add rfl rfl (by omega) (by omega)) ?_
   refine emm rfl ?_
   refine ent_nil ?_
   refine ent_again (s := (d)) (d + 1) ⟨(by omega), (by omega), (by rw [hsq]; omega)⟩ (by omega) (ent_rep ⟨rfl, slot_av (av_int (show (c.F.q ^ (u + c.sumD u.toNat + d).toNat) * c.F.q = c.F.q ^ (u + c.sumD u.toNat + (d + 1)).toNat by rw [hsq])), rfl, rfl, trivial⟩ rfl)
  have hsu : c.F.q ^ (u + 1 + c.sumD (u + 1).toNat).toNat = c.F.q ^ (u + c.sumD u.toNat + d).toNat := by rw [c.sumD_succ u0, show u + 1 + (c.sumD u.toNat + c.deg u) = u + c.sumD u.toNat + d by omega]
  refine ent_exit ?_
  refine ent_k K37 ?_
  refine ent_region ?_
  refine emm rfl ?_
  refine ent_o rfl (ok_add rfl rfl (by omega) (by omega)) ?_
  refine emm rfl ?_
  refine ent_nil ?_
  refine ent_again (s := (u)) (u + 1) ⟨(by omega), ‹_›, (by rw [hsu]; exact ds)⟩ (by omega) (ent_rep ⟨rfl, slot_av (av_int (show c.F.q ^ (u + c.sumD u.toNat + d).toNat = c.F.q ^ ((u + 1) + c.sumD (u + 1).toNat).toNat by rw [hsu])), rfl, trivial⟩ rfl)
 have hnb : ¬ c.big := by unfold Cnv.big Cnv.total; rw [show c.k = u by omega, show c.Gen.length = u.toNat by omega]; omega
 refine ent_exit ?_
 refine ent_k K33 ?_
 refine esk rfl ?_
 refine ent_ret ?_
 exact retR1 (.inr rfl) results18 (resr_tmp (res_cv rfl (cv_int (by exact (Cnv.err_zero.2 ⟨hF, hsh, by omega, hel, hnb⟩).symm))))
end Go.Proofs.Ytfjhbdfgbpcchaa

