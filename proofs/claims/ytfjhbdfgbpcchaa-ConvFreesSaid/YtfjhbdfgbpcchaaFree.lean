/-
  Free.
-/
import Derived.Test.YtfjhbdfgbpcchaaProg
import Derived.Test.YtfjhbdfgbpcchaaTab
import Derived.Test.YtfjhbdfgbpcchaaCy
import Derived.Test.YtfjhbdfgbpcchaaPlainFr
import Derived.Test.YtfjhbdfgbpcchaaFieldA
import Derived.Test.YtfjhbdfgbpcchaaFieldB
import Derived.Test.YtfjhbdfgbpcchaaFieldC
import Derived.Test.YtfjhbdfgbpcchaaFieldE
import Derived.Test.YtfjhbdfgbpcchaaPoly
import Derived.Test.YtfjhbdfgbpcchaaBuild
import Derived.Test.YtfjhbdfgbpcchaaRefC
import Derived.Test.YtfjhbdfgbpcchaaStep
import Derived.Test.YtfjhbdfgbpcchaaRefN
import Derived.Test.YtfjhbdfgbpcchaaEncode
import Derived.Test.YtfjhbdfgbpcchaaTerm
import Derived.Test.YtfjhbdfgbpcchaaAdd
import Derived.Test.YtfjhbdfgbpcchaaDigits
import Derived.Test.YtfjhbdfgbpcchaaEdges
import Derived.Test.YtfjhbdfgbpcchaaReach
import Derived.Test.YtfjhbdfgbpcchaaAccept
import Derived.Test.YtfjhbdfgbpcchaaLeast
open Go Go.Cw
namespace Go.Proofs.Ytfjhbdfgbpcchaa
set_option maxRecDepth 100000
set_option linter.unusedVariables false
set_option linter.unusedSimpArgs false
set_option maxHeartbeats 2000000 in
theorem Free_ok (c : Cnv) (hFew : c.Few) (hOk : c.Ok) : Ctr Try.prog 35 [aCnv c] (aTup [aExi (fun (p : Cnv.Fp) => c.FreeOk p) (fun (p : Cnv.Fp) => aFp p), aInt 0]) := by
  have hF := hOk.fld
  have hS := hF.1
  have hq := hS.bd
  have hq2 := hq.2.2.2.2.2.1
  have hik : c.k = (c.Gen.length : Int) := rfl
  have hen : c.n = ((ix [] c.Gen 0).length : Int) := rfl
  have hkn := hOk.kn
  have hnl := hOk.len
  have hi1 := Cnv.ins_pos (c := c) hq2
  have hsi := Cnv.states_ins hq2 hOk.small
  have hil := Cnv.ins_le hq2 hOk.small
  have hst := Cnv.states_le hq2 hOk.small
  have hf1 := hFew.1
  have hsn := Int.mul_nonneg (show 0 ≤ c.states by omega) (show 0 ≤ c.ins by omega)
  have hee : (c.eNxs.length : Int) = c.states * c.ins := by unfold Cnv.eNxs; rw [length_mapR]; omega
  have hew : (c.eWts.length : Int) = c.states * c.ins := by unfold Cnv.eWts; rw [length_mapR]; omega
  have hi2 := Cnv.ins_two hOk
  refine ctr_of Try.call35 Try.func35 rfl rfl ?_
  intro w O
  refine ent_lenC 0 2 rfl rfl (fun hlen0_2 => ?_)
  refine ent_lenC 0 3 rfl rfl (fun hlen0_3 => ?_)
  refine ent_seq fun K1 hK1 => ?_
  refine ent_region ?_
  refine ent_boxS rfl rfl (AllOne.mem ⟨(one_int _), (one_int _), one_sl, one_sl, trivial⟩) (fun b1_1 => ?_)
  refine ent_alloc (z := .agg #[.int .i64 0, .slice none 0 0, .slice none 0 0]) [aInt 0, aEx (.slice none 0 0), aEx (.slice none 0 0)] rfl zv55 rfl zc55 (fun b2_2 => ?_)
  refine ent_o rfl (ok_assign rfl) ?_
  refine ent_nil ?_
  refine ent_k hK1 ?_
  refine ent_seq fun K2 hK2 => ?_
  refine ent_region ?_
  refine ent_o rfl (ok_loadBS (k := 1) ti27 rfl rfl rfl) ?_
  refine ent_o rfl (ok_call (build_ok c (by first | rfl | assumption | omega | (simp_all; done) | grind) hOk) rfl) ?_
  refine ent_o rfl (ok_move rfl) ?_
  refine ent_o rfl (ok_extract rfl rfl) ?_
  refine ent_o rfl (ok_extract rfl rfl) ?_
  refine ent_o rfl (ok_assign rfl) ?_
  refine ent_o rfl (ok_assign rfl) ?_
  refine ent_nil ?_
  refine ent_k hK2 ?_
  refine ent_seq fun K3 hK3 => ?_
  refine ent_seq fun K4 hK4 => ?_
  refine ent_region ?_
  refine ent_o rfl (ok_move rfl) ?_
  refine ent_o rfl (ok_neq rfl rfl) ?_
  refine ent_nil ?_
  refine ent_k hK4 ?_
  refine ent_condFP rfl (by decide) ?_
  refine ent_skip ?_
  refine ent_k hK3 ?_
  refine ent_seq fun K5 hK5 => ?_
  refine ent_region ?_
  refine ent_o rfl (ok_move rfl) ?_
  refine ent_o rfl (ok_call (edges_ok c (by first | rfl | assumption | omega | (simp_all; done) | grind) (by first | rfl | assumption | omega | (simp_all; done) | grind)) rfl) ?_
  refine ent_alloc (z := .agg #[.int .i64 0, .slice none 0 0, .slice none 0 0]) [aInt 0, aEx (.slice none 0 0), aEx (.slice none 0 0)] rfl zv96 rfl zc96 (fun b6_3 => ?_)
  refine ent_storeBS (k := 0) Try.sizeOf96 rfl rfl rfl (AllOne.mem ⟨(one_int _), one_sl, one_sl, trivial⟩) rfl rfl ?_
  refine ent_nil ?_
  refine ent_k hK5 ?_
  refine ent_seq fun K6 hK6 => ?_
  refine ent_region ?_
  refine ent_o rfl (ok_move rfl) ?_
  refine ent_o rfl (ok_nilCheck rfl) ?_
  refine ent_o rfl (ok_fieldAddr1 Try.runUnderlying84 rfl Try.sizeOf3 rfl rfl) ?_
  refine ent_o rfl (ok_load ti3 rfl) ?_
  refine ent_make aInt 0 rfl vt22 rfl rfl (by omega) (by omega) (by omega) (fun _ _ => rfl) (AllV.mem ⟨rfl, trivial⟩) (fun b32_4 => ?_)
  refine ent_o rfl (ok_build st55 (As := [aInt 0, aEx (.slice none 0 0), aEx (.slice none 0 0)]) z55 (⟨2, 1, rfl, .inl ⟨rfl, _, rfl, (one_ex rfl), rfl, rfl⟩⟩)) ?_
  refine ent_alloc (z := .agg #[.int .i64 0, .slice none 0 0, .slice none 0 0]) [aInt 0, aEx (.slice none 0 0), aEx (.slice none 0 0)] rfl zv55 rfl zc55 (fun b7_5 => ?_)
  refine ent_storeBS (k := 0) Try.sizeOf55 rfl rfl rfl (AllOne.mem ⟨(one_int _), (one_ex rfl), (one_ex rfl), trivial⟩) rfl rfl ?_
  refine ent_nil ?_
  refine ent_k hK6 ?_
  refine ent_seq fun K7 hK7 => ?_
  refine ent_region ?_
  refine ent_o rfl (ok_move rfl) ?_
  refine ent_o rfl (ok_nilCheck rfl) ?_
  refine ent_o rfl (ok_fieldAddr1 Try.runUnderlying84 rfl Try.sizeOf3 rfl rfl) ?_
  refine ent_o rfl (ok_load ti3 rfl) ?_
  refine ent_make aInt 0 rfl vt22 rfl rfl (by omega) (by omega) (by omega) (fun _ _ => rfl) (AllV.mem ⟨rfl, trivial⟩) (fun b38_6 => ?_)
  refine ent_o rfl (ok_assign rfl) ?_
  refine ent_nil ?_
  refine ent_k hK7 ?_
  refine ent_seq fun K8 hK8 => ?_
  refine ent_seq fun K9 hK9 => ?_
  refine ent_region ?_
  refine ent_o rfl (ok_assign rfl) ?_
  refine ent_nil ?_
  refine ent_k hK9 ?_
  refine ent_block ?_
  refine ent_loop (fun (s : Int) => (⟨[(2, aEx (.pointer (some ⟨b2_2, 0, none⟩))), (4, aMach c), (6, aEx (.pointer (some ⟨b6_3, 0, none⟩))), (7, aEx (.pointer (some ⟨b7_5, 0, none⟩))), (8, aEx (vec (some b38_6) ((c.states).toNat) ((c.states).toNat))), (9, aInt s)], [oVec (some b38_6) ((c.states).toNat) 3 1 false aInt (List.replicate ((c.states).toNat) 0), oBox b7_5 55 [aInt 0, aEx (.slice none 0 0), aEx (vec (some b32_4) ((c.states).toNat) ((c.states).toNat))], oVec (some b32_4) ((c.states).toNat) 3 1 false aInt (fillR (fun ss => if ss = 0 then (0 : Int) else 2147483648) 0 c.states s), oBox b6_3 96 [aInt c.ins, aSl 1 false aInt c.eNxs, aSl 1 false aInt c.eWts], oBox b2_2 55 [aInt 0, aEx (.slice none 0 0), aEx (.slice none 0 0)], oBox b1_1 27 [aInt c.F.P, aInt c.F.M, aSl 1 false aInt c.F.mod, aSl 1 false aRows c.Gen]]⟩ : St)) (fun (s : Int) => (1 ≤ s) ∧ (s ≤ c.states)) (fun (s : Int) => (c.states - s).toNat) 1 ⟨(by first | rfl | assumption | omega | (simp_all; done) | grind), (by first | rfl | assumption | omega | (simp_all; done) | grind)⟩ (ent_rep ⟨rfl, rfl, rfl, rfl, rfl, slot_av (av_int (show 1 = (1 : Int) by first | rfl | assumption | omega | (simp_all; done) | grind)), trivial⟩ (own_cons (rfl) (own_cons (rfl) (own_cons (own_vec (show fillR (fun ss => if ss = 0 then (0 : Int) else 2147483648) 0 c.states (1 : Int) = List.replicate ((c.states).toNat) 0 by exact fill_first rfl (by omega))) (rfl))))) ?_
  rintro s ⟨s0, s1⟩
  show Ent _ (⟨[(2, aEx (.pointer (some ⟨b2_2, 0, none⟩))), (4, aMach c), (6, aEx (.pointer (some ⟨b6_3, 0, none⟩))), (7, aEx (.pointer (some ⟨b7_5, 0, none⟩))), (8, aEx (vec (some b38_6) ((c.states).toNat) ((c.states).toNat))), (9, aInt s)], [oVec (some b38_6) ((c.states).toNat) 3 1 false aInt (List.replicate ((c.states).toNat) 0), oBox b7_5 55 [aInt 0, aEx (.slice none 0 0), aEx (vec (some b32_4) ((c.states).toNat) ((c.states).toNat))], oVec (some b32_4) ((c.states).toNat) 3 1 false aInt (fillR (fun ss => if ss = 0 then (0 : Int) else 2147483648) 0 c.states s), oBox b6_3 96 [aInt c.ins, aSl 1 false aInt c.eNxs, aSl 1 false aInt c.eWts], oBox b2_2 55 [aInt 0, aEx (.slice none 0 0), aEx (.slice none 0 0)], oBox b1_1 27 [aInt c.F.P, aInt c.F.M, aSl 1 false aInt c.F.mod, aSl 1 false aRows c.Gen]]⟩ : St) _
  have lf : (fillR (fun ss => if ss = 0 then (0 : Int) else 2147483648) 0 c.states s).length = c.states.toNat := length_fillR _ _ (by omega) s1
  refine ent_seq fun K10 hK10 => ?_
  refine ent_seq fun K11 hK11 => ?_
  refine ent_region ?_
  refine ent_o rfl (ok_move rfl) ?_
  refine ent_o rfl (ok_move rfl) ?_
  refine ent_o rfl (ok_nilCheck rfl) ?_
  refine ent_o rfl (ok_fieldAddr1 Try.runUnderlying84 rfl Try.sizeOf3 rfl rfl) ?_
  refine ent_o rfl (ok_load ti3 rfl) ?_
  refine ent_o rfl (ok_lss rfl rfl) ?_
  refine ent_nil ?_
  refine ent_k hK11 ?_
  refine ent_condD rfl (fun h44 => ?_) (fun h44 => ?_)
  · refine ent_skip ?_
    refine ent_k hK10 ?_
    refine ent_seq fun K12 hK12 => ?_
    refine ent_block ?_
    refine ent_region ?_
    refine ent_o rfl (ok_fieldAddrEx Try.runUnderlying55 rfl Try.sizeOf22 (by decide) rfl) ?_
    refine ent_o rfl (ok_loadB (k := 1) Try.isAgg22 rfl rfl rfl) ?_
    refine ent_o rfl (ok_move rfl) ?_
    refine ent_o rfl (ok_indexV sl22 rfl rfl (by omega) (by omega)) ?_
    refine ent_storeV (k := 2) (z := 2147483648) ti3 rfl rfl rfl (elem_one (one_int _)) (by omega) (by omega) ?_
    refine ent_nil ?_
    refine ent_k hK12 ?_
    refine ent_region ?_
    refine ent_o rfl (ok_move rfl) ?_
    refine ent_o rfl (ok_add rfl rfl (by omega) (by omega)) ?_
    refine ent_o rfl (ok_assign rfl) ?_
    refine ent_nil ?_
    refine ent_again (s := (s)) (s + 1) ⟨(by first | rfl | assumption | omega | (simp_all; done) | grind), (by first | rfl | assumption | omega | (simp_all; done) | grind)⟩ (by first | omega | (dsimp only; omega)) (ent_rep ⟨rfl, rfl, rfl, rfl, rfl, rfl, trivial⟩ (own_cons (rfl) (own_cons (rfl) (own_cons (own_vec (show fillR (fun ss => if ss = 0 then (0 : Int) else 2147483648) 0 c.states (s + 1) = List.set (fillR (fun ss => if ss = 0 then (0 : Int) else 2147483648) 0 c.states s) (s).toNat 2147483648 by rw [← fillR_set (fun ss => if ss = 0 then (0 : Int) else 2147483648) 0 (by omega) (by omega), show (if s = 0 then (0 : Int) else 2147483648) = 2147483648 from if_neg (by omega)])) (rfl)))))
  · refine ent_exit ?_
    refine ent_k hK8 ?_
    refine ent_seq fun K13 hK13 => ?_
    refine ent_seq fun K14 hK14 => ?_
    refine ent_region ?_
    refine ent_o rfl (ok_assign rfl) ?_
    refine ent_nil ?_
    refine ent_k hK14 ?_
    refine ent_block ?_
    refine ent_loop (fun (ss : List Int × List Int × Bool) => match ss with | (l, b, ch) => (⟨[(2, aEx (.pointer (some ⟨b2_2, 0, none⟩))), (4, aMach c), (6, aEx (.pointer (some ⟨b6_3, 0, none⟩))), (7, aEx (.pointer (some ⟨b7_5, 0, none⟩))), (8, aEx (vec (some b38_6) ((c.states).toNat) ((c.states).toNat))), (10, aBool ch)], [oVec (some b38_6) ((c.states).toNat) 3 1 false aInt b, oBox b7_5 55 [aInt 0, aEx (.slice none 0 0), aEx (vec (some b32_4) ((c.states).toNat) ((c.states).toNat))], oVec (some b32_4) ((c.states).toNat) 3 1 false aInt l, oBox b6_3 96 [aInt c.ins, aSl 1 false aInt c.eNxs, aSl 1 false aInt c.eWts], oBox b2_2 55 [aInt 0, aEx (.slice none 0 0), aEx (.slice none 0 0)], oBox b1_1 27 [aInt c.F.P, aInt c.F.M, aSl 1 false aInt c.F.mod, aSl 1 false aRows c.Gen]]⟩ : St)) (fun (ss : List Int × List Int × Bool) => match ss with | (l, b, ch) => (c.PotOk 2147483648 l) ∧ (c.BstOk 2147483648 l b) ∧ (ch = true ∨ c.Feas l)) (fun (ss : List Int × List Int × Bool) => match ss with | (l, b, ch) => (sumI l).toNat + Cnv.sumB ch) (Cnv.pot0 2147483648 c.states, List.replicate c.states.toNat 0, true) ⟨(Cnv.PotOk.first (by omega) hq2), (Cnv.BstOk.first hq2), (.inl rfl)⟩ (ent_rep ⟨rfl, rfl, rfl, rfl, rfl, rfl, trivial⟩ (own_cons (own_vec (show (List.replicate c.states.toNat 0) = List.replicate ((c.states).toNat) 0 by first | rfl | (rw [fillR_all _ _ (by omega), show s = c.states by omega]; rfl))) (own_cons (rfl) (own_cons (own_vec (show (Cnv.pot0 2147483648 c.states) = fillR (fun ss => if ss = 0 then (0 : Int) else 2147483648) 0 c.states s by first | rfl | (rw [fillR_all _ _ (by omega), show s = c.states by omega]; rfl))) (rfl))))) ?_
    rintro ⟨l, b, ch⟩ ⟨hp, hb, hc⟩
    show Ent _ (⟨[(2, aEx (.pointer (some ⟨b2_2, 0, none⟩))), (4, aMach c), (6, aEx (.pointer (some ⟨b6_3, 0, none⟩))), (7, aEx (.pointer (some ⟨b7_5, 0, none⟩))), (8, aEx (vec (some b38_6) ((c.states).toNat) ((c.states).toNat))), (10, aBool ch)], [oVec (some b38_6) ((c.states).toNat) 3 1 false aInt b, oBox b7_5 55 [aInt 0, aEx (.slice none 0 0), aEx (vec (some b32_4) ((c.states).toNat) ((c.states).toNat))], oVec (some b32_4) ((c.states).toNat) 3 1 false aInt l, oBox b6_3 96 [aInt c.ins, aSl 1 false aInt c.eNxs, aSl 1 false aInt c.eWts], oBox b2_2 55 [aInt 0, aEx (.slice none 0 0), aEx (.slice none 0 0)], oBox b1_1 27 [aInt c.F.P, aInt c.F.M, aSl 1 false aInt c.F.mod, aSl 1 false aRows c.Gen]]⟩ : St) _
    refine ent_seq fun K15 hK15 => ?_
    refine ent_seq fun K16 hK16 => ?_
    refine ent_region ?_
    refine ent_o rfl (ok_move rfl) ?_
    refine ent_nil ?_
    refine ent_k hK16 ?_
    refine ent_cond rfl (fun h51 => ?_) (fun h51 => ?_)
    · refine ent_skip ?_
      refine ent_k hK15 ?_
      refine ent_block ?_
      refine ent_seq fun K17 hK17 => ?_
      refine ent_region ?_
      refine ent_o rfl (ok_assign rfl) ?_
      refine ent_nil ?_
      refine ent_k hK17 ?_
      refine ent_seq fun K18 hK18 => ?_
      refine ent_region ?_
      refine ent_o rfl (ok_assign rfl) ?_
      refine ent_nil ?_
      refine ent_k hK18 ?_
      refine ent_block ?_
      refine ent_loop (fun (ss : Int × List Int × List Int × Bool) => match ss with | (s, l1, b1, ch1) => (⟨[(2, aEx (.pointer (some ⟨b2_2, 0, none⟩))), (4, aMach c), (6, aEx (.pointer (some ⟨b6_3, 0, none⟩))), (7, aEx (.pointer (some ⟨b7_5, 0, none⟩))), (8, aEx (vec (some b38_6) ((c.states).toNat) ((c.states).toNat))), (10, aBool ch1), (11, aInt s)], [oVec (some b38_6) ((c.states).toNat) 3 1 false aInt b1, oBox b7_5 55 [aInt 0, aEx (.slice none 0 0), aEx (vec (some b32_4) ((c.states).toNat) ((c.states).toNat))], oVec (some b32_4) ((c.states).toNat) 3 1 false aInt l1, oBox b6_3 96 [aInt c.ins, aSl 1 false aInt c.eNxs, aSl 1 false aInt c.eWts], oBox b2_2 55 [aInt 0, aEx (.slice none 0 0), aEx (.slice none 0 0)], oBox b1_1 27 [aInt c.F.P, aInt c.F.M, aSl 1 false aInt c.F.mod, aSl 1 false aRows c.Gen]]⟩ : St)) (fun (ss : Int × List Int × List Int × Bool) => match ss with | (s, l1, b1, ch1) => (1 ≤ s) ∧ (s ≤ c.states) ∧ (c.PotOk 2147483648 l1) ∧ (c.BstOk 2147483648 l1 b1) ∧ (sumI l1 ≤ sumI l) ∧ (ch1 = true → sumI l1 < sumI l) ∧ (ch1 = false → c.Chk l1 s 0)) (fun (ss : Int × List Int × List Int × Bool) => match ss with | (s, l1, b1, ch1) => (c.states - s).toNat) (1, l, b, false) ⟨(by first | rfl | assumption | omega | (simp_all; done) | grind), (by first | rfl | assumption | omega | (simp_all; done) | grind), hp, hb, (Int.le_refl _), (fun h => by cases h), (fun _ => Cnv.Chk.first l)⟩ (ent_rep ⟨rfl, rfl, rfl, rfl, rfl, rfl, slot_av (av_int (show 1 = (1 : Int) by first | rfl | assumption | omega | (simp_all; done) | grind)), trivial⟩ rfl) ?_
      rintro ⟨s, l1, b1, ch1⟩ ⟨s0, s1, hp1, hb1, hs1, hg1, hk1⟩
      show Ent _ (⟨[(2, aEx (.pointer (some ⟨b2_2, 0, none⟩))), (4, aMach c), (6, aEx (.pointer (some ⟨b6_3, 0, none⟩))), (7, aEx (.pointer (some ⟨b7_5, 0, none⟩))), (8, aEx (vec (some b38_6) ((c.states).toNat) ((c.states).toNat))), (10, aBool ch1), (11, aInt s)], [oVec (some b38_6) ((c.states).toNat) 3 1 false aInt b1, oBox b7_5 55 [aInt 0, aEx (.slice none 0 0), aEx (vec (some b32_4) ((c.states).toNat) ((c.states).toNat))], oVec (some b32_4) ((c.states).toNat) 3 1 false aInt l1, oBox b6_3 96 [aInt c.ins, aSl 1 false aInt c.eNxs, aSl 1 false aInt c.eWts], oBox b2_2 55 [aInt 0, aEx (.slice none 0 0), aEx (.slice none 0 0)], oBox b1_1 27 [aInt c.F.P, aInt c.F.M, aSl 1 false aInt c.F.mod, aSl 1 false aRows c.Gen]]⟩ : St) _
      have hll1 := hp1.len
      have hbb1 := hb1.len
      refine ent_seq fun K19 hK19 => ?_
      refine ent_seq fun K20 hK20 => ?_
      refine ent_region ?_
      refine ent_o rfl (ok_move rfl) ?_
      refine ent_o rfl (ok_move rfl) ?_
      refine ent_o rfl (ok_nilCheck rfl) ?_
      refine ent_o rfl (ok_fieldAddr1 Try.runUnderlying84 rfl Try.sizeOf3 rfl rfl) ?_
      refine ent_o rfl (ok_load ti3 rfl) ?_
      refine ent_o rfl (ok_lss rfl rfl) ?_
      refine ent_nil ?_
      refine ent_k hK20 ?_
      refine ent_condD rfl (fun h57 => ?_) (fun h57 => ?_)
      · refine ent_skip ?_
        refine ent_k hK19 ?_
        refine ent_seq fun K21 hK21 => ?_
        refine ent_block ?_
        refine ent_seq fun K22 hK22 => ?_
        refine ent_region ?_
        refine ent_o rfl (ok_fieldAddrEx Try.runUnderlying96 rfl Try.sizeOf3 (by decide) rfl) ?_
        refine ent_o rfl (ok_loadB (k := 3) Try.isAgg3 rfl rfl rfl) ?_
        refine ent_o rfl (ok_move rfl) ?_
        refine ent_nil ?_
        refine ent_k hK22 ?_
        refine ent_block ?_
        refine ent_loop (fun (ss : Int × List Int × List Int × Bool) => match ss with | (x, l2, b2, ch2) => (⟨[(2, aEx (.pointer (some ⟨b2_2, 0, none⟩))), (4, aMach c), (6, aEx (.pointer (some ⟨b6_3, 0, none⟩))), (7, aEx (.pointer (some ⟨b7_5, 0, none⟩))), (8, aEx (vec (some b38_6) ((c.states).toNat) ((c.states).toNat))), (10, aBool ch2), (11, aInt s), (61, aInt c.ins), (62, aInt x)], [oVec (some b38_6) ((c.states).toNat) 3 1 false aInt b2, oBox b7_5 55 [aInt 0, aEx (.slice none 0 0), aEx (vec (some b32_4) ((c.states).toNat) ((c.states).toNat))], oVec (some b32_4) ((c.states).toNat) 3 1 false aInt l2, oBox b6_3 96 [aInt c.ins, aSl 1 false aInt c.eNxs, aSl 1 false aInt c.eWts], oBox b2_2 55 [aInt 0, aEx (.slice none 0 0), aEx (.slice none 0 0)], oBox b1_1 27 [aInt c.F.P, aInt c.F.M, aSl 1 false aInt c.F.mod, aSl 1 false aRows c.Gen]]⟩ : St)) (fun (ss : Int × List Int × List Int × Bool) => match ss with | (x, l2, b2, ch2) => (0 ≤ x) ∧ (x ≤ c.ins) ∧ (c.PotOk 2147483648 l2) ∧ (c.BstOk 2147483648 l2 b2) ∧ (sumI l2 ≤ sumI l) ∧ (ch2 = true → sumI l2 < sumI l) ∧ (ch2 = false → c.Chk l2 s x)) (fun (ss : Int × List Int × List Int × Bool) => match ss with | (x, l2, b2, ch2) => (c.ins - x).toNat) (0, l1, b1, ch1) ⟨(by first | rfl | assumption | omega | (simp_all; done) | grind), (by first | rfl | assumption | omega | (simp_all; done) | grind), hp1, hb1, hs1, hg1, hk1⟩ (ent_rep ⟨rfl, rfl, rfl, rfl, rfl, rfl, rfl, rfl, slot_av (av_int (show 0 = (0 : Int) by first | rfl | assumption | omega | (simp_all; done) | grind)), trivial⟩ rfl) ?_
        rintro ⟨x, l2, b2, ch2⟩ ⟨x0, x1, hp2, hb2, hs2, hg2, hk2⟩
        show Ent _ (⟨[(2, aEx (.pointer (some ⟨b2_2, 0, none⟩))), (4, aMach c), (6, aEx (.pointer (some ⟨b6_3, 0, none⟩))), (7, aEx (.pointer (some ⟨b7_5, 0, none⟩))), (8, aEx (vec (some b38_6) ((c.states).toNat) ((c.states).toNat))), (10, aBool ch2), (11, aInt s), (61, aInt c.ins), (62, aInt x)], [oVec (some b38_6) ((c.states).toNat) 3 1 false aInt b2, oBox b7_5 55 [aInt 0, aEx (.slice none 0 0), aEx (vec (some b32_4) ((c.states).toNat) ((c.states).toNat))], oVec (some b32_4) ((c.states).toNat) 3 1 false aInt l2, oBox b6_3 96 [aInt c.ins, aSl 1 false aInt c.eNxs, aSl 1 false aInt c.eWts], oBox b2_2 55 [aInt 0, aEx (.slice none 0 0), aEx (.slice none 0 0)], oBox b1_1 27 [aInt c.F.P, aInt c.F.M, aSl 1 false aInt c.F.mod, aSl 1 false aRows c.Gen]]⟩ : St) _
        have hll2 := hp2.len
        have hbb2 := hb2.len
        refine ent_seq fun K23 hK23 => ?_
        refine ent_region ?_
        refine ent_o rfl (ok_lss rfl rfl) ?_
        refine ent_nil ?_
        refine ent_k hK23 ?_
        refine ent_seq fun K24 hK24 => ?_
        refine ent_condD rfl (fun h63 => ?_) (fun h63 => ?_)
        · have hsm := Int.mul_le_mul_of_nonneg_right (show s + 1 ≤ c.states by omega) (show 0 ≤ c.ins by omega)
          rw [Int.add_mul, Int.one_mul] at hsm
          have hsm0 := Int.mul_nonneg (show 0 ≤ s by omega) (show 0 ≤ c.ins by omega)
          have hev : ix 0 c.eWts (s * c.ins + x) = c.wW s x := by rw [show ix 0 c.eWts (s * c.ins + x) = c.eWt (s * c.ins + x) from ix_mapR 0 _ (by omega) (by omega), Cnv.eWt_at hi1 x0 h63]; rfl
          have hen2 : ix 0 c.eNxs (s * c.ins + x) = c.nN s x := by rw [show ix 0 c.eNxs (s * c.ins + x) = c.eNx (s * c.ins + x) from ix_mapR 0 _ (by omega) (by omega), Cnv.eNx_at hi1 x0 h63]; rfl
          have hnb := Cnv.nN_lt (c := c) hq2 s x
          have hwb := Cnv.wW_le (c := c) s x
          have hl2 := hp2.len
          have hpo := hp2.lo (c.nN s x)
          have hph := hp2.hi (c.nN s x)
          have hps := hp2.lo s
          have hph2 := hp2.hi s
          have hbl2 := hb2.len
          rw [← hen2] at hnb hpo hph
          rw [← hev] at hwb
          refine ent_skip ?_
          refine ent_k hK24 ?_
          refine ent_seq fun K25 hK25 => ?_
          refine ent_block ?_
          refine ent_seq fun K26 hK26 => ?_
          refine ent_region ?_
          refine ent_o rfl (ok_move rfl) ?_
          refine ent_o rfl (ok_assign rfl) ?_
          refine ent_nil ?_
          refine ent_k hK26 ?_
          refine ent_seq fun K27 hK27 => ?_
          refine ent_region ?_
          refine ent_o rfl (ok_move rfl) ?_
          refine ent_o rfl (ok_fieldAddrEx Try.runUnderlying96 rfl Try.sizeOf3 (by decide) rfl) ?_
          refine ent_o rfl (ok_loadB (k := 3) Try.isAgg3 rfl rfl rfl) ?_
          refine ent_o rfl (ok_mul rfl rfl (by omega) (by omega)) ?_
          refine ent_o rfl (ok_move rfl) ?_
          refine ent_o rfl (ok_add rfl rfl (by omega) (by omega)) ?_
          refine ent_o rfl (ok_assign rfl) ?_
          refine ent_nil ?_
          refine ent_k hK27 ?_
          refine ent_seq fun K28 hK28 => ?_
          refine ent_draw 16 mixed (by kernel_rfl) (by kernel_rfl) (by kernel_rfl) ?_
          refine dw_o rfl (ok_fieldAddrEx Try.runUnderlying96 rfl Try.sizeOf22 (by decide) rfl) ?_
          refine dw_o rfl (ok_loadB (k := 3) Try.isAgg22 rfl rfl rfl) ?_
          refine dw_o rfl (ok_move rfl) ?_
          refine dw_o rfl (ok_index 0 sl22 rfl rfl (by omega) (by omega)) ?_
          refine dw_o rfl (ok_load ti3 rfl) ?_
          refine dw_o rfl (ok_fieldAddrEx Try.runUnderlying55 rfl Try.sizeOf22 (by decide) rfl) ?_
          refine dw_o rfl (ok_loadB (k := 1) Try.isAgg22 rfl rfl rfl) ?_
          refine dw_o rfl (ok_fieldAddrEx Try.runUnderlying96 rfl Try.sizeOf22 (by decide) rfl) ?_
          refine dw_o rfl (ok_loadB (k := 3) Try.isAgg22 rfl rfl rfl) ?_
          refine dw_o rfl (ok_move rfl) ?_
          refine dw_o rfl (ok_index 0 sl22 rfl rfl (by omega) (by omega)) ?_
          refine dw_o rfl (ok_load ti3 rfl) ?_
          refine dw_o rfl (ok_indexV sl22 rfl rfl (by omega) (by omega)) ?_
          refine dw_o rfl (ok_loadV (k := 2) 0 ti3 rfl rfl (by omega) (by omega)) ?_
          refine dw_o rfl (ok_add rfl rfl (by omega) (by omega)) ?_
          refine dw_o rfl (ok_assign rfl) ?_
          refine dw_nil ?_
          refine ent_nil ?_
          refine ent_k hK28 ?_
          refine ent_seq fun K29 hK29 => ?_
          refine ent_region ?_
          refine ent_o rfl (ok_move rfl) ?_
          refine ent_o rfl (ok_fieldAddrEx Try.runUnderlying55 rfl Try.sizeOf22 (by decide) rfl) ?_
          refine ent_o rfl (ok_loadB (k := 1) Try.isAgg22 rfl rfl rfl) ?_
          refine ent_o rfl (ok_move rfl) ?_
          refine ent_o rfl (ok_indexV sl22 rfl rfl (by omega) (by omega)) ?_
          refine ent_o rfl (ok_loadV (k := 2) 0 ti3 rfl rfl (by omega) (by omega)) ?_
          refine ent_o rfl (ok_lss rfl rfl) ?_
          refine ent_nil ?_
          refine ent_k hK29 ?_
          refine ent_condD rfl (fun h92 => ?_) (fun h92 => ?_)
          · have hsu := sumI_set l2 s.toNat (ix 0 c.eWts (s * c.ins + x) + ix 0 l2 (ix 0 c.eNxs (s * c.ins + x))) (by omega)
            change sumI _ = sumI l2 - ix 0 l2 s + _ at hsu
            have hvv : c.wW s x + ix 0 l2 (c.nN s x) < ix 0 l2 s := by rw [← hev, ← hen2]; exact h92
            have hrl := hp2.relax (s := s) (x := x) hq2 (by omega) (by omega) x0 h63 hvv
            have hrb := hb2.relax (s := s) (x := x) hq2 hp2 (by omega) (by omega) x0 h63 hvv
            rw [← hev, ← hen2] at hrl hrb
            refine ent_region ?_
            refine ent_o rfl (ok_fieldAddrEx Try.runUnderlying55 rfl Try.sizeOf22 (by decide) rfl) ?_
            refine ent_o rfl (ok_loadB (k := 1) Try.isAgg22 rfl rfl rfl) ?_
            refine ent_o rfl (ok_move rfl) ?_
            refine ent_o rfl (ok_move rfl) ?_
            refine ent_o rfl (ok_move rfl) ?_
            refine ent_o rfl (ok_move rfl) ?_
            refine ent_o rfl (ok_move rfl) ?_
            refine ent_o rfl (ok_indexV sl22 rfl rfl (by omega) (by omega)) ?_
            refine ent_storeV (k := 2) (z := (ix 0 c.eWts ((s * c.ins) + x)) + (ix 0 l2 (ix 0 c.eNxs ((s * c.ins) + x)))) ti3 rfl rfl rfl (elem_one (one_int _)) (by omega) (by omega) ?_
            refine ent_o rfl (ok_indexV sl22 rfl rfl (by omega) (by omega)) ?_
            refine ent_storeV (k := 0) (z := x) ti3 rfl rfl rfl (elem_one (one_int _)) (by omega) (by omega) ?_
            refine ent_o rfl (ok_assign rfl) ?_
            refine ent_nil ?_
            refine ent_k hK25 ?_
            refine ent_region ?_
            refine ent_o rfl (ok_add rfl rfl (by omega) (by omega)) ?_
            refine ent_o rfl (ok_move rfl) ?_
            refine ent_nil ?_
            refine ent_again (s := (x, l2, b2, ch2)) (x + 1, List.set l2 (s).toNat ((ix 0 c.eWts ((s * c.ins) + x)) + (ix 0 l2 (ix 0 c.eNxs ((s * c.ins) + x)))), List.set b2 (s).toNat x, true) ⟨(by first | rfl | assumption | omega | (simp_all; done) | grind), (by first | rfl | assumption | omega | (simp_all; done) | grind), (by first | exact hrl | exact hp2), (by first | exact hrb | exact hb2), (by first | omega | exact hs2), (by first | exact (fun _ => by omega) | exact hg2), (by intro h; first | exact absurd h (by decide) | exact (hk2 h).succ (by rw [← hev, ← hen2]; exact h92))⟩ (by first | omega | (dsimp only; omega)) (ent_rep ⟨rfl, rfl, rfl, rfl, rfl, rfl, rfl, rfl, rfl, trivial⟩ rfl)
          · refine ent_skip ?_
            refine ent_k hK25 ?_
            refine ent_region ?_
            refine ent_o rfl (ok_add rfl rfl (by omega) (by omega)) ?_
            refine ent_o rfl (ok_move rfl) ?_
            refine ent_nil ?_
            refine ent_again (s := (x, l2, b2, ch2)) (x + 1, l2, b2, ch2) ⟨(by first | rfl | assumption | omega | (simp_all; done) | grind), (by first | rfl | assumption | omega | (simp_all; done) | grind), (by first | exact hrl | exact hp2), (by first | exact hrb | exact hb2), (by first | omega | exact hs2), (by first | exact (fun _ => by omega) | exact hg2), (by intro h; first | exact absurd h (by decide) | exact (hk2 h).succ (by rw [← hev, ← hen2]; exact h92))⟩ (by first | omega | (dsimp only; omega)) (ent_rep ⟨rfl, rfl, rfl, rfl, rfl, rfl, rfl, rfl, rfl, trivial⟩ rfl)
        · refine ent_exit ?_
          refine ent_k hK21 ?_
          refine ent_region ?_
          refine ent_o rfl (ok_move rfl) ?_
          refine ent_o rfl (ok_add rfl rfl (by omega) (by omega)) ?_
          refine ent_o rfl (ok_assign rfl) ?_
          refine ent_nil ?_
          refine ent_again (s := (s, l1, b1, ch1)) (s + 1, l2, b2, ch2) ⟨(by first | rfl | assumption | omega | (simp_all; done) | grind), (by first | rfl | assumption | omega | (simp_all; done) | grind), hp2, hb2, hs2, hg2, (fun h => (hk2 h).next (by omega))⟩ (by first | omega | (dsimp only; omega)) (ent_rep ⟨rfl, rfl, rfl, rfl, rfl, rfl, rfl, trivial⟩ rfl)
      · refine ent_exit ?_
        refine ent_again (s := (l, b, ch)) (l1, b1, ch1) ⟨hp1, hb1, (by cases ch1; exact .inr ((hk1 rfl).all (by omega) hp1.z); exact .inl rfl)⟩ (by have hA := sumI_nonneg l (fun y hy => by obtain ⟨j, _, hj2, rfl⟩ := mem_take_getD 0 l l.length y (by simpa using hy); exact hp.lo j); have hB := sumI_nonneg l1 (fun y hy => by obtain ⟨j, _, hj2, rfl⟩ := mem_take_getD 0 l1 l1.length y (by simpa using hy); exact hp1.lo j); cases ch1 <;> simp [Cnv.sumB, h51] <;> first | omega | (have := hg1 rfl; omega)) (ent_rep ⟨rfl, rfl, rfl, rfl, rfl, rfl, trivial⟩ rfl)
    · have hfe : c.Feas l := by rcases hc with g | g; rw [h51] at g; cases g; exact g
      have hll0 := hp.len
      have hsm1 := Cnv.feas_small hOk hFew hfe (s := c.nN 0 1) (Cnv.nN_lt hq2 0 1).1 (Cnv.nN_lt hq2 0 1).2
      have hwb1 := Cnv.wW_le (c := c) 0 1
      refine ent_exit ?_
      refine ent_k hK13 ?_
      refine ent_seq fun K30 hK30 => ?_
      refine ent_region ?_
      refine ent_o rfl (ok_fieldAddrEx Try.runUnderlying55 rfl Try.sizeOf3 (by decide) rfl) ?_
      refine ent_storeB (k := 1) Try.sizeOf3 rfl rfl rfl (one_int _) rfl ?_
      refine ent_nil ?_
      refine ent_k hK30 ?_
      refine ent_seq fun K31 hK31 => ?_
      refine ent_seq fun K32 hK32 => ?_
      refine ent_region ?_
      refine ent_o rfl (ok_assign rfl) ?_
      refine ent_nil ?_
      refine ent_k hK32 ?_
      refine ent_block ?_
      refine ent_loop (fun (ss : Int × List Int) => match ss with | (x, b3) => (⟨[(2, aEx (.pointer (some ⟨b2_2, 0, none⟩))), (4, aMach c), (6, aEx (.pointer (some ⟨b6_3, 0, none⟩))), (7, aEx (.pointer (some ⟨b7_5, 0, none⟩))), (8, aEx (vec (some b38_6) ((c.states).toNat) ((c.states).toNat))), (15, aInt x)], [oVec (some b38_6) ((c.states).toNat) 3 1 false aInt b3, oBox b7_5 55 [aInt (c.fdTo l 4294967296 (x - 1).toNat), aEx (.slice none 0 0), aEx (vec (some b32_4) ((c.states).toNat) ((c.states).toNat))], oVec (some b32_4) ((c.states).toNat) 3 1 false aInt l, oBox b6_3 96 [aInt c.ins, aSl 1 false aInt c.eNxs, aSl 1 false aInt c.eWts], oBox b2_2 55 [aInt 0, aEx (.slice none 0 0), aEx (.slice none 0 0)], oBox b1_1 27 [aInt c.F.P, aInt c.F.M, aSl 1 false aInt c.F.mod, aSl 1 false aRows c.Gen]]⟩ : St)) (fun (ss : Int × List Int) => match ss with | (x, b3) => (1 ≤ x) ∧ (x ≤ c.ins) ∧ (c.Best l b b3 4294967296 x) ∧ ((b3.length : Int) = c.states)) (fun (ss : Int × List Int) => match ss with | (x, b3) => (c.ins - x).toNat) (1, b) ⟨(by first | rfl | assumption | omega | (simp_all; done) | grind), (by first | rfl | assumption | omega | (simp_all; done) | grind), (.inl ⟨rfl, rfl⟩), hb.len⟩ (ent_rep ⟨rfl, rfl, rfl, rfl, rfl, slot_av (av_int (show 1 = (1 : Int) by first | rfl | assumption | omega | (simp_all; done) | grind)), trivial⟩ (own_cons (rfl) (own_cons (own_box (av_cons (av_int (show c.fdTo l 4294967296 ((1 : Int) - 1).toNat = 4294967296 by rfl)) (rfl))) (rfl)))) ?_
      rintro ⟨x, b3⟩ ⟨x0, x1, hbe, hl3⟩
      show Ent _ (⟨[(2, aEx (.pointer (some ⟨b2_2, 0, none⟩))), (4, aMach c), (6, aEx (.pointer (some ⟨b6_3, 0, none⟩))), (7, aEx (.pointer (some ⟨b7_5, 0, none⟩))), (8, aEx (vec (some b38_6) ((c.states).toNat) ((c.states).toNat))), (15, aInt x)], [oVec (some b38_6) ((c.states).toNat) 3 1 false aInt b3, oBox b7_5 55 [aInt (c.fdTo l 4294967296 (x - 1).toNat), aEx (.slice none 0 0), aEx (vec (some b32_4) ((c.states).toNat) ((c.states).toNat))], oVec (some b32_4) ((c.states).toNat) 3 1 false aInt l, oBox b6_3 96 [aInt c.ins, aSl 1 false aInt c.eNxs, aSl 1 false aInt c.eWts], oBox b2_2 55 [aInt 0, aEx (.slice none 0 0), aEx (.slice none 0 0)], oBox b1_1 27 [aInt c.F.P, aInt c.F.M, aSl 1 false aInt c.F.mod, aSl 1 false aRows c.Gen]]⟩ : St) _
      refine ent_seq fun K33 hK33 => ?_
      refine ent_seq fun K34 hK34 => ?_
      refine ent_region ?_
      refine ent_o rfl (ok_move rfl) ?_
      refine ent_o rfl (ok_fieldAddrEx Try.runUnderlying96 rfl Try.sizeOf3 (by decide) rfl) ?_
      refine ent_o rfl (ok_loadB (k := 3) Try.isAgg3 rfl rfl rfl) ?_
      refine ent_o rfl (ok_lss rfl rfl) ?_
      refine ent_nil ?_
      refine ent_k hK34 ?_
      refine ent_condD rfl (fun h107 => ?_) (fun h107 => ?_)
      · have hev : ix 0 c.eWts x = c.wW 0 x := by rw [show ix 0 c.eWts x = c.eWt x from ix_mapR 0 _ (by omega) (by have := Int.mul_le_mul_of_nonneg_right (show 1 ≤ c.states by omega) (show 0 ≤ c.ins by omega); omega)]; have := Cnv.eWt_at (c := c) hi1 (s := 0) (show 0 ≤ x by omega) h107; rw [Int.zero_mul, Int.zero_add] at this; rw [this]; rfl
        have hen2 : ix 0 c.eNxs x = c.nN 0 x := by rw [show ix 0 c.eNxs x = c.eNx x from ix_mapR 0 _ (by omega) (by have := Int.mul_le_mul_of_nonneg_right (show 1 ≤ c.states by omega) (show 0 ≤ c.ins by omega); omega)]; have := Cnv.eNx_at (c := c) hi1 (s := 0) (show 0 ≤ x by omega) h107; rw [Int.zero_mul, Int.zero_add] at this; rw [this]; rfl
        have hin := Int.mul_le_mul_of_nonneg_right (show 1 ≤ c.states by omega) (show 0 ≤ c.ins by omega)
        have hnb := Cnv.nN_lt (c := c) hq2 0 x
        have hwb := Cnv.wW_le (c := c) 0 x
        have hpo := hp.lo (c.nN 0 x)
        have hph := hp.hi (c.nN 0 x)
        rw [← hen2] at hnb hpo hph
        rw [← hev] at hwb
        refine ent_skip ?_
        refine ent_k hK33 ?_
        refine ent_seq fun K35 hK35 => ?_
        refine ent_block ?_
        refine ent_seq fun K36 hK36 => ?_
        refine ent_draw 16 mixed (by kernel_rfl) (by kernel_rfl) (by kernel_rfl) ?_
        refine dw_o rfl (ok_fieldAddrEx Try.runUnderlying96 rfl Try.sizeOf22 (by decide) rfl) ?_
        refine dw_o rfl (ok_loadB (k := 3) Try.isAgg22 rfl rfl rfl) ?_
        refine dw_o rfl (ok_move rfl) ?_
        refine dw_o rfl (ok_index 0 sl22 rfl rfl (by omega) (by omega)) ?_
        refine dw_o rfl (ok_load ti3 rfl) ?_
        refine dw_o rfl (ok_fieldAddrEx Try.runUnderlying55 rfl Try.sizeOf22 (by decide) rfl) ?_
        refine dw_o rfl (ok_loadB (k := 1) Try.isAgg22 rfl rfl rfl) ?_
        refine dw_o rfl (ok_fieldAddrEx Try.runUnderlying96 rfl Try.sizeOf22 (by decide) rfl) ?_
        refine dw_o rfl (ok_loadB (k := 3) Try.isAgg22 rfl rfl rfl) ?_
        refine dw_o rfl (ok_move rfl) ?_
        refine dw_o rfl (ok_index 0 sl22 rfl rfl (by omega) (by omega)) ?_
        refine dw_o rfl (ok_load ti3 rfl) ?_
        refine dw_o rfl (ok_indexV sl22 rfl rfl (by omega) (by omega)) ?_
        refine dw_o rfl (ok_loadV (k := 2) 0 ti3 rfl rfl (by omega) (by omega)) ?_
        refine dw_o rfl (ok_add rfl rfl (by omega) (by omega)) ?_
        refine dw_o rfl (ok_assign rfl) ?_
        refine dw_nil ?_
        refine ent_nil ?_
        refine ent_k hK36 ?_
        refine ent_seq fun K37 hK37 => ?_
        refine ent_region ?_
        refine ent_o rfl (ok_move rfl) ?_
        refine ent_o rfl (ok_fieldAddrEx Try.runUnderlying55 rfl Try.sizeOf3 (by decide) rfl) ?_
        refine ent_o rfl (ok_loadB (k := 1) Try.isAgg3 rfl rfl rfl) ?_
        refine ent_o rfl (ok_lss rfl rfl) ?_
        refine ent_nil ?_
        refine ent_k hK37 ?_
        refine ent_condD rfl (fun h128 => ?_) (fun h128 => ?_)
        · refine ent_region ?_
          refine ent_o rfl (ok_move rfl) ?_
          refine ent_o rfl (ok_move rfl) ?_
          refine ent_o rfl (ok_move rfl) ?_
          refine ent_o rfl (ok_fieldAddrEx Try.runUnderlying55 rfl Try.sizeOf3 (by decide) rfl) ?_
          refine ent_storeB (k := 1) Try.sizeOf3 rfl rfl rfl (one_int _) rfl ?_
          refine ent_o rfl (ok_indexV sl22 rfl rfl (by omega) (by omega)) ?_
          refine ent_storeV (k := 0) (z := x) ti3 rfl rfl rfl (elem_one (one_int _)) (by omega) (by omega) ?_
          refine ent_nil ?_
          refine ent_k hK35 ?_
          refine ent_region ?_
          refine ent_o rfl (ok_move rfl) ?_
          refine ent_o rfl (ok_add rfl rfl (by omega) (by omega)) ?_
          refine ent_o rfl (ok_assign rfl) ?_
          refine ent_nil ?_
          refine ent_again (s := (x, b3)) (x + 1, List.set b3 0 x) ⟨(by first | rfl | assumption | omega | (simp_all; done) | grind), (by first | rfl | assumption | omega | (simp_all; done) | grind), (by first | exact hbe.take x0 (by rw [← hev, ← hen2]; exact h128) | exact hbe.skip x0 (by rw [← hev, ← hen2]; exact h128) (by omega)), (by first | (rw [List.length_set]; exact hl3) | exact hl3)⟩ (by first | omega | (dsimp only; omega)) (ent_rep ⟨rfl, rfl, rfl, rfl, rfl, rfl, trivial⟩ (own_cons (rfl) (own_cons (own_box (av_cons (av_int (show c.fdTo l 4294967296 ((x + 1) - 1).toNat = (ix 0 c.eWts x) + (ix 0 l (ix 0 c.eNxs x)) by rw [show x + 1 - 1 = x by omega, Cnv.fdTo_succ _ _ x0, ← hev, ← hen2]; omega)) (rfl))) (rfl))))
        · refine ent_skip ?_
          refine ent_k hK35 ?_
          refine ent_region ?_
          refine ent_o rfl (ok_move rfl) ?_
          refine ent_o rfl (ok_add rfl rfl (by omega) (by omega)) ?_
          refine ent_o rfl (ok_assign rfl) ?_
          refine ent_nil ?_
          refine ent_again (s := (x, b3)) (x + 1, b3) ⟨(by first | rfl | assumption | omega | (simp_all; done) | grind), (by first | rfl | assumption | omega | (simp_all; done) | grind), (by first | exact hbe.take x0 (by rw [← hev, ← hen2]; exact h128) | exact hbe.skip x0 (by rw [← hev, ← hen2]; exact h128) (by omega)), (by first | (rw [List.length_set]; exact hl3) | exact hl3)⟩ (by first | omega | (dsimp only; omega)) (ent_rep ⟨rfl, rfl, rfl, rfl, rfl, rfl, trivial⟩ (own_cons (rfl) (own_cons (own_box (av_cons (av_int (show c.fdTo l 4294967296 ((x + 1) - 1).toNat = c.fdTo l 4294967296 (x - 1).toNat by rw [show x + 1 - 1 = x by omega, Cnv.fdTo_succ _ _ x0, ← hev, ← hen2]; omega)) (rfl))) (rfl))))
      · have hxi : x = c.ins := by omega
        obtain ⟨y, y0, y1, hby, hdy⟩ : ∃ y, 1 ≤ y ∧ y < c.ins ∧ b3 = b.set (0 : Int).toNat y ∧ c.fdist l 4294967296 = c.wW 0 y + ix 0 l (c.nN 0 y) := by
          rcases hbe with ⟨g, _⟩ | ⟨y, g1, g2, g3, g4⟩
          · omega
          · exact ⟨y, g1, by omega, g3, by unfold Cnv.fdist; rw [← hxi]; exact g4⟩
        obtain ⟨nn, hfd⟩ := Cnv.found (B := 4294967296) hOk hFew (by omega) hp hb hfe y0 y1 hdy
        have hfd3 : c.Found l b3 (c.fdist l 4294967296) nn := by rw [hby]; exact hfd
        have hok := Cnv.found_ok hOk hFew hp hfd3
        refine ent_exit ?_
        refine ent_k hK31 ?_
        refine ent_seq fun K38 hK38 => ?_
        refine ent_region ?_
        refine ent_o rfl (ok_move rfl) ?_
        refine ent_o rfl (ok_loadBS (k := 3) ti96 rfl rfl rfl) ?_
        refine ent_o rfl (ok_move rfl) ?_
        refine ent_give 0 136 rfl (cv_vec (k := 0) (off_erase rfl) (by first | rfl | (simp; done) | (simp_all; done) | omega) rfl) ?_
        refine ent_o rfl (ok_call (path_ok c l b3 (c.fdist l 4294967296) nn (by first | rfl | assumption | omega | (simp_all; done) | grind) (by first | rfl | assumption | omega | (simp_all; done) | grind) hl3 hfd3) rfl) ?_
        refine ent_o rfl (ok_fieldAddrEx Try.runUnderlying55 rfl Try.sizeOf42 (by decide) rfl) ?_
        refine ent_storeB (k := 0) Try.sizeOf42 rfl rfl rfl one_sl rfl ?_
        refine ent_nil ?_
        refine ent_k hK38 ?_
        refine ent_seq fun K39 hK39 => ?_
        refine ent_region ?_
        refine ent_o rfl (ok_loadBS (k := 0) ti55 rfl rfl rfl) ?_
        refine ent_storeBS (k := 3) Try.sizeOf55 rfl rfl rfl (AllOne.mem ⟨(one_int _), one_sl, (one_ex rfl), trivial⟩) rfl rfl ?_
        refine ent_o rfl (ok_assign rfl) ?_
        refine ent_nil ?_
        refine ent_k hK39 ?_
        refine ent_ret ?_
        exact retR2 (.inr rfl) Try.results35 (resr_cell (k := 3) ti55 rfl rfl rfl (cv_exi (⟨c.fdist l 4294967296, c.msgR b3 nn, l⟩) (hok) (cv_agg ⟨cv_int (by first | rfl | (rw [hxi]; rfl)), cv_sl sub_x (by first | rfl | (rw [hxi]; rfl)), cv_vec (k := 1) (off_x rfl) (by first | rfl | (simp; done) | (simp_all; done) | omega) (by first | rfl | (rw [hxi]; rfl)), trivial⟩))) (resr_tmp (res_cv rfl (cv_int (by rfl))))

theorem Free_no (c : Cnv) (hFew : c.Few) (hNo : ¬ c.Ok) : Ctr Try.prog 35 [aCnv c] (aTup [aAgg [aInt 0, aSl 1 false aInts ([] : List (List Int)), aSl 1 false aInt ([] : List Int)], aInt c.err]) := by
  refine ctr_of Try.call35 Try.func35 rfl rfl ?_
  intro w O
  refine ent_lenC 0 2 rfl rfl (fun hlen0_2 => ?_)
  refine ent_lenC 0 3 rfl rfl (fun hlen0_3 => ?_)
  refine ent_seq fun K1 hK1 => ?_
  refine ent_region ?_
  refine ent_boxS rfl rfl (AllOne.mem ⟨(one_int _), (one_int _), one_sl, one_sl, trivial⟩) (fun b1_1 => ?_)
  refine ent_alloc (z := .agg #[.int .i64 0, .slice none 0 0, .slice none 0 0]) [aInt 0, aEx (.slice none 0 0), aEx (.slice none 0 0)] rfl zv55 rfl zc55 (fun b2_2 => ?_)
  refine ent_o rfl (ok_assign rfl) ?_
  refine ent_nil ?_
  refine ent_k hK1 ?_
  refine ent_seq fun K2 hK2 => ?_
  refine ent_region ?_
  refine ent_o rfl (ok_loadBS (k := 1) ti27 rfl rfl rfl) ?_
  refine ent_o rfl (ok_call (build_no c (by first | rfl | assumption | omega | (simp_all; done) | grind) hNo) rfl) ?_
  refine ent_o rfl (ok_move rfl) ?_
  refine ent_o rfl (ok_extract rfl rfl) ?_
  refine ent_o rfl (ok_extract rfl rfl) ?_
  refine ent_o rfl (ok_assign rfl) ?_
  refine ent_o rfl (ok_assign rfl) ?_
  refine ent_nil ?_
  refine ent_k hK2 ?_
  refine ent_seq fun K3 hK3 => ?_
  refine ent_seq fun K4 hK4 => ?_
  refine ent_region ?_
  refine ent_o rfl (ok_move rfl) ?_
  refine ent_o rfl (ok_neq rfl rfl) ?_
  refine ent_nil ?_
  refine ent_k hK4 ?_
  refine ent_condD rfl (fun h23 => ?_) (fun h23 => ?_)
  · refine ent_seq fun K5 hK5 => ?_
    refine ent_region ?_
    refine ent_o rfl (ok_build st55 (As := [aInt 0, aEx (.slice none 0 0), aEx (.slice none 0 0)]) z55 (rfl)) ?_
    refine ent_o rfl (ok_move rfl) ?_
    refine ent_storeBS (k := 0) Try.sizeOf55 rfl rfl rfl (AllOne.mem ⟨(one_int _), (one_ex rfl), (one_ex rfl), trivial⟩) rfl rfl ?_
    refine ent_o rfl (ok_assign rfl) ?_
    refine ent_nil ?_
    refine ent_k hK5 ?_
    refine ent_ret ?_
    exact retR2 (.inr rfl) Try.results35 (resr_cell (k := 0) ti55 rfl rfl rfl (cv_agg ⟨cv_int (by rfl), cv_nil (fun _ => rfl) (by rfl), cv_nil (fun _ => rfl) (by rfl), trivial⟩)) (resr_tmp (res_cv rfl (cv_int (by rfl))))
  · exact absurd (Cnv.err_zero.1 (Classical.not_not.1 h23)) hNo
end Go.Proofs.Ytfjhbdfgbpcchaa
