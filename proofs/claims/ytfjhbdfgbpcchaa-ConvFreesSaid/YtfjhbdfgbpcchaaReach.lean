/-
  Messages that reach a distance.
-/
import Derived.Test.YtfjhbdfgbpcchaaProg
import Derived.Test.YtfjhbdfgbpcchaaTab
import Derived.Test.YtfjhbdfgbpcchaaCy
import Derived.Test.YtfjhbdfgbpcchaaPlainY
import Derived.Test.YtfjhbdfgbpcchaaFieldA
import Derived.Test.YtfjhbdfgbpcchaaFieldB
import Derived.Test.YtfjhbdfgbpcchaaFieldC
import Derived.Test.YtfjhbdfgbpcchaaFieldE
import Derived.Test.YtfjhbdfgbpcchaaPoly
import Derived.Test.YtfjhbdfgbpcchaaBuild
import Derived.Test.YtfjhbdfgbpcchaaRefC
import Derived.Test.YtfjhbdfgbpcchaaStep
import Derived.Test.YtfjhbdfgbpcchaaRefN
import Derived.Test.YtfjhbdfgbpcchaaEncode
import Derived.Test.YtfjhbdfgbpcchaaTerm
import Derived.Test.YtfjhbdfgbpcchaaAdd
import Derived.Test.YtfjhbdfgbpcchaaDigits
import Derived.Test.YtfjhbdfgbpcchaaEdges
open Go Go.Cw
namespace Go.Proofs.Ytfjhbdfgbpcchaa
set_option maxRecDepth 100000
set_option linter.unusedVariables false
set_option linter.unusedSimpArgs false
theorem CloneRows_ok (xs : List (List Int)) (hl : xs.length ≤ 1000000) : CtrN Try.prog 111 [aSl 1 false aInts xs] 22 1 false aInts xs := by
  refine ctrN_of Try.call111 Try.func111 rfl rfl ?_
  intro w O
  refine ent_len 0 rfl (fun hlen0 => ?_)
  refine ent_seq fun K1 hK1 => ?_
  refine ent_region ?_
  refine ent_o rfl (ok_assign rfl) ?_
  refine ent_nil ?_
  refine ent_k hK1 ?_
  refine ent_seq fun K2 hK2 => ?_
  refine ent_seq fun K3 hK3 => ?_
  refine ent_region ?_
  refine ent_o rfl (ok_move rfl) ?_
  refine ent_o rfl (ok_eqlNilIf Try.underlying42 rfl) ?_
  refine ent_nil ?_
  refine ent_k hK3 ?_
  refine ent_condIf rfl (fun h4 => ?_) ?_
  · refine ent_seq fun K4 hK4 => ?_
    refine ent_region ?_
    refine ent_o rfl (ok_assign rfl) ?_
    refine ent_nil ?_
    refine ent_k hK4 ?_
    refine ent_ret ?_
    exact retN_nil (.inr rfl) Try.results111 rfl (fun _ => rfl) (by exact h4.symm)
  · refine ent_skip ?_
    refine ent_k hK2 ?_
    refine ent_seq fun K5 hK5 => ?_
    refine ent_region ?_
    refine ent_buildN aInts [] rfl vt42 (by decide) (rfl) rfl (fun b5_1 => ?_)
    refine ent_o rfl (ok_move rfl) ?_
    refine ent_appendS (k := 0) rfl vt42 rfl rfl (by first | rfl | (simp; done) | (simp_all; done) | omega) rfl (cv_id sub_refl) (by first | omega | (simp only [List.length_append, List.length_cons, List.length_nil]; omega) | (simp; omega)) (by first | omega | (simp only [List.length_append, List.length_cons, List.length_nil]; omega) | (simp; omega)) (fun r7_1 cr7_1 => ?_)
    refine ent_o rfl (ok_assign rfl) ?_
    refine ent_nil ?_
    refine ent_k hK5 ?_
    refine ent_ret ?_
    exact retN (k := 0) (.inr rfl) Try.results111 rfl rfl (by first | rfl | (simp; done) | (simp_all; done) | omega) (by rfl)

theorem reaches_ok (c : Cnv) (p : Cnv.Fp) (hFew : c.Few) (hOk : c.Ok) (hpl : p.Msg.length ≤ 1000) : Ctr Try.prog 77 [aMach c, aFp p] (aBool (decide (c.Rch p))) := by
  have hF := hOk.fld
  have hS := hF.1
  have hq := hS.bd
  have hq2 := hq.2.2.2.2.2.1
  have hik : c.k = (c.Gen.length : Int) := rfl
  have hen : c.n = ((ix [] c.Gen 0).length : Int) := rfl
  have hkn := hOk.kn
  have hnl := hOk.len
  have hi1 := Cnv.ins_pos (c := c) hq2
  have hsi := Cnv.states_ins hq2 hOk.small
  have hil := Cnv.ins_le hq2 hOk.small
  have hst := Cnv.states_le hq2 hOk.small
  have hf1 := hFew.1
  have hmn := c.maxD_nonneg c.Gen.length
  change 0 ≤ c.mem at hmn
  have hm4 := hFew.mem_le
  refine ctr_of Try.call77 Try.func77 rfl rfl ?_
  intro w O
  refine ent_lenP 0 1 rfl rfl (fun hlen0_1 => ?_)
  refine ent_lenP 0 4 rfl rfl (fun hlen0_4 => ?_)
  refine ent_lenP 0 8 rfl rfl (fun hlen0_8 => ?_)
  refine ent_lenC 1 1 rfl rfl (fun hlen1_1 => ?_)
  refine ent_lenC 1 2 rfl rfl (fun hlen1_2 => ?_)
  refine ent_seq fun K1 hK1 => ?_
  refine ent_region ?_
  refine ent_boxS rfl rfl (AllOne.mem ⟨(one_int _), one_sl, one_sl, trivial⟩) (fun b3_1 => ?_)
  refine ent_o rfl (ok_assign rfl) ?_
  refine ent_nil ?_
  refine ent_k hK1 ?_
  refine ent_seq fun K2 hK2 => ?_
  refine ent_region ?_
  refine ent_o rfl (ok_fieldAddrEx Try.runUnderlying55 rfl Try.sizeOf42 (by decide) rfl) ?_
  refine ent_o rfl (ok_loadB (k := 0) Try.isAgg42 rfl rfl rfl) ?_
  refine ent_callN rfl (CloneRows_ok p.Msg (by first | rfl | assumption | omega | (simp_all; done) | grind)) (ArgsA.ok ⟨arg_a rfl (cv_id (sub_lent _)), trivial⟩) (fun r16 c16 => ?_)
  refine ent_o rfl (ok_assign rfl) ?_
  refine ent_nil ?_
  refine ent_k hK2 ?_
  refine ent_seq fun K3 hK3 => ?_
  refine ent_seq fun K4 hK4 => ?_
  refine ent_region ?_
  refine ent_o rfl (ok_move rfl) ?_
  refine ent_o rfl (ok_nilCheck rfl) ?_
  refine ent_o rfl (ok_fieldAddr1 Try.runUnderlying84 rfl Try.sizeOf3 rfl rfl) ?_
  refine ent_o rfl (ok_load ti3 rfl) ?_
  refine ent_o rfl (ok_move rfl) ?_
  refine ent_nil ?_
  refine ent_k hK4 ?_
  refine ent_block ?_
  refine ent_loop (fun (ss : Int × Option Nat × Nat) => match ss with | (d, rr2, cc2) => (⟨[(0, aMach c), (3, aEx (.pointer (some ⟨b3_1, 0, none⟩))), (5, aEx (vec rr2 ((c.termTo p.Msg d).length) cc2)), (20, aInt c.mem), (21, aInt d)], [oVec rr2 cc2 22 1 false aInts (c.termTo p.Msg d), oBox b3_1 55 [aInt p.D, aSl 1 false aInts p.Msg, aSl 1 false aInt p.Pot]]⟩ : St)) (fun (ss : Int × Option Nat × Nat) => match ss with | (d, rr2, cc2) => (0 ≤ d) ∧ (d ≤ c.mem)) (fun (ss : Int × Option Nat × Nat) => match ss with | (d, rr2, cc2) => (c.mem - d).toNat) (0, r16, c16) ⟨(by first | rfl | assumption | omega | (simp_all; done) | grind), (by first | rfl | assumption | omega | (simp_all; done) | grind)⟩ (ent_rep ⟨rfl, rfl, slot_av (av_vec (congrArg List.length (show c.termTo p.Msg (0 : Int) = p.Msg by simp [Cnv.termTo]).symm)), rfl, slot_av (av_int (show 0 = (0 : Int) by first | rfl | assumption | omega | (simp_all; done) | grind)), trivial⟩ (own_cons (own_vec (show c.termTo p.Msg (0 : Int) = p.Msg by simp [Cnv.termTo])) (rfl))) ?_
  rintro ⟨d, rr2, cc2⟩ ⟨d0, d1⟩
  show Ent _ (⟨[(0, aMach c), (3, aEx (.pointer (some ⟨b3_1, 0, none⟩))), (5, aEx (vec rr2 ((c.termTo p.Msg d).length) cc2)), (20, aInt c.mem), (21, aInt d)], [oVec rr2 cc2 22 1 false aInts (c.termTo p.Msg d), oBox b3_1 55 [aInt p.D, aSl 1 false aInts p.Msg, aSl 1 false aInt p.Pot]]⟩ : St) _
  have ltt := Cnv.length_termTo (c := c) p.Msg d
  refine ent_seq fun K5 hK5 => ?_
  refine ent_region ?_
  refine ent_o rfl (ok_lss rfl rfl) ?_
  refine ent_nil ?_
  refine ent_k hK5 ?_
  refine ent_seq fun K6 hK6 => ?_
  refine ent_condD rfl (fun h22 => ?_) (fun h22 => ?_)
  · refine ent_skip ?_
    refine ent_k hK6 ?_
    refine ent_seq fun K7 hK7 => ?_
    refine ent_block ?_
    refine ent_region ?_
    refine ent_o rfl (ok_move rfl) ?_
    refine ent_o rfl (ok_move rfl) ?_
    refine ent_o rfl (ok_nilCheck rfl) ?_
    refine ent_o rfl (ok_fieldAddr1 Try.runUnderlying84 rfl Try.sizeOf3 rfl rfl) ?_
    refine ent_o rfl (ok_load ti3 rfl) ?_
    refine ent_make aInt 0 rfl vt22 rfl rfl (by omega) (by omega) (by omega) (fun _ _ => rfl) (AllV.mem ⟨rfl, trivial⟩) (fun b28_3 => ?_)
    refine ent_give 0 28 rfl (cv_vec (k := 0) (off_erase rfl) (by first | rfl | (simp; done) | (simp_all; done) | omega) rfl) ?_
    refine ent_appendL (k := 0) (enc := aInts) (y := List.replicate ((c.k).toNat) 0) rfl rfl vt42 rfl rfl (by first | rfl | (simp; done) | (simp_all; done) | omega) rfl ((elem_one one_sl)) (by first | omega | (simp only [List.length_append, List.length_cons, List.length_nil]; omega) | (simp; omega)) (by first | omega | (simp only [List.length_append, List.length_cons, List.length_nil]; omega) | (simp; omega)) (by decide) (fun b30_4 c30_4 => ?_)
    refine ent_o rfl (ok_assign rfl) ?_
    refine ent_nil ?_
    refine ent_k hK7 ?_
    refine ent_region ?_
    refine ent_o rfl (ok_add rfl rfl (by omega) (by omega)) ?_
    refine ent_o rfl (ok_move rfl) ?_
    refine ent_nil ?_
    refine ent_again (s := (d, rr2, cc2)) (d + 1, (some b30_4), c30_4) ⟨(by first | rfl | assumption | omega | (simp_all; done) | grind), (by first | rfl | assumption | omega | (simp_all; done) | grind)⟩ (by first | omega | (dsimp only; omega)) (ent_rep ⟨rfl, rfl, slot_av (av_vec (congrArg List.length (show c.termTo p.Msg (d + 1) = (c.termTo p.Msg d) ++ [List.replicate ((c.k).toNat) 0] by first | exact Cnv.termTo_succ p.Msg d0 | (rw [Cnv.termTo_succ p.Msg d0]; rfl)).symm)), rfl, rfl, trivial⟩ (own_cons (own_vec (show c.termTo p.Msg (d + 1) = (c.termTo p.Msg d) ++ [List.replicate ((c.k).toNat) 0] by first | exact Cnv.termTo_succ p.Msg d0 | (rw [Cnv.termTo_succ p.Msg d0]; rfl))) (rfl)))
  · refine ent_exit ?_
    refine ent_k hK3 ?_
    refine ent_seq fun K8 hK8 => ?_
    refine ent_give 0 5 rfl (cv_vec (k := 0) (off_erase rfl) (by first | rfl | (simp; done) | (simp_all; done) | omega) rfl) ?_
    refine ent_region ?_
    refine ent_o rfl (ok_move rfl) ?_
    refine ent_o rfl (ok_move rfl) ?_
    refine ent_o rfl (ok_call (encode_ok c (c.termTo p.Msg d) (by first | rfl | assumption | omega | (simp_all; done) | grind) (by first | rfl | assumption | omega | (simp_all; done) | grind) (by rw [Cnv.length_termTo]; omega)) rfl) ?_
    refine ent_o rfl (ok_move rfl) ?_
    refine ent_o rfl (ok_extract rfl rfl) ?_
    refine ent_o rfl (ok_extract rfl rfl) ?_
    refine ent_o rfl (ok_assign rfl) ?_
    refine ent_o rfl (ok_assign rfl) ?_
    refine ent_nil ?_
    refine ent_k hK8 ?_
    refine ent_seq fun K9 hK9 => ?_
    refine ent_seq fun K10 hK10 => ?_
    refine ent_region ?_
    refine ent_o rfl (ok_move rfl) ?_
    refine ent_o rfl (ok_neq rfl rfl) ?_
    refine ent_nil ?_
    refine ent_k hK10 ?_
    refine ent_condD rfl (fun h39 => ?_) (fun h39 => ?_)
    · have hno := Cnv.rch_no hq2 h39
      refine ent_seq fun K11 hK11 => ?_
      refine ent_region ?_
      refine ent_o rfl (ok_assign rfl) ?_
      refine ent_nil ?_
      refine ent_k hK11 ?_
      refine ent_ret ?_
      exact retR1 (.inr rfl) Try.results77 (resr_tmp (res_cv rfl (cv_bool (by first | exact (decide_eq_false hno).symm | exact decide_eq_decide.2 ⟨fun h => ⟨hG, haw.1 h.1, by rw [← htl]; exact h.2⟩, fun h => ⟨haw.2 h.2.1, by rw [htl]; exact h.2.2⟩⟩))))
    · have hgt := Cnv.stepsErr_zero.1 (Classical.not_not.1 h39)
      have hG := Cnv.GoodU.of_term hgt
      have hEb : c.encB (c.termTo p.Msg d) = c.encL (c.termTo p.Msg d) := if_pos (Classical.not_not.1 h39)
      have hrl : ∀ r ∈ c.encB (c.termTo p.Msg d), (r.length : Int) ≤ 64 := by rw [hEb]; intro r hr; rw [Cnv.encL_row r hr]; exact hnl
      have leb : (c.encB (c.termTo p.Msg d)).length = p.Msg.length + d.toNat := by rw [hEb, Cnv.length_encL]; exact Cnv.length_termTo _ _
      have hdm : d = c.mem := by omega
      have hrp : ∀ r ∈ p.Msg, (r.length : Int) ≤ 70 := by intro r hr; rw [Cnv.good_row hG r hr]; exact hf1
      refine ent_skip ?_
      refine ent_k hK9 ?_
      refine ent_seq fun K12 hK12 => ?_
      refine ent_region ?_
      refine ent_o rfl (ok_assign rfl) ?_
      refine ent_o rfl (ok_assign rfl) ?_
      refine ent_nil ?_
      refine ent_k hK12 ?_
      refine ent_seq fun K13 hK13 => ?_
      refine ent_seq fun K14 hK14 => ?_
      refine ent_region ?_
      refine ent_o rfl (ok_fieldAddrEx Try.runUnderlying55 rfl Try.sizeOf42 (by decide) rfl) ?_
      refine ent_o rfl (ok_loadB (k := 0) Try.isAgg42 rfl rfl rfl) ?_
      refine ent_o rfl (ok_len rfl Try.runUnderlying42 rfl) ?_
      refine ent_o rfl (ok_move rfl) ?_
      refine ent_nil ?_
      refine ent_k hK14 ?_
      refine ent_block ?_
      refine ent_loop (fun (i : Int) => (⟨[(3, aEx (.pointer (some ⟨b3_1, 0, none⟩))), (6, aSl 1 false aInts (c.encB (c.termTo p.Msg d))), (8, aBool (anyW p.Msg i.toNat)), (9, aInt 0), (41, aSl 1 false aInts p.Msg), (42, aInt (↑p.Msg.length : Int)), (43, aInt i)], [oBox b3_1 55 [aInt p.D, aSl 1 false aInts p.Msg, aSl 1 false aInt p.Pot]]⟩ : St)) (fun (i : Int) => (0 ≤ i) ∧ (i ≤ p.Msg.length)) (fun (i : Int) => (p.Msg.length - i).toNat) 0 ⟨(by first | rfl | assumption | omega | (simp_all; done) | grind), (by first | rfl | assumption | omega | (simp_all; done) | grind)⟩ (ent_rep ⟨rfl, rfl, slot_av (av_bool (show (false : Bool) = anyW p.Msg (0 : Int).toNat by rfl)), rfl, rfl, rfl, slot_av (av_int (show 0 = (0 : Int) by first | rfl | assumption | omega | (simp_all; done) | grind)), trivial⟩ rfl) ?_
      rintro i ⟨h0, h1⟩
      show Ent _ (⟨[(3, aEx (.pointer (some ⟨b3_1, 0, none⟩))), (6, aSl 1 false aInts (c.encB (c.termTo p.Msg d))), (8, aBool (anyW p.Msg i.toNat)), (9, aInt 0), (41, aSl 1 false aInts p.Msg), (42, aInt (↑p.Msg.length : Int)), (43, aInt i)], [oBox b3_1 55 [aInt p.D, aSl 1 false aInts p.Msg, aSl 1 false aInt p.Pot]]⟩ : St) _
      refine ent_seq fun K15 hK15 => ?_
      refine ent_region ?_
      refine ent_o rfl (ok_lss rfl rfl) ?_
      refine ent_nil ?_
      refine ent_k hK15 ?_
      refine ent_seq fun K16 hK16 => ?_
      refine ent_condD rfl (fun h44 => ?_) (fun h44 => ?_)
      · refine ent_skip ?_
        refine ent_k hK16 ?_
        refine ent_seq fun K17 hK17 => ?_
        refine ent_block ?_
        refine ent_seq fun K18 hK18 => ?_
        refine ent_region ?_
        refine ent_o rfl (ok_index [] sl42 rfl rfl (by omega) (by omega)) ?_
        refine ent_o rfl (ok_load ti22 rfl) ?_
        refine ent_o rfl (ok_assign rfl) ?_
        refine ent_nil ?_
        refine ent_k hK18 ?_
        refine ent_cut (⟨[(3, aEx (.pointer (some ⟨b3_1, 0, none⟩))), (6, aSl 1 false aInts (c.encB (c.termTo p.Msg d))), (8, aBool (decide (((anyW p.Msg i.toNat) = true) ∨ (0 < (wt1 (ix [] p.Msg i)))))), (9, aInt 0), (41, aSl 1 false aInts p.Msg), (42, aInt (↑p.Msg.length : Int)), (43, aInt i)], [oBox b3_1 55 [aInt p.D, aSl 1 false aInts p.Msg, aSl 1 false aInt p.Pot]]⟩) ?_ ?_
        · refine ent_region ?_
          refine ent_o rfl (ok_move rfl) ?_
          refine ent_o rfl (ok_move rfl) ?_
          refine ent_guardX rfl rfl rfl rfl (fun hg48 => ?_) (fun hg48 => ?_)
          · refine ent_o rfl (ok_move rfl) ?_
            refine ent_guardXT rfl rfl rfl rfl hg48 ?_
            refine ent_o rfl (ok_call (weight_ok (ix [] p.Msg i)) rfl) ?_
            refine ent_guardXT rfl rfl rfl rfl hg48 ?_
            refine ent_o rfl (ok_gtr rfl rfl) ?_
            refine ent_o rfl (ok_pickF rfl hg48 rfl) ?_
            refine ent_o rfl (ok_assign rfl) ?_
            refine ent_nil ?_
            exact ent_rep ⟨rfl, rfl, slot_bool (dq_Q ((or_iff_right (nt_of hg48)).trans Iff.rfl)), rfl, rfl, rfl, rfl, trivial⟩ rfl
          · refine ent_guardXF rfl rfl rfl rfl hg48 ?_
            refine ent_guardXF rfl rfl rfl rfl hg48 ?_
            refine ent_o rfl (ok_pickT rfl hg48 rfl) ?_
            refine ent_o rfl (ok_assign rfl) ?_
            refine ent_nil ?_
            exact ent_rep ⟨rfl, rfl, slot_bool (dq_T rfl (Or.inl hg48)), rfl, rfl, rfl, rfl, trivial⟩ rfl
        refine ent_k hK17 ?_
        refine ent_region ?_
        refine ent_o rfl (ok_add rfl rfl (by omega) (by omega)) ?_
        refine ent_o rfl (ok_move rfl) ?_
        refine ent_nil ?_
        refine ent_again (s := (i)) (i + 1) ⟨(by first | rfl | assumption | omega | (simp_all; done) | grind), (by first | rfl | assumption | omega | (simp_all; done) | grind)⟩ (by first | omega | (dsimp only; omega)) (ent_rep ⟨rfl, rfl, slot_av (av_bool (show (decide (((anyW p.Msg i.toNat) = true) ∨ (0 < (wt1 (ix [] p.Msg i)))) : Bool) = anyW p.Msg (i + 1).toNat by exact anyW_dec p.Msg h0)), rfl, rfl, rfl, rfl, trivial⟩ rfl)
      · refine ent_exit ?_
        refine ent_k hK13 ?_
        refine ent_seq fun K19 hK19 => ?_
        refine ent_seq fun K20 hK20 => ?_
        refine ent_region ?_
        refine ent_o rfl (ok_move rfl) ?_
        refine ent_o rfl (ok_len rfl Try.runUnderlying42 rfl) ?_
        refine ent_o rfl (ok_move rfl) ?_
        refine ent_nil ?_
        refine ent_k hK20 ?_
        refine ent_block ?_
        refine ent_loop (fun (j : Int) => (⟨[(3, aEx (.pointer (some ⟨b3_1, 0, none⟩))), (8, aBool (anyW p.Msg i.toNat)), (9, aInt (wtTo (c.encB (c.termTo p.Msg d)) j.toNat)), (54, aSl 1 false aInts (c.encB (c.termTo p.Msg d))), (55, aInt (↑(c.encB (c.termTo p.Msg d)).length : Int)), (56, aInt j)], [oBox b3_1 55 [aInt p.D, aSl 1 false aInts p.Msg, aSl 1 false aInt p.Pot]]⟩ : St)) (fun (j : Int) => (0 ≤ j) ∧ (j ≤ (c.encB (c.termTo p.Msg d)).length)) (fun (j : Int) => ((c.encB (c.termTo p.Msg d)).length - j).toNat) 0 ⟨(by first | rfl | assumption | omega | (simp_all; done) | grind), (by first | rfl | assumption | omega | (simp_all; done) | grind)⟩ (ent_rep ⟨rfl, rfl, slot_av (av_int (show 0 = wtTo (c.encB (c.termTo p.Msg d)) (0 : Int).toNat by rfl)), rfl, rfl, slot_av (av_int (show 0 = (0 : Int) by first | rfl | assumption | omega | (simp_all; done) | grind)), trivial⟩ rfl) ?_
        rintro j ⟨j0, j1⟩
        show Ent _ (⟨[(3, aEx (.pointer (some ⟨b3_1, 0, none⟩))), (8, aBool (anyW p.Msg i.toNat)), (9, aInt (wtTo (c.encB (c.termTo p.Msg d)) j.toNat)), (54, aSl 1 false aInts (c.encB (c.termTo p.Msg d))), (55, aInt (↑(c.encB (c.termTo p.Msg d)).length : Int)), (56, aInt j)], [oBox b3_1 55 [aInt p.D, aSl 1 false aInts p.Msg, aSl 1 false aInt p.Pot]]⟩ : St) _
        have hwb := wtTo_le (c.encB (c.termTo p.Msg d)) (by omega) hrl j.toNat (by omega)
        have hwn := wtTo_nonneg (c.encB (c.termTo p.Msg d)) j.toNat
        refine ent_seq fun K21 hK21 => ?_
        refine ent_region ?_
        refine ent_o rfl (ok_lss rfl rfl) ?_
        refine ent_nil ?_
        refine ent_k hK21 ?_
        refine ent_seq fun K22 hK22 => ?_
        refine ent_condD rfl (fun h57 => ?_) (fun h57 => ?_)
        · have hjl := hrl _ (ix_mem [] _ j0 h57)
          have hj1 := wt1To_le (ix [] (c.encB (c.termTo p.Msg d)) j) (ix [] (c.encB (c.termTo p.Msg d)) j).length
          change 0 ≤ wt1 _ ∧ wt1 _ ≤ _ at hj1
          refine ent_skip ?_
          refine ent_k hK22 ?_
          refine ent_seq fun K23 hK23 => ?_
          refine ent_block ?_
          refine ent_seq fun K24 hK24 => ?_
          refine ent_region ?_
          refine ent_o rfl (ok_index [] sl42 rfl rfl (by omega) (by omega)) ?_
          refine ent_o rfl (ok_load ti22 rfl) ?_
          refine ent_o rfl (ok_assign rfl) ?_
          refine ent_nil ?_
          refine ent_k hK24 ?_
          refine ent_region ?_
          refine ent_o rfl (ok_move rfl) ?_
          refine ent_o rfl (ok_move rfl) ?_
          refine ent_o rfl (ok_call (weight_ok (ix [] (c.encB (c.termTo p.Msg d)) j)) rfl) ?_
          refine ent_o rfl (ok_add rfl rfl (by omega) (by omega)) ?_
          refine ent_o rfl (ok_assign rfl) ?_
          refine ent_nil ?_
          refine ent_k hK23 ?_
          refine ent_region ?_
          refine ent_o rfl (ok_add rfl rfl (by omega) (by omega)) ?_
          refine ent_o rfl (ok_move rfl) ?_
          refine ent_nil ?_
          refine ent_again (s := (j)) (j + 1) ⟨(by first | rfl | assumption | omega | (simp_all; done) | grind), (by first | rfl | assumption | omega | (simp_all; done) | grind)⟩ (by first | omega | (dsimp only; omega)) (ent_rep ⟨rfl, rfl, slot_av (av_int (show (wtTo (c.encB (c.termTo p.Msg d)) j.toNat) + (wt1 (ix [] (c.encB (c.termTo p.Msg d)) j)) = wtTo (c.encB (c.termTo p.Msg d)) (j + 1).toNat by exact (wtTo_succ _ j0).symm)), rfl, rfl, rfl, trivial⟩ rfl)
        · have haw := anyW_all p.Msg (show i = p.Msg.length by omega)
          have htl : wtTo (c.encB (c.termTo p.Msg d)) j.toNat = wtL (c.encL (c.term p.Msg)) := by rw [show j.toNat = (c.encB (c.termTo p.Msg d)).length by omega, hEb, hdm]; rfl
          refine ent_exit ?_
          refine ent_k hK19 ?_
          refine ent_seq fun K25 hK25 => ?_
          refine ent_cut (⟨[(4, aBool (decide (((anyW p.Msg i.toNat) = true) ∧ ((wtTo (c.encB (c.termTo p.Msg d)) j.toNat) = p.D))))], [oBox b3_1 55 [aInt p.D, aSl 1 false aInts p.Msg, aSl 1 false aInt p.Pot]]⟩) ?_ ?_
          · refine ent_region ?_
            refine ent_o rfl (ok_move rfl) ?_
            refine ent_o rfl (ok_move rfl) ?_
            refine ent_guardX rfl rfl rfl rfl (fun hg66 => ?_) (fun hg66 => ?_)
            · refine ent_o rfl (ok_move rfl) ?_
              refine ent_guardXT rfl rfl rfl rfl hg66 ?_
              refine ent_o rfl (ok_fieldAddrEx Try.runUnderlying55 rfl Try.sizeOf3 (by decide) rfl) ?_
              refine ent_guardXT rfl rfl rfl rfl hg66 ?_
              refine ent_o rfl (ok_loadB (k := 0) Try.isAgg3 rfl rfl rfl) ?_
              refine ent_guardXT rfl rfl rfl rfl hg66 ?_
              refine ent_o rfl (ok_eql rfl rfl) ?_
              refine ent_o rfl (ok_pickT rfl hg66 rfl) ?_
              refine ent_o rfl (ok_assign rfl) ?_
              refine ent_nil ?_
              exact ent_rep ⟨slot_bool (dq_Q ((and_iff_right hg66).trans Iff.rfl)), trivial⟩ rfl
            · refine ent_guardXF rfl rfl rfl rfl hg66 ?_
              refine ent_guardXF rfl rfl rfl rfl hg66 ?_
              refine ent_guardXF rfl rfl rfl rfl hg66 ?_
              refine ent_o rfl (ok_pickF rfl hg66 rfl) ?_
              refine ent_o rfl (ok_assign rfl) ?_
              refine ent_nil ?_
              exact ent_rep ⟨slot_bool (dq_F rfl (fun h => (nt_of hg66) h.1)), trivial⟩ rfl
          refine ent_k hK25 ?_
          refine ent_ret ?_
          exact retR1 (.inr rfl) Try.results77 (resr_tmp (res_cv rfl (cv_bool (by first | exact (decide_eq_false hno).symm | exact decide_eq_decide.2 ⟨fun h => ⟨hG, haw.1 h.1, by rw [← htl]; exact h.2⟩, fun h => ⟨haw.2 h.2.1, by rw [htl]; exact h.2.2⟩⟩))))
end Go.Proofs.Ytfjhbdfgbpcchaa
