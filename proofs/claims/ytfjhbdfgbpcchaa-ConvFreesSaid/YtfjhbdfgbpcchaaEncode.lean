/-
  Encode.
-/
import Derived.Test.YtfjhbdfgbpcchaaProg
import Derived.Test.YtfjhbdfgbpcchaaTab
import Derived.Test.YtfjhbdfgbpcchaaCy
import Derived.Test.YtfjhbdfgbpcchaaPlainP
import Derived.Test.YtfjhbdfgbpcchaaFieldA
import Derived.Test.YtfjhbdfgbpcchaaFieldB
import Derived.Test.YtfjhbdfgbpcchaaFieldC
import Derived.Test.YtfjhbdfgbpcchaaFieldE
import Derived.Test.YtfjhbdfgbpcchaaPoly
import Derived.Test.YtfjhbdfgbpcchaaBuild
import Derived.Test.YtfjhbdfgbpcchaaRefC
import Derived.Test.YtfjhbdfgbpcchaaStep
import Derived.Test.YtfjhbdfgbpcchaaRefN
open Go Go.Cw
namespace Go.Proofs.Ytfjhbdfgbpcchaa
set_option maxRecDepth 100000
set_option linter.unusedVariables false
set_option linter.unusedSimpArgs false
theorem SameRows_ok (a b : List (List Int))  : Ctr Try.prog 28 [aSl 1 false aInts a, aSl 1 false aInts b] (aBool (decide (a = b))) := by
  refine ctr_of Try.call28 Try.func28 rfl rfl ?_
  intro w O
  refine ent_len 0 rfl (fun hlen0 => ?_)
  refine ent_len 1 rfl (fun hlen1 => ?_)
  refine ent_seq fun K1 hK1 => ?_
  refine ent_region ?_
  refine ent_o rfl (ok_assign rfl) ?_
  refine ent_nil ?_
  refine ent_k hK1 ?_
  refine ent_seq fun K2 hK2 => ?_
  refine ent_seq fun K3 hK3 => ?_
  refine ent_region ?_
  refine ent_o rfl (ok_move rfl) ?_
  refine ent_o rfl (ok_len rfl Try.runUnderlying42 rfl) ?_
  refine ent_o rfl (ok_move rfl) ?_
  refine ent_o rfl (ok_len rfl Try.runUnderlying42 rfl) ?_
  refine ent_o rfl (ok_neq rfl rfl) ?_
  refine ent_nil ?_
  refine ent_k hK3 ?_
  refine ent_condD rfl (fun h10 => ?_) (fun h10 => ?_)
  · refine ent_seq fun K4 hK4 => ?_
    refine ent_region ?_
    refine ent_o rfl (ok_assign rfl) ?_
    refine ent_nil ?_
    refine ent_k hK4 ?_
    refine ent_ret ?_
    exact retR1 (.inr rfl) Try.results28 (resr_tmp (res_cv rfl (cv_bool (by first | exact (decide_eq_false (fun h => by subst h; omega)).symm | exact (decide_eq_false (fun h => h26 (by rw [h]))).symm | exact (decide_eq_true (by rw [List.take_of_length_le (by omega), List.take_of_length_le (by omega)] at he; exact he)).symm))))
  · refine ent_skip ?_
    refine ent_k hK2 ?_
    refine ent_seq fun K5 hK5 => ?_
    refine ent_seq fun K6 hK6 => ?_
    refine ent_region ?_
    refine ent_o rfl (ok_assign rfl) ?_
    refine ent_nil ?_
    refine ent_k hK6 ?_
    refine ent_block ?_
    refine ent_loop (fun (i : Int) => (⟨[(0, aSl 1 false aInts a), (1, aSl 1 false aInts b), (5, aInt i)], []⟩ : St)) (fun (i : Int) => (0 ≤ i) ∧ (i ≤ a.length) ∧ (a.take i.toNat = b.take i.toNat)) (fun (i : Int) => (a.length - i).toNat) 0 ⟨(by first | rfl | assumption | omega | (simp_all; done) | grind), (by first | rfl | assumption | omega | (simp_all; done) | grind), rfl⟩ (ent_rep ⟨rfl, rfl, slot_av (av_int (show 0 = (0 : Int) by first | rfl | assumption | omega | (simp_all; done) | grind)), trivial⟩ rfl) ?_
    rintro i ⟨h0, h1, he⟩
    show Ent _ (⟨[(0, aSl 1 false aInts a), (1, aSl 1 false aInts b), (5, aInt i)], []⟩ : St) _
    refine ent_seq fun K7 hK7 => ?_
    refine ent_seq fun K8 hK8 => ?_
    refine ent_region ?_
    refine ent_o rfl (ok_move rfl) ?_
    refine ent_o rfl (ok_move rfl) ?_
    refine ent_o rfl (ok_len rfl Try.runUnderlying42 rfl) ?_
    refine ent_o rfl (ok_lss rfl rfl) ?_
    refine ent_nil ?_
    refine ent_k hK8 ?_
    refine ent_condD rfl (fun h14 => ?_) (fun h14 => ?_)
    · refine ent_skip ?_
      refine ent_k hK7 ?_
      refine ent_seq fun K9 hK9 => ?_
      refine ent_block ?_
      refine ent_seq fun K10 hK10 => ?_
      refine ent_draw 10 mixed (by kernel_rfl) (by kernel_rfl) (by kernel_rfl) ?_
      refine dw_o rfl (ok_move rfl) ?_
      refine dw_o rfl (ok_move rfl) ?_
      refine dw_o rfl (ok_index [] sl42 rfl rfl (by omega) (by omega)) ?_
      refine dw_o rfl (ok_load ti22 rfl) ?_
      refine dw_o rfl (ok_move rfl) ?_
      refine dw_o rfl (ok_move rfl) ?_
      refine dw_o rfl (ok_index [] sl42 rfl rfl (by omega) (by omega)) ?_
      refine dw_o rfl (ok_load ti22 rfl) ?_
      refine dw_o rfl (ok_call (SameInts_ok (ix [] a i) (ix [] b i)) rfl) ?_
      refine dw_o rfl (ok_notD rfl) ?_
      refine dw_nil ?_
      refine ent_nil ?_
      refine ent_k hK10 ?_
      refine ent_condD rfl (fun h26 => ?_) (fun h26 => ?_)
      · refine ent_seq fun K11 hK11 => ?_
        refine ent_region ?_
        refine ent_o rfl (ok_assign rfl) ?_
        refine ent_nil ?_
        refine ent_k hK11 ?_
        refine ent_ret ?_
        exact retR1 (.inr rfl) Try.results28 (resr_tmp (res_cv rfl (cv_bool (by first | exact (decide_eq_false (fun h => by subst h; omega)).symm | exact (decide_eq_false (fun h => h26 (by rw [h]))).symm | exact (decide_eq_true (by rw [List.take_of_length_le (by omega), List.take_of_length_le (by omega)] at he; exact he)).symm))))
      · refine ent_skip ?_
        refine ent_k hK9 ?_
        refine ent_region ?_
        refine ent_o rfl (ok_move rfl) ?_
        refine ent_o rfl (ok_add rfl rfl (by omega) (by omega)) ?_
        refine ent_o rfl (ok_assign rfl) ?_
        refine ent_nil ?_
        refine ent_again (s := (i)) (i + 1) ⟨(by first | rfl | assumption | omega | (simp_all; done) | grind), (by first | rfl | assumption | omega | (simp_all; done) | grind), (by rw [take_succ_ix [] a h0 (by omega), take_succ_ix [] b h0 (by omega), he, Classical.not_not.1 h26])⟩ (by first | omega | (dsimp only; omega)) (ent_rep ⟨rfl, rfl, rfl, trivial⟩ rfl)
    · refine ent_exit ?_
      refine ent_k hK5 ?_
      refine ent_seq fun K12 hK12 => ?_
      refine ent_region ?_
      refine ent_o rfl (ok_assign rfl) ?_
      refine ent_nil ?_
      refine ent_k hK12 ?_
      refine ent_ret ?_
      exact retR1 (.inr rfl) Try.results28 (resr_tmp (res_cv rfl (cv_bool (by first | exact (decide_eq_false (fun h => by subst h; omega)).symm | exact (decide_eq_false (fun h => h26 (by rw [h]))).symm | exact (decide_eq_true (by rw [List.take_of_length_le (by omega), List.take_of_length_le (by omega)] at he; exact he)).symm))))

theorem encode_ok (c : Cnv) (us : List (List Int)) (hFew : c.Few) (hOk : c.Ok) (hul : us.length ≤ 10000) : Ctr Try.prog 67 [aMach c, aSl 1 false aInts us] (aTup [aSl 1 false aInts (c.encB us), aInt (c.stepsErr us)]) := by
  have hF := hOk.fld
  have hS := hF.1
  have hq := hS.bd
  have hik : c.k = (c.Gen.length : Int) := rfl
  have hen : c.n = ((ix [] c.Gen 0).length : Int) := rfl
  have hkn := hOk.kn
  have hnl := hOk.len
  refine ctr_of Try.call67 Try.func67 rfl rfl ?_
  intro w O
  refine ent_lenP 0 1 rfl rfl (fun hlen0_1 => ?_)
  refine ent_lenP 0 4 rfl rfl (fun hlen0_4 => ?_)
  refine ent_lenP 0 8 rfl rfl (fun hlen0_8 => ?_)
  refine ent_len 1 rfl (fun hlen1 => ?_)
  refine ent_seq fun K1 hK1 => ?_
  refine ent_region ?_
  refine ent_o rfl (ok_assign rfl) ?_
  refine ent_o rfl (ok_assign rfl) ?_
  refine ent_nil ?_
  refine ent_k hK1 ?_
  refine ent_seq fun K2 hK2 => ?_
  refine ent_region ?_
  refine ent_o rfl (ok_assign rfl) ?_
  refine ent_nil ?_
  refine ent_k hK2 ?_
  refine ent_seq fun K3 hK3 => ?_
  refine ent_region ?_
  refine ent_o rfl (ok_assign rfl) ?_
  refine ent_nil ?_
  refine ent_k hK3 ?_
  refine ent_seq fun K4 hK4 => ?_
  refine ent_seq fun K5 hK5 => ?_
  refine ent_region ?_
  refine ent_o rfl (ok_move rfl) ?_
  refine ent_o rfl (ok_len rfl Try.runUnderlying42 rfl) ?_
  refine ent_o rfl (ok_move rfl) ?_
  refine ent_nil ?_
  refine ent_k hK5 ?_
  refine ent_block ?_
  refine ent_open 22 1 false aInts (fun _ => rfl) ?_
  refine ent_loop (fun (ss : Int × Option Nat × Nat) => match ss with | (i, rr2, cc2) => (⟨[(0, aMach c), (6, aEx (vec rr2 ((mapR (c.encO us) i).length) cc2)), (7, aInt (c.encS us i.toNat)), (13, aSl 1 false aInts us), (14, aInt (↑us.length : Int)), (15, aInt i)], [oVec rr2 cc2 22 1 false aInts (mapR (c.encO us) i)]⟩ : St)) (fun (ss : Int × Option Nat × Nat) => match ss with | (i, rr2, cc2) => (0 ≤ i) ∧ (i ≤ us.length) ∧ (c.OkTo us i)) (fun (ss : Int × Option Nat × Nat) => match ss with | (i, rr2, cc2) => (us.length - i).toNat) (0, none, 0) ⟨(by first | rfl | assumption | omega | (simp_all; done) | grind), (by first | rfl | assumption | omega | (simp_all; done) | grind), (Cnv.OkTo.zero c us)⟩ (ent_rep ⟨rfl, slot_av ((show aEx (vec none ([] : List _).length 0) = aEx (vec none ((mapR (c.encO us) (0 : Int)).length) 0) from av_vec (congrArg List.length (show mapR (c.encO us) (0 : Int) = [] by first | rfl | simp [mapR_zero]).symm))), slot_av (av_int (show 0 = c.encS us (0 : Int).toNat by rfl)), rfl, rfl, slot_av (av_int (show 0 = (0 : Int) by first | rfl | assumption | omega | (simp_all; done) | grind)), trivial⟩ (own_cons (own_vec (show mapR (c.encO us) (0 : Int) = [] by first | rfl | simp [mapR_zero])) (rfl))) ?_
  rintro ⟨i, rr2, cc2⟩ ⟨h0, h1, ho⟩
  show Ent _ (⟨[(0, aMach c), (6, aEx (vec rr2 ((mapR (c.encO us) i).length) cc2)), (7, aInt (c.encS us i.toNat)), (13, aSl 1 false aInts us), (14, aInt (↑us.length : Int)), (15, aInt i)], [oVec rr2 cc2 22 1 false aInts (mapR (c.encO us) i)]⟩ : St) _
  have lme := length_mapR (c.encO us) i
  refine ent_seq fun K6 hK6 => ?_
  refine ent_region ?_
  refine ent_o rfl (ok_lss rfl rfl) ?_
  refine ent_nil ?_
  refine ent_k hK6 ?_
  refine ent_seq fun K7 hK7 => ?_
  refine ent_condD rfl (fun h16 => ?_) (fun h16 => ?_)
  · have hb := Cnv.encS_lt_to (c := c) (us := us) hq.2.2.2.2.2.1 i.toNat (by omega) (by rw [show ((i.toNat : Nat) : Int) = i by omega]; exact ho)
    refine ent_skip ?_
    refine ent_k hK7 ?_
    refine ent_seq fun K8 hK8 => ?_
    refine ent_block ?_
    refine ent_seq fun K9 hK9 => ?_
    refine ent_region ?_
    refine ent_o rfl (ok_index [] sl42 rfl rfl (by omega) (by omega)) ?_
    refine ent_o rfl (ok_load ti22 rfl) ?_
    refine ent_o rfl (ok_assign rfl) ?_
    refine ent_nil ?_
    refine ent_k hK9 ?_
    refine ent_seq fun K10 hK10 => ?_
    refine ent_seq fun K11 hK11 => ?_
    refine ent_region ?_
    refine ent_o rfl (ok_move rfl) ?_
    refine ent_o rfl (ok_move rfl) ?_
    refine ent_o rfl (ok_call (input_ok c (ix [] us i)) rfl) ?_
    refine ent_o rfl (ok_assign rfl) ?_
    refine ent_nil ?_
    refine ent_k hK11 ?_
    refine ent_seq fun K12 hK12 => ?_
    refine ent_region ?_
    refine ent_o rfl (ok_move rfl) ?_
    refine ent_o rfl (ok_neq rfl rfl) ?_
    refine ent_nil ?_
    refine ent_k hK12 ?_
    refine ent_condD rfl (fun h23 => ?_) (fun h23 => ?_)
    · have he := ho.bad h0 h16 h23
      refine ent_seq fun K13 hK13 => ?_
      refine ent_region ?_
      refine ent_o rfl (ok_move rfl) ?_
      refine ent_o rfl (ok_assign rfl) ?_
      refine ent_o rfl (ok_assign rfl) ?_
      refine ent_nil ?_
      refine ent_k hK13 ?_
      refine ent_ret ?_
      exact retR2 (.inr rfl) Try.results67 (resr_tmp (res_cv rfl (cv_nil (fun _ => rfl) (by exact (if_neg (by rw [he]; exact h23)).symm)))) (resr_tmp (res_cv rfl (cv_int (by exact he.symm))))
    · have hgi := Cnv.inErr_zero.1 (Classical.not_not.1 h23)
      refine ent_skip ?_
      refine ent_k hK10 ?_
      refine ent_seq fun K14 hK14 => ?_
      refine ent_region ?_
      refine ent_o rfl (ok_move rfl) ?_
      refine ent_o rfl (ok_move rfl) ?_
      refine ent_o rfl (ok_move rfl) ?_
      refine ent_o rfl (ok_call (CtrF.ctr (step_ok c (c.encS us i.toNat) (ix [] us i) (by first | rfl | assumption | omega | (simp_all; done) | grind) (by first | rfl | assumption | omega | (simp_all; done) | grind) hb.1 hb.2 hgi)) rfl) ?_
      refine ent_o rfl (ok_move rfl) ?_
      refine ent_o rfl (ok_extract rfl rfl) ?_
      refine ent_o rfl (ok_extract rfl rfl) ?_
      refine ent_o rfl (ok_assign rfl) ?_
      refine ent_o rfl (ok_assign rfl) ?_
      refine ent_nil ?_
      refine ent_k hK14 ?_
      refine ent_seq fun K15 hK15 => ?_
      refine ent_region ?_
      refine ent_o rfl (ok_move rfl) ?_
      refine ent_o rfl (ok_move rfl) ?_
      refine ent_appendL (k := 0) (enc := aInts) (y := c.outL (c.encS us i.toNat) (ix [] us i)) rfl rfl vt42 rfl rfl (by first | rfl | (simp; done) | (simp_all; done) | omega) rfl ((elem_one one_sl)) (by first | omega | (simp only [List.length_append, List.length_cons, List.length_nil]; omega) | (simp; omega)) (by first | omega | (simp only [List.length_append, List.length_cons, List.length_nil]; omega) | (simp; omega)) (by decide) (fun b35_3 c35_3 => ?_)
      refine ent_o rfl (ok_assign rfl) ?_
      refine ent_nil ?_
      refine ent_k hK15 ?_
      refine ent_region ?_
      refine ent_o rfl (ok_move rfl) ?_
      refine ent_o rfl (ok_assign rfl) ?_
      refine ent_nil ?_
      refine ent_k hK8 ?_
      refine ent_region ?_
      refine ent_o rfl (ok_add rfl rfl (by omega) (by omega)) ?_
      refine ent_o rfl (ok_move rfl) ?_
      refine ent_nil ?_
      refine ent_again (s := (i, rr2, cc2)) (i + 1, (some b35_3), c35_3) ⟨(by first | rfl | assumption | omega | (simp_all; done) | grind), (by first | rfl | assumption | omega | (simp_all; done) | grind), (ho.succ h0 h16 (Classical.not_not.1 h23))⟩ (by first | omega | (dsimp only; omega)) (ent_rep ⟨rfl, slot_av (av_vec (congrArg List.length (show mapR (c.encO us) (i + 1) = (mapR (c.encO us) i) ++ [c.outL (c.encS us i.toNat) (ix [] us i)] by exact mapR_succ (c.encO us) h0).symm)), slot_av (av_int (show c.nxt (c.encS us i.toNat) (ix [] us i) c.Gen.length = c.encS us (i + 1).toNat by exact (c.encS_succ us h0).symm)), rfl, rfl, rfl, trivial⟩ (own_cons (own_vec (show mapR (c.encO us) (i + 1) = (mapR (c.encO us) i) ++ [c.outL (c.encS us i.toNat) (ix [] us i)] by exact mapR_succ (c.encO us) h0)) (rfl)))
  · have he := ho.all (by omega)
    refine ent_exit ?_
    refine ent_k hK4 ?_
    refine ent_seq fun K16 hK16 => ?_
    refine ent_region ?_
    refine ent_o rfl (ok_move rfl) ?_
    refine ent_o rfl (ok_assign rfl) ?_
    refine ent_o rfl (ok_assign rfl) ?_
    refine ent_nil ?_
    refine ent_k hK16 ?_
    refine ent_ret ?_
    exact retR2 (.inr rfl) Try.results67 (resr_tmp (res_cv rfl (cv_vec (k := 0) (off_x rfl) (by first | rfl | (simp; done) | (simp_all; done) | omega) (by rw [show i = (us.length : Int) by omega]; exact (if_pos he).symm)))) (resr_tmp (res_cv rfl (cv_int (by exact he.symm))))

theorem Encode_ok (c : Cnv) (us : List (List Int)) (hFew : c.Few) (hul : us.length ≤ 10000) : Ctr Try.prog 26 [aCnv c, aSl 1 false aInts us] (aTup [aSl 1 false aInts (c.encE us), aInt (c.encErr us)]) := by
  refine ctr_of Try.call26 Try.func26 rfl rfl ?_
  intro w O
  refine ent_lenC 0 2 rfl rfl (fun hlen0_2 => ?_)
  refine ent_lenC 0 3 rfl rfl (fun hlen0_3 => ?_)
  refine ent_len 1 rfl (fun hlen1 => ?_)
  refine ent_seq fun K1 hK1 => ?_
  refine ent_region ?_
  refine ent_boxS rfl rfl (AllOne.mem ⟨(one_int _), (one_int _), one_sl, one_sl, trivial⟩) (fun b2_1 => ?_)
  refine ent_o rfl (ok_assign rfl) ?_
  refine ent_o rfl (ok_assign rfl) ?_
  refine ent_nil ?_
  refine ent_k hK1 ?_
  refine ent_seq fun K2 hK2 => ?_
  refine ent_region ?_
  refine ent_o rfl (ok_loadBS (k := 0) ti27 rfl rfl rfl) ?_
  rcases Classical.em (c.Ok) with hOk | hOk
  · refine ent_o rfl (ok_call (build_ok c (by first | rfl | assumption | omega | (simp_all; done) | grind) hOk) rfl) ?_
    refine ent_o rfl (ok_move rfl) ?_
    refine ent_o rfl (ok_extract rfl rfl) ?_
    refine ent_o rfl (ok_extract rfl rfl) ?_
    refine ent_o rfl (ok_assign rfl) ?_
    refine ent_o rfl (ok_assign rfl) ?_
    refine ent_nil ?_
    refine ent_k hK2 ?_
    refine ent_seq fun K3 hK3 => ?_
    refine ent_seq fun K4 hK4 => ?_
    refine ent_region ?_
    refine ent_o rfl (ok_move rfl) ?_
    refine ent_o rfl (ok_neq rfl rfl) ?_
    refine ent_nil ?_
    refine ent_k hK4 ?_
    refine ent_condFP rfl (by decide) ?_
    refine ent_skip ?_
    refine ent_k hK3 ?_
    refine ent_seq fun K5 hK5 => ?_
    refine ent_region ?_
    refine ent_o rfl (ok_move rfl) ?_
    refine ent_o rfl (ok_move rfl) ?_
    refine ent_o rfl (ok_call (encode_ok c us (by first | rfl | assumption | omega | (simp_all; done) | grind) hOk (by first | rfl | assumption | omega | (simp_all; done) | grind)) rfl) ?_
    refine ent_o rfl (ok_extract rfl rfl) ?_
    refine ent_o rfl (ok_extract rfl rfl) ?_
    refine ent_o rfl (ok_assign rfl) ?_
    refine ent_o rfl (ok_assign rfl) ?_
    refine ent_nil ?_
    refine ent_k hK5 ?_
    refine ent_ret ?_
    exact retR2 (.inr rfl) Try.results26 (resr_tmp (res_cv rfl (cv_sl sub_x (by unfold Cnv.encE Cnv.encErr; rw [if_pos (Cnv.err_zero.2 hOk)]; rfl)))) (resr_tmp (res_cv rfl (cv_int (by unfold Cnv.encErr; rw [if_pos (Cnv.err_zero.2 hOk)]))))
  · refine ent_o rfl (ok_call (build_no c (by first | rfl | assumption | omega | (simp_all; done) | grind) hOk) rfl) ?_
    refine ent_o rfl (ok_move rfl) ?_
    refine ent_o rfl (ok_extract rfl rfl) ?_
    refine ent_o rfl (ok_extract rfl rfl) ?_
    refine ent_o rfl (ok_assign rfl) ?_
    refine ent_o rfl (ok_assign rfl) ?_
    refine ent_nil ?_
    refine ent_k hK2 ?_
    refine ent_seq fun K6 hK6 => ?_
    refine ent_seq fun K7 hK7 => ?_
    refine ent_region ?_
    refine ent_o rfl (ok_move rfl) ?_
    refine ent_o rfl (ok_neq rfl rfl) ?_
    refine ent_nil ?_
    refine ent_k hK7 ?_
    refine ent_condD rfl (fun h14 => ?_) (fun h14 => ?_)
    · have he : c.encErr us = c.err := if_neg h14
      refine ent_seq fun K8 hK8 => ?_
      refine ent_region ?_
      refine ent_o rfl (ok_move rfl) ?_
      refine ent_o rfl (ok_assign rfl) ?_
      refine ent_o rfl (ok_assign rfl) ?_
      refine ent_nil ?_
      refine ent_k hK8 ?_
      refine ent_ret ?_
      exact retR2 (.inr rfl) Try.results26 (resr_tmp (res_cv rfl (cv_nil (fun _ => rfl) (by exact (if_neg (by rw [he]; exact h14)).symm)))) (resr_tmp (res_cv rfl (cv_int (by exact he.symm))))
    · exact absurd (Cnv.err_zero.1 (Classical.not_not.1 h14)) hOk

theorem rSteps_ok (c : Cnv) (us : List (List Int))  : Ctr Try.prog 27 [aCnv c, aSl 1 false aInts us] (aInt (c.stepsErr us)) := by
  refine ctr_of Try.call27 Try.func27 rfl rfl ?_
  intro w O
  refine ent_lenC 0 2 rfl rfl (fun hlen0_2 => ?_)
  refine ent_lenC 0 3 rfl rfl (fun hlen0_3 => ?_)
  refine ent_len 1 rfl (fun hlen1 => ?_)
  refine ent_seq fun K1 hK1 => ?_
  refine ent_region ?_
  refine ent_boxS rfl rfl (AllOne.mem ⟨(one_int _), (one_int _), one_sl, one_sl, trivial⟩) (fun b2_1 => ?_)
  refine ent_o rfl (ok_assign rfl) ?_
  refine ent_nil ?_
  refine ent_k hK1 ?_
  refine ent_seq fun K2 hK2 => ?_
  refine ent_seq fun K3 hK3 => ?_
  refine ent_region ?_
  refine ent_o rfl (ok_assign rfl) ?_
  refine ent_nil ?_
  refine ent_k hK3 ?_
  refine ent_block ?_
  refine ent_loop (fun (i : Int) => (⟨[(1, aSl 1 false aInts us), (2, aEx (.pointer (some ⟨b2_1, 0, none⟩))), (5, aInt i)], [oBox b2_1 27 [aInt c.F.P, aInt c.F.M, aSl 1 false aInt c.F.mod, aSl 1 false aRows c.Gen]]⟩ : St)) (fun (i : Int) => (0 ≤ i) ∧ (i ≤ us.length) ∧ (c.OkTo us i)) (fun (i : Int) => (us.length - i).toNat) 0 ⟨(by first | rfl | assumption | omega | (simp_all; done) | grind), (by first | rfl | assumption | omega | (simp_all; done) | grind), (Cnv.OkTo.zero c us)⟩ (ent_rep ⟨rfl, rfl, slot_av (av_int (show 0 = (0 : Int) by first | rfl | assumption | omega | (simp_all; done) | grind)), trivial⟩ rfl) ?_
  rintro i ⟨h0, h1, ho⟩
  show Ent _ (⟨[(1, aSl 1 false aInts us), (2, aEx (.pointer (some ⟨b2_1, 0, none⟩))), (5, aInt i)], [oBox b2_1 27 [aInt c.F.P, aInt c.F.M, aSl 1 false aInt c.F.mod, aSl 1 false aRows c.Gen]]⟩ : St) _
  refine ent_seq fun K4 hK4 => ?_
  refine ent_seq fun K5 hK5 => ?_
  refine ent_region ?_
  refine ent_o rfl (ok_move rfl) ?_
  refine ent_o rfl (ok_move rfl) ?_
  refine ent_o rfl (ok_len rfl Try.runUnderlying42 rfl) ?_
  refine ent_o rfl (ok_lss rfl rfl) ?_
  refine ent_nil ?_
  refine ent_k hK5 ?_
  refine ent_condD rfl (fun h10 => ?_) (fun h10 => ?_)
  · refine ent_skip ?_
    refine ent_k hK4 ?_
    refine ent_seq fun K6 hK6 => ?_
    refine ent_block ?_
    refine ent_seq fun K7 hK7 => ?_
    refine ent_draw 7 mixed (by kernel_rfl) (by kernel_rfl) (by kernel_rfl) ?_
    refine dw_o rfl (ok_loadBS (k := 0) ti27 rfl rfl rfl) ?_
    refine dw_o rfl (ok_move rfl) ?_
    refine dw_o rfl (ok_move rfl) ?_
    refine dw_o rfl (ok_index [] sl42 rfl rfl (by omega) (by omega)) ?_
    refine dw_o rfl (ok_load ti22 rfl) ?_
    refine dw_o rfl (ok_call (rCnvList_ok c (ix [] us i)) rfl) ?_
    refine dw_o rfl (ok_assign rfl) ?_
    refine dw_nil ?_
    refine ent_nil ?_
    refine ent_k hK7 ?_
    refine ent_seq fun K8 hK8 => ?_
    refine ent_region ?_
    refine ent_o rfl (ok_move rfl) ?_
    refine ent_o rfl (ok_neq rfl rfl) ?_
    refine ent_nil ?_
    refine ent_k hK8 ?_
    refine ent_condD rfl (fun h20 => ?_) (fun h20 => ?_)
    · refine ent_seq fun K9 hK9 => ?_
      refine ent_region ?_
      refine ent_o rfl (ok_move rfl) ?_
      refine ent_o rfl (ok_assign rfl) ?_
      refine ent_nil ?_
      refine ent_k hK9 ?_
      refine ent_ret ?_
      exact retR1 (.inr rfl) Try.results27 (resr_tmp (res_cv rfl (cv_int (by exact (ho.bad h0 h10 h20).symm))))
    · refine ent_skip ?_
      refine ent_k hK6 ?_
      refine ent_region ?_
      refine ent_o rfl (ok_move rfl) ?_
      refine ent_o rfl (ok_add rfl rfl (by omega) (by omega)) ?_
      refine ent_o rfl (ok_assign rfl) ?_
      refine ent_nil ?_
      refine ent_again (s := (i)) (i + 1) ⟨(by first | rfl | assumption | omega | (simp_all; done) | grind), (by first | rfl | assumption | omega | (simp_all; done) | grind), (ho.succ h0 h10 (Classical.not_not.1 h20))⟩ (by first | omega | (dsimp only; omega)) (ent_rep ⟨rfl, rfl, rfl, trivial⟩ rfl)
  · refine ent_exit ?_
    refine ent_k hK2 ?_
    refine ent_seq fun K10 hK10 => ?_
    refine ent_region ?_
    refine ent_o rfl (ok_assign rfl) ?_
    refine ent_nil ?_
    refine ent_k hK10 ?_
    refine ent_ret ?_
    exact retR1 (.inr rfl) Try.results27 (resr_tmp (res_cv rfl (cv_int (by exact (ho.all (by omega)).symm))))

theorem rEncode_ok (c : Cnv) (us : List (List Int)) (hFew : c.Few) (hOk : c.Ok) (hg : c.GoodU us) (hul : us.length ≤ 10000) : Ctr Try.prog 29 [aCnv c, aSl 1 false aInts us] (aSl 1 false aInts (c.refL us)) := by
  have hF := hOk.fld
  have hS := hF.1
  have hq := hS.bd
  have hik : c.k = (c.Gen.length : Int) := rfl
  have hen : c.n = ((ix [] c.Gen 0).length : Int) := rfl
  have hkn := hOk.kn
  have hnl := hOk.len
  refine ctr_of Try.call29 Try.func29 rfl rfl ?_
  intro w O
  refine ent_lenC 0 2 rfl rfl (fun hlen0_2 => ?_)
  refine ent_lenC 0 3 rfl rfl (fun hlen0_3 => ?_)
  refine ent_len 1 rfl (fun hlen1 => ?_)
  refine ent_seq fun K1 hK1 => ?_
  refine ent_region ?_
  refine ent_boxS rfl rfl (AllOne.mem ⟨(one_int _), (one_int _), one_sl, one_sl, trivial⟩) (fun b2_1 => ?_)
  refine ent_o rfl (ok_assign rfl) ?_
  refine ent_nil ?_
  refine ent_k hK1 ?_
  refine ent_seq fun K2 hK2 => ?_
  refine ent_region ?_
  refine ent_o rfl (ok_assign rfl) ?_
  refine ent_nil ?_
  refine ent_k hK2 ?_
  refine ent_seq fun K3 hK3 => ?_
  refine ent_seq fun K4 hK4 => ?_
  refine ent_region ?_
  refine ent_o rfl (ok_assign rfl) ?_
  refine ent_nil ?_
  refine ent_k hK4 ?_
  refine ent_block ?_
  refine ent_open 22 1 false aInts (fun _ => rfl) ?_
  refine ent_loop (fun (ss : Int × Option Nat × Nat) => match ss with | (t, rr3, cc3) => (⟨[(1, aSl 1 false aInts us), (2, aEx (.pointer (some ⟨b2_1, 0, none⟩))), (5, aEx (vec rr3 ((mapR (c.refR us) t).length) cc3)), (6, aInt t)], [oVec rr3 cc3 22 1 false aInts (mapR (c.refR us) t), oBox b2_1 27 [aInt c.F.P, aInt c.F.M, aSl 1 false aInt c.F.mod, aSl 1 false aRows c.Gen]]⟩ : St)) (fun (ss : Int × Option Nat × Nat) => match ss with | (t, rr3, cc3) => (0 ≤ t) ∧ (t ≤ us.length)) (fun (ss : Int × Option Nat × Nat) => match ss with | (t, rr3, cc3) => (us.length - t).toNat) (0, none, 0) ⟨(by first | rfl | assumption | omega | (simp_all; done) | grind), (by first | rfl | assumption | omega | (simp_all; done) | grind)⟩ (ent_rep ⟨rfl, rfl, slot_av ((show aEx (vec none ([] : List _).length 0) = aEx (vec none ((mapR (c.refR us) (0 : Int)).length) 0) from av_vec (congrArg List.length (show mapR (c.refR us) (0 : Int) = [] by first | rfl | simp [mapR_zero]).symm))), slot_av (av_int (show 0 = (0 : Int) by first | rfl | assumption | omega | (simp_all; done) | grind)), trivial⟩ (own_cons (own_vec (show mapR (c.refR us) (0 : Int) = [] by first | rfl | simp [mapR_zero])) (rfl))) ?_
  rintro ⟨t, rr3, cc3⟩ ⟨t0, t1⟩
  show Ent _ (⟨[(1, aSl 1 false aInts us), (2, aEx (.pointer (some ⟨b2_1, 0, none⟩))), (5, aEx (vec rr3 ((mapR (c.refR us) t).length) cc3)), (6, aInt t)], [oVec rr3 cc3 22 1 false aInts (mapR (c.refR us) t), oBox b2_1 27 [aInt c.F.P, aInt c.F.M, aSl 1 false aInt c.F.mod, aSl 1 false aRows c.Gen]]⟩ : St) _
  have lmr := length_mapR (c.refR us) t
  refine ent_seq fun K5 hK5 => ?_
  refine ent_seq fun K6 hK6 => ?_
  refine ent_region ?_
  refine ent_o rfl (ok_move rfl) ?_
  refine ent_o rfl (ok_move rfl) ?_
  refine ent_o rfl (ok_len rfl Try.runUnderlying42 rfl) ?_
  refine ent_o rfl (ok_lss rfl rfl) ?_
  refine ent_nil ?_
  refine ent_k hK6 ?_
  refine ent_condD rfl (fun h14 => ?_) (fun h14 => ?_)
  · refine ent_skip ?_
    refine ent_k hK5 ?_
    refine ent_seq fun K7 hK7 => ?_
    refine ent_block ?_
    refine ent_seq fun K8 hK8 => ?_
    refine ent_region ?_
    refine ent_o rfl (ok_fieldAddrEx Try.runUnderlying27 rfl Try.sizeOf25 (by decide) rfl) ?_
    refine ent_o rfl (ok_loadB (k := 1) Try.isAgg25 rfl rfl rfl) ?_
    refine ent_o rfl (ok_index [] sl25 rfl rfl (by omega) (by omega)) ?_
    refine ent_o rfl (ok_load ti42 rfl) ?_
    refine ent_o rfl (ok_len rfl Try.runUnderlying42 rfl) ?_
    refine ent_make aInt 0 rfl vt22 rfl rfl (by omega) (by omega) (by omega) (fun _ _ => rfl) (AllV.mem ⟨rfl, trivial⟩) (fun b22_4 => ?_)
    refine ent_o rfl (ok_assign rfl) ?_
    refine ent_nil ?_
    refine ent_k hK8 ?_
    refine ent_seq fun K9 hK9 => ?_
    refine ent_seq fun K10 hK10 => ?_
    refine ent_region ?_
    refine ent_o rfl (ok_assign rfl) ?_
    refine ent_nil ?_
    refine ent_k hK10 ?_
    refine ent_block ?_
    refine ent_loop (fun (j : Int) => (⟨[(1, aSl 1 false aInts us), (2, aEx (.pointer (some ⟨b2_1, 0, none⟩))), (5, aEx (vec rr3 ((mapR (c.refR us) t).length) cc3)), (6, aInt t), (7, aEx (vec (some b22_4) (((↑(ix [] c.Gen 0).length : Int)).toNat) (((↑(ix [] c.Gen 0).length : Int)).toNat))), (8, aInt j)], [oVec (some b22_4) (((↑(ix [] c.Gen 0).length : Int)).toNat) 3 1 false aInt (fillR (fun jj => c.refTo us t jj c.Gen.length) 0 c.n j), oVec rr3 cc3 22 1 false aInts (mapR (c.refR us) t), oBox b2_1 27 [aInt c.F.P, aInt c.F.M, aSl 1 false aInt c.F.mod, aSl 1 false aRows c.Gen]]⟩ : St)) (fun (j : Int) => (0 ≤ j) ∧ (j ≤ c.n)) (fun (j : Int) => (c.n - j).toNat) 0 ⟨(by first | rfl | assumption | omega | (simp_all; done) | grind), (by first | rfl | assumption | omega | (simp_all; done) | grind)⟩ (ent_rep ⟨rfl, rfl, rfl, rfl, rfl, slot_av (av_int (show 0 = (0 : Int) by first | rfl | assumption | omega | (simp_all; done) | grind)), trivial⟩ (own_cons (own_vec (show fillR (fun jj => c.refTo us t jj c.Gen.length) 0 c.n (0 : Int) = List.replicate (((↑(ix [] c.Gen 0).length : Int)).toNat) 0 by exact fillR_zero _ _ _)) (rfl))) ?_
    rintro j ⟨j0, j1⟩
    show Ent _ (⟨[(1, aSl 1 false aInts us), (2, aEx (.pointer (some ⟨b2_1, 0, none⟩))), (5, aEx (vec rr3 ((mapR (c.refR us) t).length) cc3)), (6, aInt t), (7, aEx (vec (some b22_4) (((↑(ix [] c.Gen 0).length : Int)).toNat) (((↑(ix [] c.Gen 0).length : Int)).toNat))), (8, aInt j)], [oVec (some b22_4) (((↑(ix [] c.Gen 0).length : Int)).toNat) 3 1 false aInt (fillR (fun jj => c.refTo us t jj c.Gen.length) 0 c.n j), oVec rr3 cc3 22 1 false aInts (mapR (c.refR us) t), oBox b2_1 27 [aInt c.F.P, aInt c.F.M, aSl 1 false aInt c.F.mod, aSl 1 false aRows c.Gen]]⟩ : St) _
    have lf : (fillR (fun jj => c.refTo us t jj c.Gen.length) 0 c.n j).length = c.n.toNat := length_fillR _ 0 j0 j1
    refine ent_seq fun K11 hK11 => ?_
    refine ent_seq fun K12 hK12 => ?_
    refine ent_region ?_
    refine ent_o rfl (ok_move rfl) ?_
    refine ent_o rfl (ok_move rfl) ?_
    refine ent_o rfl (ok_lenEx rfl Try.runUnderlying22 rfl) ?_
    refine ent_o rfl (ok_lss rfl rfl) ?_
    refine ent_nil ?_
    refine ent_k hK12 ?_
    refine ent_condD rfl (fun h26 => ?_) (fun h26 => ?_)
    · refine ent_skip ?_
      refine ent_k hK11 ?_
      refine ent_seq fun K13 hK13 => ?_
      refine ent_block ?_
      refine ent_seq fun K14 hK14 => ?_
      refine ent_region ?_
      refine ent_o rfl (ok_assign rfl) ?_
      refine ent_nil ?_
      refine ent_k hK14 ?_
      refine ent_block ?_
      refine ent_loop (fun (i : Int) => (⟨[(1, aSl 1 false aInts us), (2, aEx (.pointer (some ⟨b2_1, 0, none⟩))), (5, aEx (vec rr3 ((mapR (c.refR us) t).length) cc3)), (6, aInt t), (7, aEx (vec (some b22_4) (((↑(ix [] c.Gen 0).length : Int)).toNat) (((↑(ix [] c.Gen 0).length : Int)).toNat))), (8, aInt j), (9, aInt i)], [oVec (some b22_4) (((↑(ix [] c.Gen 0).length : Int)).toNat) 3 1 false aInt (List.set (fillR (fun jj => c.refTo us t jj c.Gen.length) 0 c.n j) j.toNat (c.refTo us t j i.toNat)), oVec rr3 cc3 22 1 false aInts (mapR (c.refR us) t), oBox b2_1 27 [aInt c.F.P, aInt c.F.M, aSl 1 false aInt c.F.mod, aSl 1 false aRows c.Gen]]⟩ : St)) (fun (i : Int) => (0 ≤ i) ∧ (i ≤ c.Gen.length)) (fun (i : Int) => (c.Gen.length - i).toNat) 0 ⟨(by first | rfl | assumption | omega | (simp_all; done) | grind), (by first | rfl | assumption | omega | (simp_all; done) | grind)⟩ (ent_rep ⟨rfl, rfl, rfl, rfl, rfl, rfl, slot_av (av_int (show 0 = (0 : Int) by first | rfl | assumption | omega | (simp_all; done) | grind)), trivial⟩ (own_cons (own_vec (show List.set (fillR (fun jj => c.refTo us t jj c.Gen.length) 0 c.n j) j.toNat (c.refTo us t j (0 : Int).toNat) = fillR (fun jj => c.refTo us t jj c.Gen.length) 0 c.n j by exact set_fill0 _ j0 (by omega))) (rfl))) ?_
      rintro i ⟨h0, h1⟩
      show Ent _ (⟨[(1, aSl 1 false aInts us), (2, aEx (.pointer (some ⟨b2_1, 0, none⟩))), (5, aEx (vec rr3 ((mapR (c.refR us) t).length) cc3)), (6, aInt t), (7, aEx (vec (some b22_4) (((↑(ix [] c.Gen 0).length : Int)).toNat) (((↑(ix [] c.Gen 0).length : Int)).toNat))), (8, aInt j), (9, aInt i)], [oVec (some b22_4) (((↑(ix [] c.Gen 0).length : Int)).toNat) 3 1 false aInt (List.set (fillR (fun jj => c.refTo us t jj c.Gen.length) 0 c.n j) j.toNat (c.refTo us t j i.toNat)), oVec rr3 cc3 22 1 false aInts (mapR (c.refR us) t), oBox b2_1 27 [aInt c.F.P, aInt c.F.M, aSl 1 false aInt c.F.mod, aSl 1 false aRows c.Gen]]⟩ : St) _
      have lfs : (List.set (fillR (fun jj => c.refTo us t jj c.Gen.length) 0 c.n j) j.toNat (c.refTo us t j i.toNat)).length = c.n.toNat := by rw [List.length_set]; exact lf
      refine ent_seq fun K15 hK15 => ?_
      refine ent_seq fun K16 hK16 => ?_
      refine ent_region ?_
      refine ent_o rfl (ok_move rfl) ?_
      refine ent_o rfl (ok_fieldAddrEx Try.runUnderlying27 rfl Try.sizeOf25 (by decide) rfl) ?_
      refine ent_o rfl (ok_loadB (k := 2) Try.isAgg25 rfl rfl rfl) ?_
      refine ent_o rfl (ok_len rfl Try.runUnderlying25 rfl) ?_
      refine ent_o rfl (ok_lss rfl rfl) ?_
      refine ent_nil ?_
      refine ent_k hK16 ?_
      refine ent_condD rfl (fun h33 => ?_) (fun h33 => ?_)
      · have hrow := hOk.row h0 h33
        have hp40 := (hFew.2 _ (ix_mem [] c.Gen h0 h33)).2 _ (ix_mem [] (ix [] c.Gen i) j0 (by omega))
        refine ent_skip ?_
        refine ent_k hK15 ?_
        refine ent_seq fun K17 hK17 => ?_
        refine ent_block ?_
        refine ent_seq fun K18 hK18 => ?_
        refine ent_region ?_
        refine ent_o rfl (ok_assign rfl) ?_
        refine ent_nil ?_
        refine ent_k hK18 ?_
        refine ent_block ?_
        refine ent_loop (fun (d : Int) => (⟨[(1, aSl 1 false aInts us), (2, aEx (.pointer (some ⟨b2_1, 0, none⟩))), (5, aEx (vec rr3 ((mapR (c.refR us) t).length) cc3)), (6, aInt t), (7, aEx (vec (some b22_4) (((↑(ix [] c.Gen 0).length : Int)).toNat) (((↑(ix [] c.Gen 0).length : Int)).toNat))), (8, aInt j), (9, aInt i), (10, aInt d)], [oVec (some b22_4) (((↑(ix [] c.Gen 0).length : Int)).toNat) 3 1 false aInt (List.set (fillR (fun jj => c.refTo us t jj c.Gen.length) 0 c.n j) j.toNat (accF c.F (c.refTo us t j i.toNat) (ix [] (ix [] c.Gen i) j) (Cnv.back us i t) d.toNat)), oVec rr3 cc3 22 1 false aInts (mapR (c.refR us) t), oBox b2_1 27 [aInt c.F.P, aInt c.F.M, aSl 1 false aInt c.F.mod, aSl 1 false aRows c.Gen]]⟩ : St)) (fun (d : Int) => (0 ≤ d) ∧ (d ≤ min (t + 1) ((ix [] (ix [] c.Gen i) j).length : Int))) (fun (d : Int) => (min (t + 1) ((ix [] (ix [] c.Gen i) j).length : Int) - d).toNat) 0 ⟨(by first | rfl | assumption | omega | (simp_all; done) | grind), (by first | rfl | assumption | omega | (simp_all; done) | grind)⟩ (ent_rep ⟨rfl, rfl, rfl, rfl, rfl, rfl, rfl, slot_av (av_int (show 0 = (0 : Int) by first | rfl | assumption | omega | (simp_all; done) | grind)), trivial⟩ (own_cons (own_vec (show List.set (fillR (fun jj => c.refTo us t jj c.Gen.length) 0 c.n j) j.toNat (accF c.F (c.refTo us t j i.toNat) (ix [] (ix [] c.Gen i) j) (Cnv.back us i t) (0 : Int).toNat) = List.set (fillR (fun jj => c.refTo us t jj c.Gen.length) 0 c.n j) j.toNat (c.refTo us t j i.toNat) by rfl)) (rfl))) ?_
        rintro d ⟨d0, d1⟩
        show Ent _ (⟨[(1, aSl 1 false aInts us), (2, aEx (.pointer (some ⟨b2_1, 0, none⟩))), (5, aEx (vec rr3 ((mapR (c.refR us) t).length) cc3)), (6, aInt t), (7, aEx (vec (some b22_4) (((↑(ix [] c.Gen 0).length : Int)).toNat) (((↑(ix [] c.Gen 0).length : Int)).toNat))), (8, aInt j), (9, aInt i), (10, aInt d)], [oVec (some b22_4) (((↑(ix [] c.Gen 0).length : Int)).toNat) 3 1 false aInt (List.set (fillR (fun jj => c.refTo us t jj c.Gen.length) 0 c.n j) j.toNat (accF c.F (c.refTo us t j i.toNat) (ix [] (ix [] c.Gen i) j) (Cnv.back us i t) d.toNat)), oVec rr3 cc3 22 1 false aInts (mapR (c.refR us) t), oBox b2_1 27 [aInt c.F.P, aInt c.F.M, aSl 1 false aInt c.F.mod, aSl 1 false aRows c.Gen]]⟩ : St) _
        have lfd : (List.set (fillR (fun jj => c.refTo us t jj c.Gen.length) 0 c.n j) j.toNat (accF c.F (c.refTo us t j i.toNat) (ix [] (ix [] c.Gen i) j) (Cnv.back us i t) d.toNat)).length = c.n.toNat := by rw [List.length_set]; exact lf
        refine ent_seq fun K19 hK19 => ?_
        refine ent_seq fun K20 hK20 => ?_
        refine ent_cut (⟨[(1, aSl 1 false aInts us), (2, aEx (.pointer (some ⟨b2_1, 0, none⟩))), (5, aEx (vec rr3 ((mapR (c.refR us) t).length) cc3)), (6, aInt t), (7, aEx (vec (some b22_4) (((↑(ix [] c.Gen 0).length : Int)).toNat) (((↑(ix [] c.Gen 0).length : Int)).toNat))), (8, aInt j), (9, aInt i), (10, aInt d), (51, aBool (decide ((d ≤ t) ∧ (d < (↑(ix [] (ix [] c.Gen i) j).length : Int)))))], [oVec (some b22_4) (((↑(ix [] c.Gen 0).length : Int)).toNat) 3 1 false aInt (List.set (fillR (fun jj => c.refTo us t jj c.Gen.length) 0 c.n j) j.toNat (accF c.F (c.refTo us t j i.toNat) (ix [] (ix [] c.Gen i) j) (Cnv.back us i t) d.toNat)), oVec rr3 cc3 22 1 false aInts (mapR (c.refR us) t), oBox b2_1 27 [aInt c.F.P, aInt c.F.M, aSl 1 false aInt c.F.mod, aSl 1 false aRows c.Gen]]⟩) ?_ ?_
        · refine ent_region ?_
          refine ent_o rfl (ok_move rfl) ?_
          refine ent_o rfl (ok_move rfl) ?_
          refine ent_o rfl (ok_leq rfl rfl) ?_
          refine ent_o rfl (ok_move rfl) ?_
          refine ent_guardXDt rfl rfl rfl rfl (fun hg39 => ?_) (fun hg39 => ?_)
          · refine ent_o rfl (ok_move rfl) ?_
            refine ent_guardXT rfl rfl rfl rfl (decide_eq_true hg39) ?_
            refine ent_o rfl (ok_fieldAddrEx Try.runUnderlying27 rfl Try.sizeOf25 (by decide) rfl) ?_
            refine ent_guardXT rfl rfl rfl rfl (decide_eq_true hg39) ?_
            refine ent_o rfl (ok_loadB (k := 2) Try.isAgg25 rfl rfl rfl) ?_
            refine ent_guardXT rfl rfl rfl rfl (decide_eq_true hg39) ?_
            refine ent_o rfl (ok_move rfl) ?_
            refine ent_guardXT rfl rfl rfl rfl (decide_eq_true hg39) ?_
            refine ent_o rfl (ok_index [] sl25 rfl rfl (by omega) (by omega)) ?_
            refine ent_guardXT rfl rfl rfl rfl (decide_eq_true hg39) ?_
            refine ent_o rfl (ok_load ti42 rfl) ?_
            refine ent_guardXT rfl rfl rfl rfl (decide_eq_true hg39) ?_
            refine ent_o rfl (ok_move rfl) ?_
            refine ent_guardXT rfl rfl rfl rfl (decide_eq_true hg39) ?_
            refine ent_o rfl (ok_index [] sl42 rfl rfl (by omega) (by omega)) ?_
            refine ent_guardXT rfl rfl rfl rfl (decide_eq_true hg39) ?_
            refine ent_o rfl (ok_load ti22 rfl) ?_
            refine ent_guardXT rfl rfl rfl rfl (decide_eq_true hg39) ?_
            refine ent_o rfl (ok_len rfl Try.runUnderlying22 rfl) ?_
            refine ent_guardXT rfl rfl rfl rfl (decide_eq_true hg39) ?_
            refine ent_o rfl (ok_lss rfl rfl) ?_
            refine ent_o rfl (ok_pickT rfl (decide_eq_true hg39) rfl) ?_
            refine ent_nil ?_
            exact ent_rep ⟨rfl, rfl, rfl, rfl, rfl, rfl, rfl, rfl, slot_bool (dq_Q ((and_iff_right hg39).trans Iff.rfl)), trivial⟩ rfl
          · refine ent_guardXF rfl rfl rfl rfl (decide_eq_false hg39) ?_
            refine ent_guardXF rfl rfl rfl rfl (decide_eq_false hg39) ?_
            refine ent_guardXF rfl rfl rfl rfl (decide_eq_false hg39) ?_
            refine ent_guardXF rfl rfl rfl rfl (decide_eq_false hg39) ?_
            refine ent_guardXF rfl rfl rfl rfl (decide_eq_false hg39) ?_
            refine ent_guardXF rfl rfl rfl rfl (decide_eq_false hg39) ?_
            refine ent_guardXF rfl rfl rfl rfl (decide_eq_false hg39) ?_
            refine ent_guardXF rfl rfl rfl rfl (decide_eq_false hg39) ?_
            refine ent_guardXF rfl rfl rfl rfl (decide_eq_false hg39) ?_
            refine ent_guardXF rfl rfl rfl rfl (decide_eq_false hg39) ?_
            refine ent_o rfl (ok_pickF rfl (decide_eq_false hg39) rfl) ?_
            refine ent_nil ?_
            exact ent_rep ⟨rfl, rfl, rfl, rfl, rfl, rfl, rfl, rfl, slot_bool (dq_F rfl (fun h => hg39 h.1)), trivial⟩ rfl
        refine ent_k hK20 ?_
        refine ent_condD rfl (fun h51 => ?_) (fun h51 => ?_)
        · have hgi := hg.at (t := t - d) (by omega) (by omega)
          have hgl := hgi.1
          have hself := ix_set_self (fillR (fun jj => c.refTo us t jj c.Gen.length) 0 c.n j) (accF c.F (c.refTo us t j i.toNat) (ix [] (ix [] c.Gen i) j) (Cnv.back us i t) d.toNat) j0 (by omega)
          have hval : addF c.F (ix 0 (List.set (fillR (fun jj => c.refTo us t jj c.Gen.length) 0 c.n j) j.toNat (accF c.F (c.refTo us t j i.toNat) (ix [] (ix [] c.Gen i) j) (Cnv.back us i t) d.toNat)) j) (mulF c.F (ix 0 (ix [] (ix [] c.Gen i) j) d) (ix 0 (ix [] us (t - d)) i)) = accF c.F (c.refTo us t j i.toNat) (ix [] (ix [] c.Gen i) j) (Cnv.back us i t) (d + 1).toNat := by rw [hself, accF_succ _ _ _ _ d0, Cnv.ix_back us d0 (by omega)]
          refine ent_skip ?_
          refine ent_k hK19 ?_
          refine ent_seq fun K21 hK21 => ?_
          refine ent_block ?_
          refine ent_draw 33 mixed (by kernel_rfl) (by kernel_rfl) (by kernel_rfl) ?_
          refine dw_o rfl (ok_move rfl) ?_
          refine dw_o rfl (ok_move rfl) ?_
          refine dw_o rfl (ok_fieldAddrEx Try.runUnderlying27 rfl Try.sizeOf24 (by decide) rfl) ?_
          refine dw_o rfl (ok_loadBS (k := 2) ti24 rfl rfl rfl) ?_
          refine dw_o rfl (ok_move rfl) ?_
          refine dw_o rfl (ok_move rfl) ?_
          refine dw_o rfl (ok_indexV sl22 rfl rfl (by omega) (by omega)) ?_
          refine dw_o rfl (ok_loadV (k := 0) 0 ti3 rfl rfl (by omega) (by omega)) ?_
          refine dw_o rfl (ok_fieldAddrEx Try.runUnderlying27 rfl Try.sizeOf24 (by decide) rfl) ?_
          refine dw_o rfl (ok_loadBS (k := 2) ti24 rfl rfl rfl) ?_
          refine dw_o rfl (ok_fieldAddrEx Try.runUnderlying27 rfl Try.sizeOf25 (by decide) rfl) ?_
          refine dw_o rfl (ok_loadB (k := 2) Try.isAgg25 rfl rfl rfl) ?_
          refine dw_o rfl (ok_move rfl) ?_
          refine dw_o rfl (ok_index [] sl25 rfl rfl (by omega) (by omega)) ?_
          refine dw_o rfl (ok_load ti42 rfl) ?_
          refine dw_o rfl (ok_move rfl) ?_
          refine dw_o rfl (ok_index [] sl42 rfl rfl (by omega) (by omega)) ?_
          refine dw_o rfl (ok_load ti22 rfl) ?_
          refine dw_o rfl (ok_move rfl) ?_
          refine dw_o rfl (ok_index 0 sl22 rfl rfl (by omega) (by omega)) ?_
          refine dw_o rfl (ok_load ti3 rfl) ?_
          refine dw_o rfl (ok_move rfl) ?_
          refine dw_o rfl (ok_move rfl) ?_
          refine dw_o rfl (ok_move rfl) ?_
          refine dw_o rfl (ok_sub rfl rfl (by omega) (by omega)) ?_
          refine dw_o rfl (ok_index [] sl42 rfl rfl (by omega) (by omega)) ?_
          refine dw_o rfl (ok_load ti22 rfl) ?_
          refine dw_o rfl (ok_move rfl) ?_
          refine dw_o rfl (ok_index 0 sl22 rfl rfl (by omega) (by omega)) ?_
          refine dw_o rfl (ok_load ti3 rfl) ?_
          refine dw_o rfl (ok_call (rMul_ok c.F (ix 0 (ix [] (ix [] c.Gen i) j) d) (ix 0 (ix [] us (t - d)) i) (by first | rfl | assumption | omega | (simp_all; done) | grind)) rfl) ?_
          refine dw_o rfl (ok_call (rAdd_ok c.F (ix 0 (List.set (fillR (fun jj => c.refTo us t jj c.Gen.length) 0 c.n j) j.toNat (accF c.F (c.refTo us t j i.toNat) (ix [] (ix [] c.Gen i) j) (Cnv.back us i t) d.toNat)) j) (mulF c.F (ix 0 (ix [] (ix [] c.Gen i) j) d) (ix 0 (ix [] us (t - d)) i)) (by first | rfl | assumption | omega | (simp_all; done) | grind)) rfl) ?_
          refine dw_o rfl (ok_indexV sl22 rfl rfl (by omega) (by omega)) ?_
          refine dw_nil ?_
          refine ent_storeV (k := 0) (z := addF c.F (ix 0 (List.set (fillR (fun jj => c.refTo us t jj c.Gen.length) 0 c.n j) j.toNat (accF c.F (c.refTo us t j i.toNat) (ix [] (ix [] c.Gen i) j) (Cnv.back us i t) d.toNat)) j) (mulF c.F (ix 0 (ix [] (ix [] c.Gen i) j) d) (ix 0 (ix [] us (t - d)) i))) ti3 rfl rfl rfl (elem_one (one_int _)) (by omega) (by omega) ?_
          refine ent_nil ?_
          refine ent_k hK21 ?_
          refine ent_region ?_
          refine ent_o rfl (ok_move rfl) ?_
          refine ent_o rfl (ok_add rfl rfl (by omega) (by omega)) ?_
          refine ent_o rfl (ok_assign rfl) ?_
          refine ent_nil ?_
          refine ent_again (s := (d)) (d + 1) ⟨(by first | rfl | assumption | omega | (simp_all; done) | grind), (by first | rfl | assumption | omega | (simp_all; done) | grind)⟩ (by first | omega | (dsimp only; omega)) (ent_rep ⟨rfl, rfl, rfl, rfl, rfl, rfl, rfl, rfl, trivial⟩ (own_cons (own_vec (show List.set (fillR (fun jj => c.refTo us t jj c.Gen.length) 0 c.n j) j.toNat (accF c.F (c.refTo us t j i.toNat) (ix [] (ix [] c.Gen i) j) (Cnv.back us i t) (d + 1).toNat) = List.set (List.set (fillR (fun jj => c.refTo us t jj c.Gen.length) 0 c.n j) j.toNat (accF c.F (c.refTo us t j i.toNat) (ix [] (ix [] c.Gen i) j) (Cnv.back us i t) d.toNat)) (j).toNat (addF c.F (ix 0 (List.set (fillR (fun jj => c.refTo us t jj c.Gen.length) 0 c.n j) j.toNat (accF c.F (c.refTo us t j i.toNat) (ix [] (ix [] c.Gen i) j) (Cnv.back us i t) d.toNat)) j) (mulF c.F (ix 0 (ix [] (ix [] c.Gen i) j) d) (ix 0 (ix [] us (t - d)) i))) by rw [List.set_set, hval])) (rfl)))
        · refine ent_exit ?_
          refine ent_k hK17 ?_
          refine ent_region ?_
          refine ent_o rfl (ok_move rfl) ?_
          refine ent_o rfl (ok_add rfl rfl (by omega) (by omega)) ?_
          refine ent_o rfl (ok_assign rfl) ?_
          refine ent_nil ?_
          refine ent_again (s := (i)) (i + 1) ⟨(by first | rfl | assumption | omega | (simp_all; done) | grind), (by first | rfl | assumption | omega | (simp_all; done) | grind)⟩ (by first | omega | (dsimp only; omega)) (ent_rep ⟨rfl, rfl, rfl, rfl, rfl, rfl, rfl, trivial⟩ (own_cons (own_vec (show List.set (fillR (fun jj => c.refTo us t jj c.Gen.length) 0 c.n j) j.toNat (c.refTo us t j (i + 1).toNat) = List.set (fillR (fun jj => c.refTo us t jj c.Gen.length) 0 c.n j) j.toNat (accF c.F (c.refTo us t j i.toNat) (ix [] (ix [] c.Gen i) j) (Cnv.back us i t) d.toNat) by rw [c.refTo_succ us t j h0, show d = min (t + 1) ((ix [] (ix [] c.Gen i) j).length : Int) by omega])) (rfl)))
      · refine ent_exit ?_
        refine ent_k hK13 ?_
        refine ent_region ?_
        refine ent_o rfl (ok_move rfl) ?_
        refine ent_o rfl (ok_add rfl rfl (by omega) (by omega)) ?_
        refine ent_o rfl (ok_assign rfl) ?_
        refine ent_nil ?_
        refine ent_again (s := (j)) (j + 1) ⟨(by first | rfl | assumption | omega | (simp_all; done) | grind), (by first | rfl | assumption | omega | (simp_all; done) | grind)⟩ (by first | omega | (dsimp only; omega)) (ent_rep ⟨rfl, rfl, rfl, rfl, rfl, rfl, trivial⟩ (own_cons (own_vec (show fillR (fun jj => c.refTo us t jj c.Gen.length) 0 c.n (j + 1) = List.set (fillR (fun jj => c.refTo us t jj c.Gen.length) 0 c.n j) j.toNat (c.refTo us t j i.toNat) by rw [show i.toNat = c.Gen.length by omega]; exact (fillR_set (fun jj => c.refTo us t jj c.Gen.length) 0 j0 (by omega)).symm)) (rfl)))
    · refine ent_exit ?_
      refine ent_k hK9 ?_
      refine ent_give 0 7 rfl (cv_vec (k := 0) (off_erase rfl) (by first | rfl | (simp; done) | (simp_all; done) | omega) rfl) ?_
      refine ent_region ?_
      refine ent_o rfl (ok_move rfl) ?_
      refine ent_o rfl (ok_move rfl) ?_
      refine ent_appendL (k := 0) (enc := aInts) (y := fillR (fun jj => c.refTo us t jj c.Gen.length) 0 c.n j) rfl rfl vt42 rfl rfl (by first | rfl | (simp; done) | (simp_all; done) | omega) rfl ((elem_one one_sl)) (by first | omega | (simp only [List.length_append, List.length_cons, List.length_nil]; omega) | (simp; omega)) (by first | omega | (simp only [List.length_append, List.length_cons, List.length_nil]; omega) | (simp; omega)) (by decide) (fun b90_5 c90_5 => ?_)
      refine ent_o rfl (ok_assign rfl) ?_
      refine ent_nil ?_
      refine ent_k hK7 ?_
      refine ent_region ?_
      refine ent_o rfl (ok_move rfl) ?_
      refine ent_o rfl (ok_add rfl rfl (by omega) (by omega)) ?_
      refine ent_o rfl (ok_assign rfl) ?_
      refine ent_nil ?_
      refine ent_again (s := (t, rr3, cc3)) (t + 1, (some b90_5), c90_5) ⟨(by first | rfl | assumption | omega | (simp_all; done) | grind), (by first | rfl | assumption | omega | (simp_all; done) | grind)⟩ (by first | omega | (dsimp only; omega)) (ent_rep ⟨rfl, rfl, slot_av (av_vec (congrArg List.length (show mapR (c.refR us) (t + 1) = (mapR (c.refR us) t) ++ [fillR (fun jj => c.refTo us t jj c.Gen.length) 0 c.n j] by rw [fillR_all _ 0 (show c.n ≤ j by omega), show j = c.n by omega]; exact mapR_succ (c.refR us) t0).symm)), rfl, trivial⟩ (own_cons (own_vec (show mapR (c.refR us) (t + 1) = (mapR (c.refR us) t) ++ [fillR (fun jj => c.refTo us t jj c.Gen.length) 0 c.n j] by rw [fillR_all _ 0 (show c.n ≤ j by omega), show j = c.n by omega]; exact mapR_succ (c.refR us) t0)) (rfl)))
  · refine ent_exit ?_
    refine ent_k hK3 ?_
    refine ent_seq fun K22 hK22 => ?_
    refine ent_region ?_
    refine ent_o rfl (ok_move rfl) ?_
    refine ent_o rfl (ok_assign rfl) ?_
    refine ent_nil ?_
    refine ent_k hK22 ?_
    refine ent_ret ?_
    exact retR1 (.inr rfl) Try.results29 (resr_tmp (res_cv rfl (cv_vec (k := 0) (off_x rfl) (by first | rfl | (simp; done) | (simp_all; done) | omega) (by rw [show t = (us.length : Int) by omega]; rfl))))

theorem ConvEncodes_ok (c : Cnv) (us : List (List Int))  : Ctr Try.prog 5 [aCnv c, aSl 1 false aInts us] (aBool true) := by
  refine ctr_of Try.call5 Try.func5 rfl rfl ?_
  intro w O
  refine ent_lenC 0 2 rfl rfl (fun hlen0_2 => ?_)
  refine ent_lenC 0 3 rfl rfl (fun hlen0_3 => ?_)
  refine ent_len 1 rfl (fun hlen1 => ?_)
  refine ent_seq fun K1 hK1 => ?_
  refine ent_region ?_
  refine ent_boxS rfl rfl (AllOne.mem ⟨(one_int _), (one_int _), one_sl, one_sl, trivial⟩) (fun b2_1 => ?_)
  refine ent_o rfl (ok_assign rfl) ?_
  refine ent_nil ?_
  refine ent_k hK1 ?_
  refine ent_seq fun K2 hK2 => ?_
  refine ent_seq fun K3 hK3 => ?_
  refine ent_cut (⟨[(1, aSl 1 false aInts us), (2, aEx (.pointer (some ⟨b2_1, 0, none⟩))), (15, aBool (decide ((¬ c.Short) ∨ (100 < (↑us.length : Int)))))], [oBox b2_1 27 [aInt c.F.P, aInt c.F.M, aSl 1 false aInt c.F.mod, aSl 1 false aRows c.Gen]]⟩) ?_ ?_
  · refine ent_region ?_
    refine ent_o rfl (ok_loadBS (k := 0) ti27 rfl rfl rfl) ?_
    refine ent_o rfl (ok_call (few_ok c) rfl) ?_
    refine ent_o rfl (ok_notD rfl) ?_
    refine ent_o rfl (ok_move rfl) ?_
    refine ent_guardXDf rfl rfl rfl rfl (fun hg11 => ?_) (fun hg11 => ?_)
    · refine ent_o rfl (ok_move rfl) ?_
      refine ent_guardXT rfl rfl rfl rfl (decide_eq_false hg11) ?_
      refine ent_o rfl (ok_len rfl Try.runUnderlying42 rfl) ?_
      refine ent_guardXT rfl rfl rfl rfl (decide_eq_false hg11) ?_
      refine ent_o rfl (ok_gtr rfl rfl) ?_
      refine ent_o rfl (ok_pickF rfl (decide_eq_false hg11) rfl) ?_
      refine ent_nil ?_
      exact ent_rep ⟨rfl, rfl, slot_bool (dq_Q ((or_iff_right hg11).trans Iff.rfl)), trivial⟩ rfl
    · refine ent_guardXF rfl rfl rfl rfl (decide_eq_true hg11) ?_
      refine ent_guardXF rfl rfl rfl rfl (decide_eq_true hg11) ?_
      refine ent_o rfl (ok_pickT rfl (decide_eq_true hg11) rfl) ?_
      refine ent_nil ?_
      exact ent_rep ⟨rfl, rfl, slot_bool (dq_T rfl (Or.inl hg11)), trivial⟩ rfl
  refine ent_k hK3 ?_
  refine ent_condD rfl (fun h15 => ?_) (fun h15 => ?_)
  · refine ent_seq fun K4 hK4 => ?_
    refine ent_region ?_
    refine ent_o rfl (ok_assign rfl) ?_
    refine ent_nil ?_
    refine ent_k hK4 ?_
    refine ent_ret ?_
    exact retR1 (.inr rfl) Try.results5 (resr_tmp (res_cv rfl (cv_bool (by first | rfl | exact decide_eq_true ⟨hz, by rw [show c.encE us = c.encL us from if_pos hz]; exact Cnv.encL_eq hG.1 hG.2⟩ | exact decide_eq_true ⟨he, by rw [show c.encE us = [] from if_neg hne]; rfl⟩))))
  · have hFew : c.Few := by by_cases g : c.Short; exact g.1; exact absurd (.inl g) h15
    have hul : us.length ≤ 100 := by by_cases g : us.length ≤ 100; exact g; exact absurd (.inr (by omega)) h15
    refine ent_skip ?_
    refine ent_k hK2 ?_
    refine ent_seq fun K5 hK5 => ?_
    refine ent_region ?_
    refine ent_o rfl (ok_loadBS (k := 0) ti27 rfl rfl rfl) ?_
    refine ent_o rfl (ok_move rfl) ?_
    refine ent_o rfl (ok_call (Encode_ok c us (by first | rfl | assumption | omega | (simp_all; done) | grind) (by first | rfl | assumption | omega | (simp_all; done) | grind)) rfl) ?_
    refine ent_o rfl (ok_move rfl) ?_
    refine ent_o rfl (ok_extract rfl rfl) ?_
    refine ent_o rfl (ok_extract rfl rfl) ?_
    refine ent_o rfl (ok_assign rfl) ?_
    refine ent_o rfl (ok_assign rfl) ?_
    refine ent_nil ?_
    refine ent_k hK5 ?_
    refine ent_seq fun K6 hK6 => ?_
    refine ent_region ?_
    refine ent_o rfl (ok_loadBS (k := 0) ti27 rfl rfl rfl) ?_
    refine ent_o rfl (ok_call (rCnvCheck_ok c (by first | rfl | assumption | omega | (simp_all; done) | grind)) rfl) ?_
    refine ent_o rfl (ok_assign rfl) ?_
    refine ent_nil ?_
    refine ent_k hK6 ?_
    refine ent_seq fun K7 hK7 => ?_
    refine ent_seq fun K8 hK8 => ?_
    refine ent_region ?_
    refine ent_o rfl (ok_move rfl) ?_
    refine ent_o rfl (ok_eql rfl rfl) ?_
    refine ent_nil ?_
    refine ent_k hK8 ?_
    refine ent_condD rfl (fun h25 => ?_) (fun h25 => ?_)
    · have he : c.encErr us = c.stepsErr us := if_pos h25
      refine ent_region ?_
      refine ent_o rfl (ok_loadBS (k := 0) ti27 rfl rfl rfl) ?_
      refine ent_o rfl (ok_move rfl) ?_
      refine ent_o rfl (ok_call (rSteps_ok c us) rfl) ?_
      refine ent_o rfl (ok_assign rfl) ?_
      refine ent_nil ?_
      refine ent_k hK7 ?_
      refine ent_seq fun K9 hK9 => ?_
      refine ent_seq fun K10 hK10 => ?_
      refine ent_region ?_
      refine ent_o rfl (ok_move rfl) ?_
      refine ent_o rfl (ok_neq rfl rfl) ?_
      refine ent_nil ?_
      refine ent_k hK10 ?_
      refine ent_condD rfl (fun h30 => ?_) (fun h30 => ?_)
      · have hne : c.encErr us ≠ 0 := by rw [he]; exact h30
        refine ent_seq fun K11 hK11 => ?_
        refine ent_cut (⟨[(4, aBool (decide (((c.encErr us) = (c.stepsErr us)) ∧ ((↑(c.encE us).length : Int) = 0))))], [oBox b2_1 27 [aInt c.F.P, aInt c.F.M, aSl 1 false aInt c.F.mod, aSl 1 false aRows c.Gen]]⟩) ?_ ?_
        · refine ent_region ?_
          refine ent_o rfl (ok_move rfl) ?_
          refine ent_o rfl (ok_move rfl) ?_
          refine ent_o rfl (ok_eql rfl rfl) ?_
          refine ent_o rfl (ok_move rfl) ?_
          refine ent_guardXDt rfl rfl rfl rfl (fun hg34 => ?_) (fun hg34 => ?_)
          · refine ent_o rfl (ok_move rfl) ?_
            refine ent_guardXT rfl rfl rfl rfl (decide_eq_true hg34) ?_
            refine ent_o rfl (ok_len rfl Try.runUnderlying42 rfl) ?_
            refine ent_guardXT rfl rfl rfl rfl (decide_eq_true hg34) ?_
            refine ent_o rfl (ok_eql rfl rfl) ?_
            refine ent_o rfl (ok_pickT rfl (decide_eq_true hg34) rfl) ?_
            refine ent_o rfl (ok_assign rfl) ?_
            refine ent_nil ?_
            exact ent_rep ⟨slot_bool (dq_Q ((and_iff_right hg34).trans Iff.rfl)), trivial⟩ rfl
          · refine ent_guardXF rfl rfl rfl rfl (decide_eq_false hg34) ?_
            refine ent_guardXF rfl rfl rfl rfl (decide_eq_false hg34) ?_
            refine ent_o rfl (ok_pickF rfl (decide_eq_false hg34) rfl) ?_
            refine ent_o rfl (ok_assign rfl) ?_
            refine ent_nil ?_
            exact ent_rep ⟨slot_bool (dq_F rfl (fun h => hg34 h.1)), trivial⟩ rfl
        refine ent_k hK11 ?_
        refine ent_ret ?_
        exact retR1 (.inr rfl) Try.results5 (resr_tmp (res_cv rfl (cv_bool (by first | rfl | exact decide_eq_true ⟨hz, by rw [show c.encE us = c.encL us from if_pos hz]; exact Cnv.encL_eq hG.1 hG.2⟩ | exact decide_eq_true ⟨he, by rw [show c.encE us = [] from if_neg hne]; rfl⟩))))
      · have hz : c.encErr us = 0 := by rw [he]; exact Classical.not_not.1 h30
        have hG := Cnv.encErr_zero.1 hz
        refine ent_skip ?_
        refine ent_k hK9 ?_
        refine ent_seq fun K12 hK12 => ?_
        refine ent_cut (⟨[(4, aBool (decide (((c.encErr us) = 0) ∧ ((c.encE us) = (c.refL us)))))], [oBox b2_1 27 [aInt c.F.P, aInt c.F.M, aSl 1 false aInt c.F.mod, aSl 1 false aRows c.Gen]]⟩) ?_ ?_
        · refine ent_region ?_
          refine ent_o rfl (ok_move rfl) ?_
          refine ent_o rfl (ok_eql rfl rfl) ?_
          refine ent_o rfl (ok_move rfl) ?_
          refine ent_guardXDt rfl rfl rfl rfl (fun hg41 => ?_) (fun hg41 => ?_)
          · refine ent_o rfl (ok_move rfl) ?_
            refine ent_guardXT rfl rfl rfl rfl (decide_eq_true hg41) ?_
            refine ent_o rfl (ok_loadBS (k := 0) ti27 rfl rfl rfl) ?_
            refine ent_guardXT rfl rfl rfl rfl (decide_eq_true hg41) ?_
            refine ent_o rfl (ok_move rfl) ?_
            refine ent_guardXT rfl rfl rfl rfl (decide_eq_true hg41) ?_
            refine ent_o rfl (ok_call (rEncode_ok c us (by first | rfl | assumption | omega | (simp_all; done) | grind) hG.1 hG.2 (by first | rfl | assumption | omega | (simp_all; done) | grind)) rfl) ?_
            refine ent_guardXT rfl rfl rfl rfl (decide_eq_true hg41) ?_
            refine ent_o rfl (ok_call (SameRows_ok (c.encE us) (c.refL us)) rfl) ?_
            refine ent_o rfl (ok_pickT rfl (decide_eq_true hg41) rfl) ?_
            refine ent_o rfl (ok_assign rfl) ?_
            refine ent_nil ?_
            exact ent_rep ⟨slot_bool (dq_Q ((and_iff_right hg41).trans Iff.rfl)), trivial⟩ rfl
          · refine ent_guardXF rfl rfl rfl rfl (decide_eq_false hg41) ?_
            refine ent_guardXF rfl rfl rfl rfl (decide_eq_false hg41) ?_
            refine ent_guardXF rfl rfl rfl rfl (decide_eq_false hg41) ?_
            refine ent_guardXF rfl rfl rfl rfl (decide_eq_false hg41) ?_
            refine ent_o rfl (ok_pickF rfl (decide_eq_false hg41) rfl) ?_
            refine ent_o rfl (ok_assign rfl) ?_
            refine ent_nil ?_
            exact ent_rep ⟨slot_bool (dq_F rfl (fun h => hg41 h.1)), trivial⟩ rfl
        refine ent_k hK12 ?_
        refine ent_ret ?_
        exact retR1 (.inr rfl) Try.results5 (resr_tmp (res_cv rfl (cv_bool (by first | rfl | exact decide_eq_true ⟨hz, by rw [show c.encE us = c.encL us from if_pos hz]; exact Cnv.encL_eq hG.1 hG.2⟩ | exact decide_eq_true ⟨he, by rw [show c.encE us = [] from if_neg hne]; rfl⟩))))
    · have he : c.encErr us = c.err := if_neg h25
      refine ent_skip ?_
      refine ent_k hK7 ?_
      refine ent_seq fun K13 hK13 => ?_
      refine ent_seq fun K14 hK14 => ?_
      refine ent_region ?_
      refine ent_o rfl (ok_move rfl) ?_
      refine ent_o rfl (ok_neq rfl rfl) ?_
      refine ent_nil ?_
      refine ent_k hK14 ?_
      refine ent_condD rfl (fun h30 => ?_) (fun h30 => ?_)
      · have hne : c.encErr us ≠ 0 := by rw [he]; exact h30
        refine ent_seq fun K15 hK15 => ?_
        refine ent_cut (⟨[(4, aBool (decide (((c.encErr us) = c.err) ∧ ((↑(c.encE us).length : Int) = 0))))], [oBox b2_1 27 [aInt c.F.P, aInt c.F.M, aSl 1 false aInt c.F.mod, aSl 1 false aRows c.Gen]]⟩) ?_ ?_
        · refine ent_region ?_
          refine ent_o rfl (ok_move rfl) ?_
          refine ent_o rfl (ok_move rfl) ?_
          refine ent_o rfl (ok_eql rfl rfl) ?_
          refine ent_o rfl (ok_move rfl) ?_
          refine ent_guardXDt rfl rfl rfl rfl (fun hg34 => ?_) (fun hg34 => ?_)
          · refine ent_o rfl (ok_move rfl) ?_
            refine ent_guardXT rfl rfl rfl rfl (decide_eq_true hg34) ?_
            refine ent_o rfl (ok_len rfl Try.runUnderlying42 rfl) ?_
            refine ent_guardXT rfl rfl rfl rfl (decide_eq_true hg34) ?_
            refine ent_o rfl (ok_eql rfl rfl) ?_
            refine ent_o rfl (ok_pickT rfl (decide_eq_true hg34) rfl) ?_
            refine ent_o rfl (ok_assign rfl) ?_
            refine ent_nil ?_
            exact ent_rep ⟨slot_bool (dq_Q ((and_iff_right hg34).trans Iff.rfl)), trivial⟩ rfl
          · refine ent_guardXF rfl rfl rfl rfl (decide_eq_false hg34) ?_
            refine ent_guardXF rfl rfl rfl rfl (decide_eq_false hg34) ?_
            refine ent_o rfl (ok_pickF rfl (decide_eq_false hg34) rfl) ?_
            refine ent_o rfl (ok_assign rfl) ?_
            refine ent_nil ?_
            exact ent_rep ⟨slot_bool (dq_F rfl (fun h => hg34 h.1)), trivial⟩ rfl
        refine ent_k hK15 ?_
        refine ent_ret ?_
        exact retR1 (.inr rfl) Try.results5 (resr_tmp (res_cv rfl (cv_bool (by first | rfl | exact decide_eq_true ⟨hz, by rw [show c.encE us = c.encL us from if_pos hz]; exact Cnv.encL_eq hG.1 hG.2⟩ | exact decide_eq_true ⟨he, by rw [show c.encE us = [] from if_neg hne]; rfl⟩))))
      · have hz : c.encErr us = 0 := by rw [he]; exact Classical.not_not.1 h30
        have hG := Cnv.encErr_zero.1 hz
        refine ent_skip ?_
        refine ent_k hK13 ?_
        refine ent_seq fun K16 hK16 => ?_
        refine ent_cut (⟨[(4, aBool (decide (((c.encErr us) = 0) ∧ ((c.encE us) = (c.refL us)))))], [oBox b2_1 27 [aInt c.F.P, aInt c.F.M, aSl 1 false aInt c.F.mod, aSl 1 false aRows c.Gen]]⟩) ?_ ?_
        · refine ent_region ?_
          refine ent_o rfl (ok_move rfl) ?_
          refine ent_o rfl (ok_eql rfl rfl) ?_
          refine ent_o rfl (ok_move rfl) ?_
          refine ent_guardXDt rfl rfl rfl rfl (fun hg41 => ?_) (fun hg41 => ?_)
          · refine ent_o rfl (ok_move rfl) ?_
            refine ent_guardXT rfl rfl rfl rfl (decide_eq_true hg41) ?_
            refine ent_o rfl (ok_loadBS (k := 0) ti27 rfl rfl rfl) ?_
            refine ent_guardXT rfl rfl rfl rfl (decide_eq_true hg41) ?_
            refine ent_o rfl (ok_move rfl) ?_
            refine ent_guardXT rfl rfl rfl rfl (decide_eq_true hg41) ?_
            refine ent_o rfl (ok_call (rEncode_ok c us (by first | rfl | assumption | omega | (simp_all; done) | grind) hG.1 hG.2 (by first | rfl | assumption | omega | (simp_all; done) | grind)) rfl) ?_
            refine ent_guardXT rfl rfl rfl rfl (decide_eq_true hg41) ?_
            refine ent_o rfl (ok_call (SameRows_ok (c.encE us) (c.refL us)) rfl) ?_
            refine ent_o rfl (ok_pickT rfl (decide_eq_true hg41) rfl) ?_
            refine ent_o rfl (ok_assign rfl) ?_
            refine ent_nil ?_
            exact ent_rep ⟨slot_bool (dq_Q ((and_iff_right hg41).trans Iff.rfl)), trivial⟩ rfl
          · refine ent_guardXF rfl rfl rfl rfl (decide_eq_false hg41) ?_
            refine ent_guardXF rfl rfl rfl rfl (decide_eq_false hg41) ?_
            refine ent_guardXF rfl rfl rfl rfl (decide_eq_false hg41) ?_
            refine ent_guardXF rfl rfl rfl rfl (decide_eq_false hg41) ?_
            refine ent_o rfl (ok_pickF rfl (decide_eq_false hg41) rfl) ?_
            refine ent_o rfl (ok_assign rfl) ?_
            refine ent_nil ?_
            exact ent_rep ⟨slot_bool (dq_F rfl (fun h => hg41 h.1)), trivial⟩ rfl
        refine ent_k hK16 ?_
        refine ent_ret ?_
        exact retR1 (.inr rfl) Try.results5 (resr_tmp (res_cv rfl (cv_bool (by first | rfl | exact decide_eq_true ⟨hz, by rw [show c.encE us = c.encL us from if_pos hz]; exact Cnv.encL_eq hG.1 hG.2⟩ | exact decide_eq_true ⟨he, by rw [show c.encE us = [] from if_neg hne]; rfl⟩))))
end Go.Proofs.Ytfjhbdfgbpcchaa
