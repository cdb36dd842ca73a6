/-
  Walks of functions of the program and the reference.
-/
import Derived.Test.YtaipghchkamajaaProg
import Derived.Test.YtaipghchkamajaaTab
import Derived.Test.YtaipghchkamajaaPlainG
import Derived.Test.YtaipghchkamajaaPlainH
import Derived.Test.YtaipghchkamajaaPlainRf
import Derived.Test.YtaipghchkamajaaCzLib
import Derived.Test.YtaipghchkamajaaA2
import Derived.Test.YtaipghchkamajaaA4
import Derived.Test.YtaipghchkamajaaA5
import Derived.Test.YtaipghchkamajaaA6
import Derived.Test.YtaipghchkamajaaA7
import Derived.Test.YtaipghchkamajaaA9
import Derived.Test.YtaipghchkamajaaA10
import Derived.Test.YtaipghchkamajaaB1
import Derived.Test.YtaipghchkamajaaC11
import Derived.Test.YtaipghchkamajaaC12
import Derived.Test.YtaipghchkamajaaC13
import Derived.Test.YtaipghchkamajaaC14
import Derived.Test.YtaipghchkamajaaC16
import Derived.Test.YtaipghchkamajaaC18
import Derived.Test.YtaipghchkamajaaC19
open Go Go.Cw
namespace Go.Proofs.Ytaipghchkamajaa
set_option maxRecDepth 100000
set_option linter.unusedVariables false
set_option linter.unusedSimpArgs false
theorem rSolve_ok (f : Fld) (m : Mat) (b : List Int)  : Ctr Try.prog 77 [aFld f, aMat m, aSl 1 false aInt b] (aTup [aSl 1 false aInt (solV f m b), aInt (solE f m b)]) := by
 refine ctr_of Try.call77 Try.func77 rfl rfl ?_
 intro w O
 refine ent_lenC 0 2 rfl rfl (fun hlen0_2 => ?_)
 refine ent_lenC 1 1 rfl rfl (fun hlen1_1 => ?_)
 refine ent_len 2 rfl (fun hlen2 => ?_)
 refine esr rfl fun _ K1 => ?_
 refine ent_boxS rfl rfl (AllOne.mem ⟨(one_int _), (one_int _), one_sl, trivial⟩) (fun b3_1 => ?_)
 refine ent_boxS rfl rfl (AllOne.mem ⟨(one_int _), one_sl, trivial⟩) (fun b4_2 => ?_)
 refine emm rfl ?_
 refine enk K1 ?_
 refine esr rfl fun _ K2 => ?_
 refine ent_o rfl (ok_loadBS (k := 1) ti51 rfl rfl rfl) ?_
 refine ent_o rfl (ok_loadBS (k := 0) ti107 rfl rfl rfl) ?_
 refine ent_o rfl (ok_call (rMCheck_ok f m) rfl) ?_
 refine emm rfl ?_
 refine enk K2 ?_
 refine ent_seq fun _ K3 => ?_
 refine esr rfl fun _ K4 => ?_
 refine ent_o rfl (ok_eql rfl rfl) ?_
 refine enk K4 ?_
 refine ent_cut (⟨[(2, aSl 1 false aInt b), (3, aEx (.pointer (some ⟨b3_1, 0, none⟩))), (4, aEx (.pointer (some ⟨b4_2, 0, none⟩))), (8, aInt (sErr f m b))], [oBox b4_2 107 [aInt m.cols, aSl 1 false aInts m.rows], oBox b3_1 51 [aInt f.P, aInt f.M, aSl 1 false aInt f.mod]]⟩) ?_ ?_
 ·refine ent_condD rfl (fun h20 => ?_) (fun h20 => ?_)
  ·refine ent_region ?_
   refine ent_o rfl (ok_loadBS (k := 1) ti51 rfl rfl rfl) ?_
   refine emm rfl ?_
   refine ent_o rfl (ok_fieldAddrEx Try.runUnderlying107 rfl Try.sizeOf65 (by decide) rfl) ?_
   refine ent_o rfl (ok_loadB (k := 0) Try.isAgg65 rfl rfl rfl) ?_
   refine ent_o rfl (ok_len rfl Try.runUnderlying65 rfl) ?_
   refine ent_o rfl (ok_call (r9Vector_ok f b (↑m.rows.length : Int)) rfl) ?_
   refine emm rfl ?_
   refine ent_nil ?_
   exact ent_rep ⟨rfl, rfl, rfl, slot_av (av_int (show vecErr f b (↑m.rows.length : Int) = sErr f m b by first | exact (sErr_ok h20).symm | exact (sErr_no h20).symm)), trivial⟩ rfl
  ·refine ent_skip ?_
   exact ent_rep ⟨rfl, rfl, rfl, slot_av (av_int (show mErr f m = sErr f m b by first | exact (sErr_ok h20).symm | exact (sErr_no h20).symm)), trivial⟩ rfl
 refine ent_k K3 ?_
 refine ent_seq fun _ K5 => ?_
 refine esr rfl fun _ K6 => ?_
 refine ent_o rfl (ok_neq rfl rfl) ?_
 refine enk K6 ?_
 refine ent_condD rfl (fun h28 => ?_) (fun h28 => ?_)
 ·have hse : solE f m b = sErr f m b := solE_no h28
  have hs0 : solE f m b ≠ 0 := by rw [hse]; exact h28
  refine esk rfl ?_
  refine ent_ret ?_
  exact retR2 (.inr rfl) Try.results77 (resr_tmp (res_cv rfl (cv_nil (fun _ => rfl) (by first | exact (solV_no hs0).symm | (rw [solV_ok hsk]; unfold solX; congr 1; omega))))) (resr_tmp (res_cv rfl (cv_int (by first | exact hsk.symm | exact hso.symm | exact hse.symm))))
 ·have hs1 : sErr f m b = 0 := Classical.not_not.1 h28
  have hm0 : mErr f m = 0 := Classical.byContradiction fun h => by rw [sErr_no h] at hs1; exact h hs1
  have hF := (mErr_zero.1 hm0).1
  have hme := (mErr_zero.1 hm0).2
  have hsz := mat_size hme
  have hgm := mat_good hme
  have hve := hs1
  rw [sErr_ok hm0] at hve
  have hbb := vecErr_zero.1 hve
  have hag := aug_good hF.1 hgm hbb.2
  have hlg := length_augL m.rows b
  refine esp K5 ?_
  refine esk rfl ?_
  refine ent_seq fun _ K9 => ?_
  refine esk rfl ?_
  refine ent_block ?_
  refine ent_open 29 1 false aInts (fun _ => rfl) ?_
  refine ent_loop (fun (ss : Int × Option Nat × Nat) => match ss with | (i, rr4, cc4) => (⟨[(2, aSl 1 false aInt b), (3, aEx (.pointer (some ⟨b3_1, 0, none⟩))), (4, aEx (.pointer (some ⟨b4_2, 0, none⟩))), (9, aEx (vec rr4 (((augL m.rows b).take i.toNat).length) cc4)), (10, aInt i)], [oVec rr4 cc4 29 1 false aInts ((augL m.rows b).take i.toNat), oBox b4_2 107 [aInt m.cols, aSl 1 false aInts m.rows], oBox b3_1 51 [aInt f.P, aInt f.M, aSl 1 false aInt f.mod]]⟩ : St)) (fun (ss : Int × Option Nat × Nat) => match ss with | (i, rr4, cc4) => (0 ≤ i) ∧ (i ≤ b.length)) (fun (ss : Int × Option Nat × Nat) => match ss with | (i, rr4, cc4) => (b.length - i).toNat) (0, none, 0) ⟨(by first | rfl | assumption | omega | (simp_all; done) | grind), (by first | rfl | assumption | omega | (simp_all; done) | grind)⟩ (ent_rep ⟨rfl, rfl, rfl, slot_av ((show aEx (vec none ([] : List _).length 0) = aEx (vec none (((augL m.rows b).take (0 : Int).toNat).length) 0) from av_vec (congrArg List.length (show (augL m.rows b).take (0 : Int).toNat = [] by rfl).symm))), slot_av (av_int (show 0 = (0 : Int) by first | rfl | assumption | omega | (simp_all; done) | grind)), trivial⟩ (own_cons (own_vec (show (augL m.rows b).take (0 : Int).toNat = [] by rfl)) (rfl))) ?_
  rintro ⟨i, rr4, cc4⟩ ⟨h0, h1⟩
  show Ent _ ⟨_, [_, _, _]⟩ _
  have lta : ((augL m.rows b).take i.toNat).length = i.toNat := by rw [List.length_take]; omega
  refine ent_seq fun _ K11 => ?_
  refine esr rfl fun _ K12 => ?_
  refine ent_o rfl (ok_len rfl Try.runUnderlying29 rfl) ?_
  refine ent_o rfl (ok_lss rfl rfl) ?_
  refine enk K12 ?_
  refine ent_condD rfl (fun h33 => ?_) (fun h33 => ?_)
  ·have hri := row_len hme h0 (by omega)
   refine esp K11 ?_
   refine ent_seq fun _ K13 => ?_
   refine ent_block ?_
   refine ent_drawV1A (e := 3) (enc := aInt) (xs := ix [] m.rows i) (ys := [ix 0 b i]) (dy := 48) 13 [0] 43 [(9, aEx (vec rr4 (((augL m.rows b).take i.toNat).length) cc4)), (36, aEx (vec rr4 (((augL m.rows b).take i.toNat).length) cc4))] [(2, aSl 1 false aInt b), (3, aEx (.pointer (some ⟨b3_1, 0, none⟩))), (4, aEx (.pointer (some ⟨b4_2, 0, none⟩))), (10, aInt i)] mixed (by kernel_rfl) (by kernel_rfl) (by kernel_rfl) (by kernel_rfl) (by kernel_rfl) (fun _ _ _ _ _ h => h) rfl rfl vt29 flat_int (by simp [one_int]) (AllPlS.mem ⟨pl_ex, pl_ex, trivial⟩) ⟨rfl, rfl, rfl, rfl, trivial⟩ (by kernel_rfl) read_sl (by first | omega | (simp; omega)) (by first | omega | (simp; omega)) (fun w => ?_) (fun ra_5 ca_5 r0 c0 => ?_)
   ·refine dw_o rfl (ok_move rfl) ?_
    refine dw_o rfl (ok_build0F vt29) ?_
    refine dw_o rfl (ok_fieldAddrEx Try.runUnderlying107 rfl Try.sizeOf65 (by decide) rfl) ?_
    refine dw_o rfl (ok_loadB (k := 1) Try.isAgg65 rfl rfl rfl) ?_
    refine dw_o rfl (ok_move rfl) ?_
    refine dw_o rfl (ok_index [] sl65 rfl rfl (by first | omega | (simp only [List.length_set]; omega) | (simp only [List.length_drop]; omega)) (by first | omega | (simp only [List.length_set]; omega) | (simp only [List.length_drop]; omega))) ?_
    refine dw_o rfl (ok_load ti29 rfl) ?_
    refine dw_o rfl (ok_append0F vt29 (fun _ => pl_ex) rfl rfl (cv_id sub_refl) (by first | omega | (simp only [List.length_set]; omega) | (simp only [List.length_drop]; omega)) (by first | omega | (simp only [List.length_set]; omega) | (simp only [List.length_drop]; omega))) ?_
    refine dw_o rfl (ok_move rfl) ?_
    refine dw_o rfl (ok_move rfl) ?_
    refine dw_o rfl (ok_index 0 sl29 rfl rfl (by first | omega | (simp only [List.length_set]; omega) | (simp only [List.length_drop]; omega)) (by first | omega | (simp only [List.length_set]; omega) | (simp only [List.length_drop]; omega))) ?_
    refine dw_o rfl (ok_load ti3 rfl) ?_
    refine dw_o rfl (ok_build1 (enc := aInt) (y := ix 0 b i) vt29 rfl (elem_one (one_int _)) (by decide)) ?_
    exact ⟨rfl, rfl, ⟨rfl, rfl, trivial⟩⟩
   refine ent_give 0 49 rfl (cv_vec (k := 0) (off_erase rfl) (by first | rfl | assumption | (simp; done) | (simp_all; done) | omega) rfl) ?_
   refine ent_appendL (k := 0) (enc := aInts) (y := (ix [] m.rows i) ++ [ix 0 b i]) rfl rfl vt65 rfl rfl (by first | rfl | assumption | (simp; done) | (simp_all; done) | omega) rfl ((elem_one one_sl)) (by first | omega | (simp only [List.length_append, List.length_cons, List.length_nil]; omega) | (simp; omega)) (by first | omega | (simp only [List.length_append, List.length_cons, List.length_nil]; omega) | (simp; omega)) (by decide) (fun b51_6 c51_6 => ?_)
   refine emm rfl ?_
   refine enk K13 ?_
   refine ent_region ?_
   refine emm rfl ?_
   refine ent_o rfl (ok_add rfl rfl (by first | omega | (simp only [List.length_set]; omega) | (simp only [List.length_drop]; omega)) (by first | omega | (simp only [List.length_set]; omega) | (simp only [List.length_drop]; omega))) ?_
   refine emm rfl ?_
   refine ent_nil ?_
   refine ent_again (s := (i, rr4, cc4)) (i + 1, (some b51_6), c51_6) ⟨(by first | rfl | assumption | omega | (simp_all; done) | grind), (by first | rfl | assumption | omega | (simp_all; done) | grind)⟩ (by first | omega | (dsimp only; omega)) (ent_rep ⟨rfl, rfl, rfl, slot_av (av_vec (congrArg List.length (show (augL m.rows b).take (i + 1).toNat = ((augL m.rows b).take i.toNat) ++ [(ix [] m.rows i) ++ [ix 0 b i]] by rw [take_succ_ix [] (augL m.rows b) h0 (by omega), ix_augL h0 (by omega)]).symm)), rfl, trivial⟩ (own_cons (own_vec (show (augL m.rows b).take (i + 1).toNat = ((augL m.rows b).take i.toNat) ++ [(ix [] m.rows i) ++ [ix 0 b i]] by rw [take_succ_ix [] (augL m.rows b) h0 (by omega), ix_augL h0 (by omega)])) (rfl)))
  ·have htk : (augL m.rows b).take i.toNat = augL m.rows b := List.take_of_length_le (by omega)
   refine ent_exit ?_
   refine ent_k K9 ?_
   refine ent_seq fun _ K14 => ?_
   rw [htk]
   refine ent_region ?_
   refine ent_o rfl (ok_loadBS (k := 2) ti51 rfl rfl rfl) ?_
   refine emm rfl ?_
   refine ent_o rfl (ok_fieldAddrEx Try.runUnderlying107 rfl Try.sizeOf3 (by decide) rfl) ?_
   refine ent_o rfl (ok_loadB (k := 1) Try.isAgg3 rfl rfl rfl) ?_
   refine ent_give 0 54 rfl (cv_vec (k := 0) (off_erase rfl) (by first | rfl | assumption | (simp; done) | (simp_all; done) | omega) rfl) ?_
   refine ent_o rfl (ok_call (rEliminate_ok f (augL m.rows b) m.cols (m.cols.toNat + 1) (by first | rfl | assumption | omega | (simp_all; done) | grind) hag (by first | rfl | assumption | omega | (simp_all; done) | grind) (by omega) (by omega) (by rw [length_augL]; omega)) rfl) ?_
   refine emm rfl ?_
   refine ent_o rfl (ok_extract rfl rfl) ?_
   refine ent_o rfl (ok_extract rfl rfl) ?_
   refine emm rfl ?_
   refine enk K14 ?_
   refine ent_seq fun _ K15 => ?_
   refine ent_seq fun _ K16 => ?_
   have hpl := piv_le f (augL m.rows b) [] m.cols.toNat
   have hel := (length_elim f (augL m.rows b) [] m.cols.toNat).1
   have hge := good_elim hF.1 (Y := []) hag m.cols.toNat
   refine ent_region ?_
   refine emm rfl ?_
   refine ent_o rfl (ok_len rfl Try.runUnderlying29 rfl) ?_
   refine emm rfl ?_
   refine enk K16 ?_
   refine ent_block ?_
   refine ent_loop (fun (j : Int) => (⟨[(4, aEx (.pointer (some ⟨b4_2, 0, none⟩))), (11, aSl 1 false aInts ((elim f (augL m.rows b) [] m.cols.toNat).X)), (12, aSl 1 false aInt ((elim f (augL m.rows b) [] m.cols.toNat).piv)), (13, aInt j)], [oBox b4_2 107 [aInt m.cols, aSl 1 false aInts m.rows], oBox b3_1 51 [aInt f.P, aInt f.M, aSl 1 false aInt f.mod]]⟩ : St)) (fun (j : Int) => ((elim f (augL m.rows b) [] m.cols.toNat).piv.length ≤ j) ∧ (j ≤ (elim f (augL m.rows b) [] m.cols.toNat).X.length) ∧ (∀ z : Int, (elim f (augL m.rows b) [] m.cols.toNat).piv.length ≤ z → z < j → ix 0 (ix [] (elim f (augL m.rows b) [] m.cols.toNat).X z) m.cols = 0)) (fun (j : Int) => ((elim f (augL m.rows b) [] m.cols.toNat).X.length - j).toNat) ((elim f (augL m.rows b) [] m.cols.toNat).piv.length : Int) ⟨(by first | rfl | assumption | omega | (simp_all; done) | grind), (by first | rfl | assumption | omega | (simp_all; done) | grind), (fun z z0 z1 => by omega)⟩ (ent_rep ⟨rfl, rfl, rfl, slot_av (av_int (show (↑((elim f (augL m.rows b) [] m.cols.toNat).piv).length : Int) = ((elim f (augL m.rows b) [] m.cols.toNat).piv.length : Int) by first | rfl | assumption | omega | (simp_all; done) | grind)), trivial⟩ rfl) ?_
   rintro j ⟨j0, j1, hz⟩
   show Ent _ ⟨_, [_, _]⟩ _
   refine ent_seq fun _ K17 => ?_
   refine esr rfl fun _ K18 => ?_
   refine ent_o rfl (ok_len rfl Try.runUnderlying65 rfl) ?_
   refine ent_o rfl (ok_lss rfl rfl) ?_
   refine enk K18 ?_
   refine ent_condD rfl (fun h65 => ?_) (fun h65 => ?_)
   ·have hrw := wide_ix (good_wide hge) (i := j) (by omega) h65
    refine esp K17 ?_
    refine ent_seq fun _ K19 => ?_
    refine ent_block ?_
    refine ent_seq fun _ K20 => ?_
    refine ent_draw 9 mixed (by kernel_rfl) (by kernel_rfl) (by kernel_rfl) ?_
    refine dw_o rfl (ok_move rfl) ?_
    refine dw_o rfl (ok_move rfl) ?_
    refine dw_o rfl (ok_index [] sl65 rfl rfl (by first | omega | (simp only [List.length_set]; omega) | (simp only [List.length_drop]; omega)) (by first | omega | (simp only [List.length_set]; omega) | (simp only [List.length_drop]; omega))) ?_
    refine dw_o rfl (ok_load ti29 rfl) ?_
    refine dw_o rfl (ok_fieldAddrEx Try.runUnderlying107 rfl Try.sizeOf3 (by decide) rfl) ?_
    refine dw_o rfl (ok_loadB (k := 0) Try.isAgg3 rfl rfl rfl) ?_
    refine dw_o rfl (ok_index 0 sl29 rfl rfl (by first | omega | (simp only [List.length_set]; omega) | (simp only [List.length_drop]; omega)) (by first | omega | (simp only [List.length_set]; omega) | (simp only [List.length_drop]; omega))) ?_
    refine dw_o rfl (ok_load ti3 rfl) ?_
    refine dw_o rfl (ok_neq rfl rfl) ?_
    refine dw_nil ?_
    refine enk K20 ?_
    refine ent_condD rfl (fun h76 => ?_) (fun h76 => ?_)
    ·have hso : solE f m b = 11 := solE_off hs1 (offR_at j0 h65 h76)
     have hs0 : solE f m b ≠ 0 := by rw [hso]; decide
     refine esk rfl ?_
     refine ent_ret ?_
     exact retR2 (.inr rfl) Try.results77 (resr_tmp (res_cv rfl (cv_nil (fun _ => rfl) (by first | exact (solV_no hs0).symm | (rw [solV_ok hsk]; unfold solX; congr 1; omega))))) (resr_tmp (res_cv rfl (cv_int (by first | exact hsk.symm | exact hso.symm | exact hse.symm))))
    ·refine esp K19 ?_
     refine ent_region ?_
     refine emm rfl ?_
     refine ent_o rfl (ok_add rfl rfl (by first | omega | (simp only [List.length_set]; omega) | (simp only [List.length_drop]; omega)) (by first | omega | (simp only [List.length_set]; omega) | (simp only [List.length_drop]; omega))) ?_
     refine emm rfl ?_
     refine ent_nil ?_
     refine ent_again (s := (j)) (j + 1) ⟨(by first | rfl | assumption | omega | (simp_all; done) | grind), (by first | rfl | assumption | omega | (simp_all; done) | grind), (fun z z0 z1 => by by_cases hq : z = j; (rw [hq]; exact Classical.not_not.1 h76); exact hz z z0 (by omega))⟩ (by first | omega | (dsimp only; omega)) (ent_rep ⟨rfl, rfl, rfl, rfl, trivial⟩ rfl)
   ·have hsk : solE f m b = 0 := solE_ok hs1 (offR_none (fun z z0 z1 => by have z2 : z < (elim f (augL m.rows b) [] m.cols.toNat).X.length := z1; exact hz z z0 (by omega)))
    refine ent_exit ?_
    refine ent_k K15 ?_
    refine esr rfl fun _ K22 => ?_
    refine ent_o rfl (ok_fieldAddrEx Try.runUnderlying107 rfl Try.sizeOf3 (by decide) rfl) ?_
    refine ent_o rfl (ok_loadB (k := 0) Try.isAgg3 rfl rfl rfl) ?_
    refine ent_make aInt 0 rfl vt29 rfl rfl (by first | omega | (simp only [List.length_set]; omega) | (simp only [List.length_drop]; omega)) (by first | omega | (simp only [List.length_set]; omega) | (simp only [List.length_drop]; omega)) (by first | omega | (simp only [List.length_set]; omega) | (simp only [List.length_drop]; omega)) (fun _ _ => rfl) (AllV.mem ⟨rfl, trivial⟩) (fun b79_7 => ?_)
    refine emm rfl ?_
    refine enk K22 ?_
    refine ent_seq fun _ K23 => ?_
    refine esk rfl ?_
    refine ent_block ?_
    refine ent_loop (fun (i : Int) => (⟨[(4, aEx (.pointer (some ⟨b4_2, 0, none⟩))), (11, aSl 1 false aInts ((elim f (augL m.rows b) [] m.cols.toNat).X)), (12, aSl 1 false aInt ((elim f (augL m.rows b) [] m.cols.toNat).piv)), (14, aEx (vec (some b79_7) ((m.cols).toNat) ((m.cols).toNat))), (15, aInt i)], [oVec (some b79_7) ((m.cols).toNat) 3 1 false aInt (solTo (elim f (augL m.rows b) [] m.cols.toNat) m.cols i.toNat), oBox b4_2 107 [aInt m.cols, aSl 1 false aInts m.rows], oBox b3_1 51 [aInt f.P, aInt f.M, aSl 1 false aInt f.mod]]⟩ : St)) (fun (i : Int) => (0 ≤ i) ∧ (i ≤ (elim f (augL m.rows b) [] m.cols.toNat).piv.length)) (fun (i : Int) => ((elim f (augL m.rows b) [] m.cols.toNat).piv.length - i).toNat) 0 ⟨(by first | rfl | assumption | omega | (simp_all; done) | grind), (by first | rfl | assumption | omega | (simp_all; done) | grind)⟩ (ent_rep ⟨rfl, rfl, rfl, rfl, slot_av (av_int (show 0 = (0 : Int) by first | rfl | assumption | omega | (simp_all; done) | grind)), trivial⟩ (own_cons (own_vec (show solTo (elim f (augL m.rows b) [] m.cols.toNat) m.cols (0 : Int).toNat = List.replicate ((m.cols).toNat) 0 by rfl)) (rfl))) ?_
    rintro i ⟨k0, k1⟩
    show Ent _ ⟨_, [_, _, _]⟩ _
    have lsl := length_solTo (elim f (augL m.rows b) [] m.cols.toNat) m.cols i.toNat
    refine ent_seq fun _ K25 => ?_
    refine esr rfl fun _ K26 => ?_
    refine ent_o rfl (ok_len rfl Try.runUnderlying29 rfl) ?_
    refine ent_o rfl (ok_lss rfl rfl) ?_
    refine enk K26 ?_
    refine ent_condD rfl (fun h83 => ?_) (fun h83 => ?_)
    ·have hpi := piv_ix f (augL m.rows b) [] m.cols.toNat k0 h83
     have hrw := wide_ix (good_wide hge) k0 (by omega)
     refine esp K25 ?_
     refine ent_seq fun _ K27 => ?_
     refine ent_block ?_
     refine ent_draw 14 mixed (by kernel_rfl) (by kernel_rfl) (by kernel_rfl) ?_
     refine dw_o rfl (ok_move rfl) ?_
     refine dw_o rfl (ok_move rfl) ?_
     refine dw_o rfl (ok_move rfl) ?_
     refine dw_o rfl (ok_index 0 sl29 rfl rfl (by first | omega | (simp only [List.length_set]; omega) | (simp only [List.length_drop]; omega)) (by first | omega | (simp only [List.length_set]; omega) | (simp only [List.length_drop]; omega))) ?_
     refine dw_o rfl (ok_load ti3 rfl) ?_
     refine dw_o rfl (ok_move rfl) ?_
     refine dw_o rfl (ok_move rfl) ?_
     refine dw_o rfl (ok_index [] sl65 rfl rfl (by first | omega | (simp only [List.length_set]; omega) | (simp only [List.length_drop]; omega)) (by first | omega | (simp only [List.length_set]; omega) | (simp only [List.length_drop]; omega))) ?_
     refine dw_o rfl (ok_load ti29 rfl) ?_
     refine dw_o rfl (ok_fieldAddrEx Try.runUnderlying107 rfl Try.sizeOf3 (by decide) rfl) ?_
     refine dw_o rfl (ok_loadB (k := 1) Try.isAgg3 rfl rfl rfl) ?_
     refine dw_o rfl (ok_index 0 sl29 rfl rfl (by first | omega | (simp only [List.length_set]; omega) | (simp only [List.length_drop]; omega)) (by first | omega | (simp only [List.length_set]; omega) | (simp only [List.length_drop]; omega))) ?_
     refine dw_o rfl (ok_load ti3 rfl) ?_
     refine dw_o rfl (ok_indexV sl29 rfl rfl (by first | omega | (simp only [List.length_set]; omega) | (simp only [List.length_drop]; omega)) (by first | omega | (simp only [List.length_set]; omega) | (simp only [List.length_drop]; omega))) ?_
     refine dw_nil ?_
     refine ent_storeV (k := 0) (z := ix 0 (ix [] ((elim f (augL m.rows b) [] m.cols.toNat).X) i) m.cols) ti3 rfl rfl rfl (elem_one (one_int _)) (by first | omega | (simp only [List.length_set]; omega) | (simp only [List.length_drop]; omega)) (by first | omega | (simp only [List.length_set]; omega) | (simp only [List.length_drop]; omega)) ?_
     refine enk K27 ?_
     refine ent_region ?_
     refine emm rfl ?_
     refine ent_o rfl (ok_add rfl rfl (by first | omega | (simp only [List.length_set]; omega) | (simp only [List.length_drop]; omega)) (by first | omega | (simp only [List.length_set]; omega) | (simp only [List.length_drop]; omega))) ?_
     refine emm rfl ?_
     refine ent_nil ?_
     refine ent_again (s := (i)) (i + 1) ⟨(by first | rfl | assumption | omega | (simp_all; done) | grind), (by first | rfl | assumption | omega | (simp_all; done) | grind)⟩ (by first | omega | (dsimp only; omega)) (ent_rep ⟨rfl, rfl, rfl, rfl, rfl, trivial⟩ (own_cons (own_vec (show solTo (elim f (augL m.rows b) [] m.cols.toNat) m.cols (i + 1).toNat = List.set (solTo (elim f (augL m.rows b) [] m.cols.toNat) m.cols i.toNat) (ix 0 ((elim f (augL m.rows b) [] m.cols.toNat).piv) i).toNat (ix 0 (ix [] ((elim f (augL m.rows b) [] m.cols.toNat).X) i) m.cols) by exact solTo_succ _ _ k0)) (rfl)))
    ·refine ent_exit ?_
     refine ent_k K23 ?_
     refine esk rfl ?_
     refine ent_ret ?_
     exact retR2 (.inr rfl) Try.results77 (resr_tmp (res_cv rfl (cv_vec (k := 0) (off_x rfl) (by first | rfl | assumption | (simp; done) | (simp_all; done) | omega) (by first | exact (solV_no hs0).symm | (rw [solV_ok hsk]; unfold solX; congr 1; omega))))) (resr_tmp (res_cv rfl (cv_int (by first | exact hsk.symm | exact hso.symm | exact hse.symm))))
end Go.Proofs.Ytaipghchkamajaa

