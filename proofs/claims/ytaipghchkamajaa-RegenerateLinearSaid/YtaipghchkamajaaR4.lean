/-
  Facts for the law RegenerateLinear.
-/
import Derived.Test.YtaipghchkamajaaProg
import Derived.Test.YtaipghchkamajaaTab
import Derived.Test.YtaipghchkamajaaPlainJ1
import Derived.Test.YtaipghchkamajaaCzLib
import Derived.Test.YtaipghchkamajaaA2
import Derived.Test.YtaipghchkamajaaA4
import Derived.Test.YtaipghchkamajaaA5
import Derived.Test.YtaipghchkamajaaA6
import Derived.Test.YtaipghchkamajaaA7
import Derived.Test.YtaipghchkamajaaA9
import Derived.Test.YtaipghchkamajaaA10
import Derived.Test.YtaipghchkamajaaB1
import Derived.Test.YtaipghchkamajaaC11
import Derived.Test.YtaipghchkamajaaC12
import Derived.Test.YtaipghchkamajaaC13
import Derived.Test.YtaipghchkamajaaC14
import Derived.Test.YtaipghchkamajaaC16
import Derived.Test.YtaipghchkamajaaC18
import Derived.Test.YtaipghchkamajaaC19
import Derived.Test.YtaipghchkamajaaC22
import Derived.Test.YtaipghchkamajaaB2
import Derived.Test.YtaipghchkamajaaR1
import Derived.Test.YtaipghchkamajaaR3
open Go Go.Cw
namespace Go.Proofs.Ytaipghchkamajaa
set_option maxRecDepth 100000
set_option linter.unusedVariables false
set_option linter.unusedSimpArgs false
theorem file_ok (r : Rgn) (l : List Int) (R : RgOk r) : CtrF Try.prog 37 [aRgn r, aSl 1 false aInt l] (aVec 3 1 false aInt (fileL r l)) := by
 have hb := rgB_rng R
 have hfl := length_fileL r l
 refine ctrF_of Try.call37 Try.func37 rfl rfl ?_
 intro w O
 refine ent_lenC 0 2 rfl rfl (fun hlen0_2 => ?_)
 refine ent_lenC 0 6 rfl rfl (fun hlen0_6 => ?_)
 refine ent_len 1 rfl (fun hlen1 => ?_)
 refine esr rfl fun _ K1 => ?_
 refine ent_boxS rfl rfl (AllOne.mem ⟨(one_int _), (one_int _), one_sl, (one_int _), (one_int _), (one_int _), one_sl, trivial⟩) (fun b2_1 => ?_)
 refine emm rfl ?_
 refine enk K1 ?_
 refine esr rfl fun _ K2 => ?_
 refine ent_o rfl (ok_loadBS (k := 0) ti53 rfl rfl rfl) ?_
 refine ent_o rfl (ok_call (rSize_ok r (by first | rfl | assumption | omega | (simp_all; done) | grind)) rfl) ?_
 refine emm rfl ?_
 refine ent_o rfl (ok_extract rfl rfl) ?_
 refine ent_o rfl (ok_extract rfl rfl) ?_
 refine emm rfl ?_
 refine enk K2 ?_
 refine esr rfl fun _ K3 => ?_
 refine ent_make aInt 0 rfl vt29 rfl rfl (by first | omega | (simp; omega)) (by first | omega | (simp; omega)) (by first | omega | (simp; omega)) (fun _ _ => rfl) (AllV.mem ⟨rfl, trivial⟩) (fun b15_2 => ?_)
 refine emm rfl ?_
 refine enk K3 ?_
 refine ent_seq fun _ K4 => ?_
 refine esk rfl ?_
 refine ent_block ?_
 refine ent_loop (fun (i : Int) => (⟨[(1, aSl 1 false aInt l), (2, aEx (.pointer (some ⟨b2_1, 0, none⟩))), (5, aInt (rgB r)), (7, aEx (vec (some b15_2) ((rgB r).toNat) ((rgB r).toNat))), (8, aInt i)], [oVec (some b15_2) ((rgB r).toNat) 3 1 false aInt (mixL (fileL r l) (List.replicate (rgB r).toNat 0) i), oBox b2_1 53 [aInt r.F.P, aInt r.F.M, aSl 1 false aInt r.F.mod, aInt r.Kind, aInt r.K, aInt r.D, aSl 1 false aInt r.Points]]⟩ : St)) (fun (i : Int) => (0 ≤ i) ∧ (i ≤ rgB r)) (fun (i : Int) => (rgB r - i).toNat) 0 ⟨(by first | rfl | assumption | omega | (simp_all; done) | grind), (by first | rfl | assumption | omega | (simp_all; done) | grind)⟩ (ent_rep ⟨rfl, rfl, rfl, rfl, slot_av (av_int (show 0 = (0 : Int) by first | rfl | assumption | omega | (simp_all; done) | grind)), trivial⟩ (own_cons (own_vec (show mixL (fileL r l) (List.replicate (rgB r).toNat 0) (0 : Int) = List.replicate ((rgB r).toNat) 0 by first | exact mixL_zero _ _ | (rw [mixL_zero]; congr 1; omega))) (rfl))) ?_
 rintro i ⟨h0, h1⟩
 show Ent _ ⟨_, [_, _]⟩ _
 have lm : (mixL (fileL r l) (List.replicate (rgB r).toNat 0) i).length = (rgB r).toNat := by rw [length_mixL _ _ (by simp [hfl])]; simp [hfl]
 refine ent_seq fun _ K6 => ?_
 refine ent_seq fun _ K7 => ?_
 refine ent_cut (⟨[(1, aSl 1 false aInt l), (2, aEx (.pointer (some ⟨b2_1, 0, none⟩))), (5, aInt (rgB r)), (7, aEx (vec (some b15_2) ((rgB r).toNat) ((rgB r).toNat))), (8, aInt i), (24, aBool (decide ((i < (rgB r)) ∧ (i < (↑l.length : Int)))))], [oVec (some b15_2) ((rgB r).toNat) 3 1 false aInt (mixL (fileL r l) (List.replicate (rgB r).toNat 0) i), oBox b2_1 53 [aInt r.F.P, aInt r.F.M, aSl 1 false aInt r.F.mod, aInt r.Kind, aInt r.K, aInt r.D, aSl 1 false aInt r.Points]]⟩) ?_ ?_
 ·refine ent_region ?_
  refine emm rfl ?_
  refine ent_o rfl (ok_lss rfl rfl) ?_
  refine emm rfl ?_
  refine ent_guardXDt rfl rfl rfl rfl (fun hg19 => ?_) (fun hg19 => ?_)
  ·refine emm rfl ?_
   refine ent_guardXT rfl rfl rfl rfl (decide_eq_true hg19) ?_
   refine emm rfl ?_
   refine ent_guardXT rfl rfl rfl rfl (decide_eq_true hg19) ?_
   refine ent_o rfl (ok_len rfl Try.runUnderlying29 rfl) ?_
   refine ent_guardXT rfl rfl rfl rfl (decide_eq_true hg19) ?_
   refine ent_o rfl (ok_lss rfl rfl) ?_
   refine ent_o rfl (ok_pickT rfl (decide_eq_true hg19) rfl) ?_
   refine ent_nil ?_
   exact ent_rep ⟨rfl, rfl, rfl, rfl, rfl, slot_bool (dq_Q ((and_iff_right hg19).trans Iff.rfl)), trivial⟩ rfl
  ·refine ent_guardXF rfl rfl rfl rfl (decide_eq_false hg19) ?_
   refine ent_guardXF rfl rfl rfl rfl (decide_eq_false hg19) ?_
   refine ent_guardXF rfl rfl rfl rfl (decide_eq_false hg19) ?_
   refine ent_o rfl (ok_pickF rfl (decide_eq_false hg19) rfl) ?_
   refine ent_nil ?_
   exact ent_rep ⟨rfl, rfl, rfl, rfl, rfl, slot_bool (dq_F rfl (fun h => hg19 h.1)), trivial⟩ rfl
 refine ent_k K7 ?_
 refine ent_condD rfl (fun h24 => ?_) (fun h24 => ?_)
 ·refine esp K6 ?_
  refine ent_seq fun _ K8 => ?_
  refine ent_block ?_
  refine ent_draw 10 mixed (by kernel_rfl) (by kernel_rfl) (by kernel_rfl) ?_
  refine dw_o rfl (ok_move rfl) ?_
  refine dw_o rfl (ok_move rfl) ?_
  refine dw_o rfl (ok_fieldAddrEx Try.runUnderlying53 rfl Try.sizeOf51 (by decide) rfl) ?_
  refine dw_o rfl (ok_loadBS (k := 1) ti51 rfl rfl rfl) ?_
  refine dw_o rfl (ok_move rfl) ?_
  refine dw_o rfl (ok_move rfl) ?_
  refine dw_o rfl (ok_index 0 sl29 rfl rfl (by first | omega | (simp; omega)) (by first | omega | (simp; omega))) ?_
  refine dw_o rfl (ok_load ti3 rfl) ?_
  refine dw_o rfl (ok_call (rIn_ok r.F (ix 0 l i)) rfl) ?_
  refine dw_o rfl (ok_indexV sl29 rfl rfl (by first | omega | (simp; omega)) (by first | omega | (simp; omega))) ?_
  refine dw_nil ?_
  refine ent_storeV (k := 0) (z := inF r.F (ix 0 l i)) ti3 rfl rfl rfl (elem_one (one_int _)) (by first | omega | (simp; omega)) (by first | omega | (simp; omega)) ?_
  refine enk K8 ?_
  refine ent_region ?_
  refine emm rfl ?_
  refine ent_o rfl (ok_add rfl rfl (by first | omega | (simp; omega)) (by first | omega | (simp; omega))) ?_
  refine emm rfl ?_
  refine ent_nil ?_
  refine ent_again (s := (i)) (i + 1) ⟨(by first | rfl | assumption | omega | (simp_all; done) | grind), (by first | rfl | assumption | omega | (simp_all; done) | grind)⟩ (by first | omega | (dsimp only; omega)) (ent_rep ⟨rfl, rfl, rfl, rfl, rfl, trivial⟩ (own_cons (own_vec (show mixL (fileL r l) (List.replicate (rgB r).toNat 0) (i + 1) = List.set (mixL (fileL r l) (List.replicate (rgB r).toNat 0) i) (i).toNat (inF r.F (ix 0 l i)) by exact (mixL_set (fileL r l) _ h0 (by first | omega | (simp; omega)) (by simp [hfl]) (ix_fileL h0 h24.1 h24.2).symm).symm)) (rfl)))
 ·refine ent_exit ?_
  refine ent_k K4 ?_
  refine esk rfl ?_
  refine ent_ret ?_
  exact retR1 (.inr rfl) Try.results37 (resr_tmp (res_cv rfl (cvF_vecV (k := 0) flat_int rfl rfl (by first | rfl | assumption | (simp; done) | (simp_all; done) | omega) (by exact file_end h0 h1 h24))))

theorem small_ok (r : Rgn) (hk1 : -9223372036854775808 ≤ r.K) (hk2 : r.K ≤ 9223372036854775807) (hd1 : -9223372036854775808 ≤ r.D) (hd2 : r.D ≤ 9223372036854775807) : Ctr Try.prog 36 [aRgn r] (aBool (decide ((r.Points.length : Int) ≤ 12 ∧ rgErr r = 0))) := by
 refine ctr_of Try.call36 Try.func36 rfl rfl ?_
 intro w O
 refine ent_lenC 0 2 rfl rfl (fun hlen0_2 => ?_)
 refine ent_lenC 0 6 rfl rfl (fun hlen0_6 => ?_)
 refine esr rfl fun _ K1 => ?_
 refine ent_boxS rfl rfl (AllOne.mem ⟨(one_int _), (one_int _), one_sl, (one_int _), (one_int _), (one_int _), one_sl, trivial⟩) (fun b1_1 => ?_)
 refine emm rfl ?_
 refine enk K1 ?_
 refine ent_seq fun _ K2 => ?_
 refine ent_cut (⟨[(2, aBool (decide (((↑r.Points.length : Int) ≤ 12) ∧ ((rgErr r) = 0))))], [oBox b1_1 53 [aInt r.F.P, aInt r.F.M, aSl 1 false aInt r.F.mod, aInt r.Kind, aInt r.K, aInt r.D, aSl 1 false aInt r.Points]]⟩) ?_ ?_
 ·refine ent_region ?_
  refine ent_o rfl (ok_fieldAddrEx Try.runUnderlying53 rfl Try.sizeOf29 (by decide) rfl) ?_
  refine ent_o rfl (ok_loadB (k := 0) Try.isAgg29 rfl rfl rfl) ?_
  refine ent_o rfl (ok_len rfl Try.runUnderlying29 rfl) ?_
  refine ent_o rfl (ok_leq rfl rfl) ?_
  refine emm rfl ?_
  refine ent_guardXDt rfl rfl rfl rfl (fun hg7 => ?_) (fun hg7 => ?_)
  ·refine ent_o rfl (ok_loadBS (k := 0) ti53 rfl rfl rfl) ?_
   refine ent_guardXT rfl rfl rfl rfl (decide_eq_true hg7) ?_
   refine ent_o rfl (ok_call (rRgCheck_ok r (by first | rfl | assumption | omega | (simp_all; done) | grind) (by first | rfl | assumption | omega | (simp_all; done) | grind) (by first | rfl | assumption | omega | (simp_all; done) | grind) (by first | rfl | assumption | omega | (simp_all; done) | grind)) rfl) ?_
   refine ent_guardXT rfl rfl rfl rfl (decide_eq_true hg7) ?_
   refine ent_o rfl (ok_eql rfl rfl) ?_
   refine ent_o rfl (ok_pickT rfl (decide_eq_true hg7) rfl) ?_
   refine emm rfl ?_
   refine ent_nil ?_
   exact ent_rep ⟨slot_bool (dq_Q ((and_iff_right hg7).trans Iff.rfl)), trivial⟩ rfl
  ·refine ent_guardXF rfl rfl rfl rfl (decide_eq_false hg7) ?_
   refine ent_guardXF rfl rfl rfl rfl (decide_eq_false hg7) ?_
   refine ent_o rfl (ok_pickF rfl (decide_eq_false hg7) rfl) ?_
   refine emm rfl ?_
   refine ent_nil ?_
   exact ent_rep ⟨slot_bool (dq_F rfl (fun h => hg7 h.1)), trivial⟩ rfl
 refine ent_k K2 ?_
 refine ent_ret ?_
 exact retR1 (.inr rfl) Try.results36 (resr_tmp (res_cv rfl (cv_bool (by rfl))))

theorem RegenerateLinear_ok (r : Rgn) (l m : List Int) (x : Int) (hk1 : -9223372036854775808 ≤ r.K) (hk2 : r.K ≤ 9223372036854775807) (hd1 : -9223372036854775808 ≤ r.D) (hd2 : r.D ≤ 9223372036854775807) : Ctr Try.prog 11 [aRgn r, aSl 1 false aInt l, aSl 1 false aInt m, aInt x] (aBool true) := by
 refine ctr_of Try.call11 Try.func11 rfl rfl ?_
 intro w O
 refine ent_lenC 0 2 rfl rfl (fun hlen0_2 => ?_)
 refine ent_lenC 0 6 rfl rfl (fun hlen0_6 => ?_)
 refine ent_len 1 rfl (fun hlen1 => ?_)
 refine ent_len 2 rfl (fun hlen2 => ?_)
 refine esr rfl fun _ K1 => ?_
 refine ent_boxS rfl rfl (AllOne.mem ⟨(one_int _), (one_int _), one_sl, (one_int _), (one_int _), (one_int _), one_sl, trivial⟩) (fun b4_1 => ?_)
 refine emm rfl ?_
 refine enk K1 ?_
 refine ent_seq fun _ K2 => ?_
 refine esr rfl fun _ K3 => ?_
 refine ent_o rfl (ok_loadBS (k := 0) ti53 rfl rfl rfl) ?_
 refine ent_o rfl (ok_call (small_ok r (by first | rfl | assumption | omega | (simp_all; done) | grind) (by first | rfl | assumption | omega | (simp_all; done) | grind) (by first | rfl | assumption | omega | (simp_all; done) | grind) (by first | rfl | assumption | omega | (simp_all; done) | grind)) rfl) ?_
 refine ent_o rfl (ok_notD rfl) ?_
 refine enk K3 ?_
 refine ent_condD rfl (fun h20 => ?_) (fun h20 => ?_)
 ·refine esk rfl ?_
  refine ent_ret ?_
  exact retR1 (.inr rfl) Try.results11 (resr_tmp (res_cv rfl (cv_bool (by rfl))))
 ·have hsm := Classical.not_not.1 h20
  have R := rgErr_zero.1 hsm.2
  have hF := R.fld
  have hS := hF.1
  have hbr := rgB_rng R
  have lf := length_fileL r l
  have lg := length_fileL r m
  have of := file_out hS l
  have og := file_out hS m
  have e1 := file_err R l
  have e2 := file_err R m
  have lf2 : ((fileL r l).length : Int) = rgB r := by omega
  have lg2 : ((fileL r m).length : Int) = rgB r := by omega
  have lh2 : ((addTo r.F (fileL r l) (inF r.F x) (fileL r m)).length : Int) = rgB r := by rw [length_addTo]; exact lf2
  have oh := out_addTo hS of (inF r.F x) (fileL r m)
  have e3 : encErr r (addTo r.F (fileL r l) (inF r.F x) (fileL r m)) = 0 := by rw [encErr_l hsm.2]; unfold lenErr; rw [if_neg (by omega)]; exact entErr_zero.2 oh
  have q1 := encR_ok e1
  have q2 := encR_ok e2
  have q3 := encR_ok e3
  have l1 : ((encR r (fileL r l)).length : Int) = r.Points.length := by rw [q1]; exact enc_len lf2 lg2
  have l2 : ((encR r (fileL r m)).length : Int) = r.Points.length := by rw [q2]; exact enc_len lg2 lf2
  have l3 : ((encR r (addTo r.F (fileL r l) (inF r.F x) (fileL r m))).length : Int) = r.Points.length := by rw [q3]; exact enc_len lh2 lg2
  have hra := (enc_facts R lf2).a
  refine esp K2 ?_
  refine ent_seq fun _ K5 => ?_
  refine ent_draw 8 mixed (by kernel_rfl) (by kernel_rfl) (by kernel_rfl) ?_
  refine dw_o rfl (ok_loadBS (k := 0) ti53 rfl rfl rfl) ?_
  refine dw_o rfl (ok_move rfl) ?_
  refine dw_o rfl (ok_call (CtrF.ctr (CtrF.sl (file_ok r l (by first | rfl | assumption | omega | (simp_all; done) | grind)))) rfl) ?_
  refine dw_o rfl (ok_loadBS (k := 0) ti53 rfl rfl rfl) ?_
  refine dw_o rfl (ok_move rfl) ?_
  refine dw_o rfl (ok_call (CtrF.ctr (CtrF.sl (file_ok r m (by first | rfl | assumption | omega | (simp_all; done) | grind)))) rfl) ?_
  refine dw_o rfl (ok_assign rfl) ?_
  refine dw_o rfl (ok_assign rfl) ?_
  refine dw_nil ?_
  refine enk K5 ?_
  refine esr rfl fun _ K6 => ?_
  refine ent_o rfl (ok_fieldAddrEx Try.runUnderlying53 rfl Try.sizeOf51 (by decide) rfl) ?_
  refine ent_o rfl (ok_loadBS (k := 0) ti51 rfl rfl rfl) ?_
  refine emm rfl ?_
  refine ent_o rfl (ok_call (rIn_ok r.F x) rfl) ?_
  refine emm rfl ?_
  refine enk K6 ?_
  refine esr rfl fun _ K7 => ?_
  refine ent_o rfl (ok_loadBS (k := 0) ti53 rfl rfl rfl) ?_
  refine emm rfl ?_
  refine ent_o rfl (ok_call (Encode_ok r (fileL r l) (by first | rfl | assumption | omega | (simp_all; done) | grind) (by first | rfl | assumption | omega | (simp_all; done) | grind) (by first | rfl | assumption | omega | (simp_all; done) | grind) (by first | rfl | assumption | omega | (simp_all; done) | grind)) rfl) ?_
  refine emm rfl ?_
  refine ent_o rfl (ok_extract rfl rfl) ?_
  refine ent_o rfl (ok_extract rfl rfl) ?_
  refine emm rfl ?_
  refine enk K7 ?_
  refine esr rfl fun _ K8 => ?_
  refine ent_o rfl (ok_loadBS (k := 0) ti53 rfl rfl rfl) ?_
  refine emm rfl ?_
  refine ent_o rfl (ok_call (Encode_ok r (fileL r m) (by first | rfl | assumption | omega | (simp_all; done) | grind) (by first | rfl | assumption | omega | (simp_all; done) | grind) (by first | rfl | assumption | omega | (simp_all; done) | grind) (by first | rfl | assumption | omega | (simp_all; done) | grind)) rfl) ?_
  refine emm rfl ?_
  refine ent_o rfl (ok_extract rfl rfl) ?_
  refine ent_o rfl (ok_extract rfl rfl) ?_
  refine emm rfl ?_
  refine enk K8 ?_
  refine ent_seq fun _ K9 => ?_
  refine ent_draw 13 mixed (by kernel_rfl) (by kernel_rfl) (by kernel_rfl) ?_
  refine dw_o rfl (ok_loadBS (k := 0) ti53 rfl rfl rfl) ?_
  refine dw_o rfl (ok_fieldAddrEx Try.runUnderlying53 rfl Try.sizeOf51 (by decide) rfl) ?_
  refine dw_o rfl (ok_loadBS (k := 0) ti51 rfl rfl rfl) ?_
  refine dw_o rfl (ok_move rfl) ?_
  refine dw_o rfl (ok_move rfl) ?_
  refine dw_o rfl (ok_move rfl) ?_
  refine dw_o rfl (ok_call (CtrF.ctr (CtrF.sl (rAddTo_ok r.F (fileL r l) (inF r.F x) (fileL r m) (by first | rfl | assumption | omega | (simp_all; done) | grind) (by omega) (by omega)))) rfl) ?_
  refine dw_o rfl (ok_call (Encode_ok r (addTo r.F (fileL r l) (inF r.F x) (fileL r m)) (by first | rfl | assumption | omega | (simp_all; done) | grind) (by first | rfl | assumption | omega | (simp_all; done) | grind) (by first | rfl | assumption | omega | (simp_all; done) | grind) (by first | rfl | assumption | omega | (simp_all; done) | grind)) rfl) ?_
  refine dw_o rfl (ok_move rfl) ?_
  refine dw_o rfl (ok_extract rfl rfl) ?_
  refine dw_o rfl (ok_extract rfl rfl) ?_
  refine dw_o rfl (ok_assign rfl) ?_
  refine dw_o rfl (ok_assign rfl) ?_
  refine dw_nil ?_
  refine enk K9 ?_
  refine ent_seq fun _ K10 => ?_
  refine ent_seq fun _ K11 => ?_
  refine ent_cut (⟨[(3, aInt (inF r.F x)), (4, aEx (.pointer (some ⟨b4_1, 0, none⟩))), (11, aSl 1 false aInts (encR r (fileL r l))), (13, aSl 1 false aInts (encR r (fileL r m))), (15, aSl 1 false aInts (encR r (addTo r.F (fileL r l) (inF r.F x) (fileL r m)))), (87, aBool (decide (((((((encErr r (fileL r l)) ≠ 0) ∨ ((encErr r (fileL r m)) ≠ 0)) ∨ ((encErr r (addTo r.F (fileL r l) (inF r.F x) (fileL r m))) ≠ 0)) ∨ ((↑(encR r (fileL r l)).length : Int) ≠ (↑r.Points.length : Int))) ∨ ((↑(encR r (fileL r m)).length : Int) ≠ (↑r.Points.length : Int))) ∨ ((↑(encR r (addTo r.F (fileL r l) (inF r.F x) (fileL r m))).length : Int) ≠ (↑r.Points.length : Int)))))], [oBox b4_1 53 [aInt r.F.P, aInt r.F.M, aSl 1 false aInt r.F.mod, aInt r.Kind, aInt r.K, aInt r.D, aSl 1 false aInt r.Points]]⟩) ?_ ?_
  ·refine ent_region ?_
   refine emm rfl ?_
   refine ent_o rfl (ok_neq rfl rfl) ?_
   refine emm rfl ?_
   refine ent_guardXDf rfl rfl rfl rfl (fun hg56 => ?_) (fun hg56 => ?_)
   ·refine emm rfl ?_
    refine ent_guardXT rfl rfl rfl rfl (decide_eq_false hg56) ?_
    refine ent_o rfl (ok_neq rfl rfl) ?_
    refine ent_o rfl (ok_pickF rfl (decide_eq_false hg56) rfl) ?_
    refine emm rfl ?_
    refine ent_guardXDf rfl rfl rfl rfl (fun hg60 => ?_) (fun hg60 => ?_)
    ·refine emm rfl ?_
     refine ent_guardXT rfl rfl rfl rfl (decide_eq_false hg60) ?_
     refine ent_o rfl (ok_neq rfl rfl) ?_
     refine ent_o rfl (ok_pickF rfl (decide_eq_false hg60) rfl) ?_
     refine emm rfl ?_
     refine ent_guardXDf rfl rfl rfl rfl (fun hg64 => ?_) (fun hg64 => ?_)
     ·refine emm rfl ?_
      refine ent_guardXT rfl rfl rfl rfl (decide_eq_false hg64) ?_
      refine ent_o rfl (ok_len rfl Try.runUnderlying65 rfl) ?_
      refine ent_guardXT rfl rfl rfl rfl (decide_eq_false hg64) ?_
      refine ent_o rfl (ok_fieldAddrEx Try.runUnderlying53 rfl Try.sizeOf29 (by decide) rfl) ?_
      refine ent_guardXT rfl rfl rfl rfl (decide_eq_false hg64) ?_
      refine ent_o rfl (ok_loadB (k := 0) Try.isAgg29 rfl rfl rfl) ?_
      refine ent_guardXT rfl rfl rfl rfl (decide_eq_false hg64) ?_
      refine ent_o rfl (ok_len rfl Try.runUnderlying29 rfl) ?_
      refine ent_guardXT rfl rfl rfl rfl (decide_eq_false hg64) ?_
      refine ent_o rfl (ok_neq rfl rfl) ?_
      refine ent_o rfl (ok_pickF rfl (decide_eq_false hg64) rfl) ?_
      refine emm rfl ?_
      refine ent_guardXDf rfl rfl rfl rfl (fun hg72 => ?_) (fun hg72 => ?_)
      ·refine emm rfl ?_
       refine ent_guardXT rfl rfl rfl rfl (decide_eq_false hg72) ?_
       refine ent_o rfl (ok_len rfl Try.runUnderlying65 rfl) ?_
       refine ent_guardXT rfl rfl rfl rfl (decide_eq_false hg72) ?_
       refine ent_o rfl (ok_fieldAddrEx Try.runUnderlying53 rfl Try.sizeOf29 (by decide) rfl) ?_
       refine ent_guardXT rfl rfl rfl rfl (decide_eq_false hg72) ?_
       refine ent_o rfl (ok_loadB (k := 0) Try.isAgg29 rfl rfl rfl) ?_
       refine ent_guardXT rfl rfl rfl rfl (decide_eq_false hg72) ?_
       refine ent_o rfl (ok_len rfl Try.runUnderlying29 rfl) ?_
       refine ent_guardXT rfl rfl rfl rfl (decide_eq_false hg72) ?_
       refine ent_o rfl (ok_neq rfl rfl) ?_
       refine ent_o rfl (ok_pickF rfl (decide_eq_false hg72) rfl) ?_
       refine emm rfl ?_
       refine ent_guardXDf rfl rfl rfl rfl (fun hg80 => ?_) (fun hg80 => ?_)
       ·refine emm rfl ?_
        refine ent_guardXT rfl rfl rfl rfl (decide_eq_false hg80) ?_
        refine ent_o rfl (ok_len rfl Try.runUnderlying65 rfl) ?_
        refine ent_guardXT rfl rfl rfl rfl (decide_eq_false hg80) ?_
        refine ent_o rfl (ok_fieldAddrEx Try.runUnderlying53 rfl Try.sizeOf29 (by decide) rfl) ?_
        refine ent_guardXT rfl rfl rfl rfl (decide_eq_false hg80) ?_
        refine ent_o rfl (ok_loadB (k := 0) Try.isAgg29 rfl rfl rfl) ?_
        refine ent_guardXT rfl rfl rfl rfl (decide_eq_false hg80) ?_
        refine ent_o rfl (ok_len rfl Try.runUnderlying29 rfl) ?_
        refine ent_guardXT rfl rfl rfl rfl (decide_eq_false hg80) ?_
        refine ent_o rfl (ok_neq rfl rfl) ?_
        refine ent_o rfl (ok_pickF rfl (decide_eq_false hg80) rfl) ?_
        refine ent_nil ?_
        exact ent_rep ⟨rfl, rfl, rfl, rfl, rfl, slot_bool (dq_Q ((or_iff_right (fun h => h.elim (fun h => h.elim (fun h => h.elim (fun h => h.elim hg56 hg60) hg64) hg72) hg80)).trans Iff.rfl)), trivial⟩ rfl
       ·refine ent_guardXF rfl rfl rfl rfl (decide_eq_true hg80) ?_
        refine ent_guardXF rfl rfl rfl rfl (decide_eq_true hg80) ?_
        refine ent_guardXF rfl rfl rfl rfl (decide_eq_true hg80) ?_
        refine ent_guardXF rfl rfl rfl rfl (decide_eq_true hg80) ?_
        refine ent_guardXF rfl rfl rfl rfl (decide_eq_true hg80) ?_
        refine ent_o rfl (ok_pickT rfl (decide_eq_true hg80) rfl) ?_
        refine ent_nil ?_
        exact ent_rep ⟨rfl, rfl, rfl, rfl, rfl, slot_bool (dq_T rfl (Or.inl (Or.inr hg80))), trivial⟩ rfl
      ·refine ent_guardXF rfl rfl rfl rfl (decide_eq_true hg72) ?_
       refine ent_guardXF rfl rfl rfl rfl (decide_eq_true hg72) ?_
       refine ent_guardXF rfl rfl rfl rfl (decide_eq_true hg72) ?_
       refine ent_guardXF rfl rfl rfl rfl (decide_eq_true hg72) ?_
       refine ent_guardXF rfl rfl rfl rfl (decide_eq_true hg72) ?_
       refine ent_o rfl (ok_pickT rfl (decide_eq_true hg72) rfl) ?_
       refine emm rfl ?_
       refine ent_guardXF rfl rfl rfl rfl rfl ?_
       refine ent_guardXF rfl rfl rfl rfl rfl ?_
       refine ent_guardXF rfl rfl rfl rfl rfl ?_
       refine ent_guardXF rfl rfl rfl rfl rfl ?_
       refine ent_guardXF rfl rfl rfl rfl rfl ?_
       refine ent_guardXF rfl rfl rfl rfl rfl ?_
       refine ent_o rfl (ok_pickT rfl rfl rfl) ?_
       refine ent_nil ?_
       exact ent_rep ⟨rfl, rfl, rfl, rfl, rfl, slot_bool (dq_T rfl (Or.inl (Or.inl (Or.inr hg72)))), trivial⟩ rfl
     ·refine ent_guardXF rfl rfl rfl rfl (decide_eq_true hg64) ?_
      refine ent_guardXF rfl rfl rfl rfl (decide_eq_true hg64) ?_
      refine ent_guardXF rfl rfl rfl rfl (decide_eq_true hg64) ?_
      refine ent_guardXF rfl rfl rfl rfl (decide_eq_true hg64) ?_
      refine ent_guardXF rfl rfl rfl rfl (decide_eq_true hg64) ?_
      refine ent_o rfl (ok_pickT rfl (decide_eq_true hg64) rfl) ?_
      refine emm rfl ?_
      refine ent_guardXF rfl rfl rfl rfl rfl ?_
      refine ent_guardXF rfl rfl rfl rfl rfl ?_
      refine ent_guardXF rfl rfl rfl rfl rfl ?_
      refine ent_guardXF rfl rfl rfl rfl rfl ?_
      refine ent_guardXF rfl rfl rfl rfl rfl ?_
      refine ent_guardXF rfl rfl rfl rfl rfl ?_
      refine ent_o rfl (ok_pickT rfl rfl rfl) ?_
      refine emm rfl ?_
      refine ent_guardXF rfl rfl rfl rfl rfl ?_
      refine ent_guardXF rfl rfl rfl rfl rfl ?_
      refine ent_guardXF rfl rfl rfl rfl rfl ?_
      refine ent_guardXF rfl rfl rfl rfl rfl ?_
      refine ent_guardXF rfl rfl rfl rfl rfl ?_
      refine ent_guardXF rfl rfl rfl rfl rfl ?_
      refine ent_o rfl (ok_pickT rfl rfl rfl) ?_
      refine ent_nil ?_
      exact ent_rep ⟨rfl, rfl, rfl, rfl, rfl, slot_bool (dq_T rfl (Or.inl (Or.inl (Or.inl (Or.inr hg64))))), trivial⟩ rfl
    ·refine ent_guardXF rfl rfl rfl rfl (decide_eq_true hg60) ?_
     refine ent_o rfl (ok_pickT rfl (decide_eq_true hg60) rfl) ?_
     refine emm rfl ?_
     refine ent_guardXF rfl rfl rfl rfl rfl ?_
     refine ent_guardXF rfl rfl rfl rfl rfl ?_
     refine ent_guardXF rfl rfl rfl rfl rfl ?_
     refine ent_guardXF rfl rfl rfl rfl rfl ?_
     refine ent_guardXF rfl rfl rfl rfl rfl ?_
     refine ent_guardXF rfl rfl rfl rfl rfl ?_
     refine ent_o rfl (ok_pickT rfl rfl rfl) ?_
     refine emm rfl ?_
     refine ent_guardXF rfl rfl rfl rfl rfl ?_
     refine ent_guardXF rfl rfl rfl rfl rfl ?_
     refine ent_guardXF rfl rfl rfl rfl rfl ?_
     refine ent_guardXF rfl rfl rfl rfl rfl ?_
     refine ent_guardXF rfl rfl rfl rfl rfl ?_
     refine ent_guardXF rfl rfl rfl rfl rfl ?_
     refine ent_o rfl (ok_pickT rfl rfl rfl) ?_
     refine emm rfl ?_
     refine ent_guardXF rfl rfl rfl rfl rfl ?_
     refine ent_guardXF rfl rfl rfl rfl rfl ?_
     refine ent_guardXF rfl rfl rfl rfl rfl ?_
     refine ent_guardXF rfl rfl rfl rfl rfl ?_
     refine ent_guardXF rfl rfl rfl rfl rfl ?_
     refine ent_guardXF rfl rfl rfl rfl rfl ?_
     refine ent_o rfl (ok_pickT rfl rfl rfl) ?_
     refine ent_nil ?_
     exact ent_rep ⟨rfl, rfl, rfl, rfl, rfl, slot_bool (dq_T rfl (Or.inl (Or.inl (Or.inl (Or.inl (Or.inr hg60)))))), trivial⟩ rfl
   ·refine ent_guardXF rfl rfl rfl rfl (decide_eq_true hg56) ?_
    refine ent_o rfl (ok_pickT rfl (decide_eq_true hg56) rfl) ?_
    refine emm rfl ?_
    refine ent_guardXF rfl rfl rfl rfl rfl ?_
    refine ent_guardXF rfl rfl rfl rfl rfl ?_
    refine ent_o rfl (ok_pickT rfl rfl rfl) ?_
    refine emm rfl ?_
    refine ent_guardXF rfl rfl rfl rfl rfl ?_
    refine ent_guardXF rfl rfl rfl rfl rfl ?_
    refine ent_guardXF rfl rfl rfl rfl rfl ?_
    refine ent_guardXF rfl rfl rfl rfl rfl ?_
    refine ent_guardXF rfl rfl rfl rfl rfl ?_
    refine ent_guardXF rfl rfl rfl rfl rfl ?_
    refine ent_o rfl (ok_pickT rfl rfl rfl) ?_
    refine emm rfl ?_
    refine ent_guardXF rfl rfl rfl rfl rfl ?_
    refine ent_guardXF rfl rfl rfl rfl rfl ?_
    refine ent_guardXF rfl rfl rfl rfl rfl ?_
    refine ent_guardXF rfl rfl rfl rfl rfl ?_
    refine ent_guardXF rfl rfl rfl rfl rfl ?_
    refine ent_guardXF rfl rfl rfl rfl rfl ?_
    refine ent_o rfl (ok_pickT rfl rfl rfl) ?_
    refine emm rfl ?_
    refine ent_guardXF rfl rfl rfl rfl rfl ?_
    refine ent_guardXF rfl rfl rfl rfl rfl ?_
    refine ent_guardXF rfl rfl rfl rfl rfl ?_
    refine ent_guardXF rfl rfl rfl rfl rfl ?_
    refine ent_guardXF rfl rfl rfl rfl rfl ?_
    refine ent_guardXF rfl rfl rfl rfl rfl ?_
    refine ent_o rfl (ok_pickT rfl rfl rfl) ?_
    refine ent_nil ?_
    exact ent_rep ⟨rfl, rfl, rfl, rfl, rfl, slot_bool (dq_T rfl (Or.inl (Or.inl (Or.inl (Or.inl (Or.inl hg56)))))), trivial⟩ rfl
  refine ent_k K11 ?_
  refine ent_condD rfl (fun h87 => ?_) (fun h87 => ?_)
  ·omega
  ·refine esp K10 ?_
   refine ent_seq fun _ K12 => ?_
   refine esk rfl ?_
   refine ent_block ?_
   refine ent_loop (fun (i : Int) => (⟨[(3, aInt (inF r.F x)), (4, aEx (.pointer (some ⟨b4_1, 0, none⟩))), (11, aSl 1 false aInts (encR r (fileL r l))), (13, aSl 1 false aInts (encR r (fileL r m))), (15, aSl 1 false aInts (encR r (addTo r.F (fileL r l) (inF r.F x) (fileL r m)))), (17, aInt i)], [oBox b4_1 53 [aInt r.F.P, aInt r.F.M, aSl 1 false aInt r.F.mod, aInt r.Kind, aInt r.K, aInt r.D, aSl 1 false aInt r.Points]]⟩ : St)) (fun (i : Int) => (0 ≤ i) ∧ (i ≤ (encR r (fileL r l)).length)) (fun (i : Int) => ((encR r (fileL r l)).length - i).toNat) 0 ⟨(by first | rfl | assumption | omega | (simp_all; done) | grind), (by first | rfl | assumption | omega | (simp_all; done) | grind)⟩ (ent_rep ⟨rfl, rfl, rfl, rfl, rfl, slot_av (av_int (show 0 = (0 : Int) by first | rfl | assumption | omega | (simp_all; done) | grind)), trivial⟩ rfl) ?_
   rintro i ⟨h0, h1⟩
   show Ent _ ⟨_, [_]⟩ _
   refine ent_seq fun _ K14 => ?_
   refine esr rfl fun _ K15 => ?_
   refine ent_o rfl (ok_len rfl Try.runUnderlying65 rfl) ?_
   refine ent_o rfl (ok_lss rfl rfl) ?_
   refine enk K15 ?_
   refine ent_condD rfl (fun h91 => ?_) (fun h91 => ?_)
   ·have w1 : ((ix [] (encR r (fileL r l)) i).length : Int) = rgA r := by rw [q1]; exact (enc_row R lf2 lg2 of h0 (by omega)).1
    have w2 : ((ix [] (encR r (fileL r m)) i).length : Int) = rgA r := by rw [q2]; exact (enc_row R lg2 lf2 og h0 (by omega)).1
    have wc : ix [] (encR r (addTo r.F (fileL r l) (inF r.F x) (fileL r m))) i = addTo r.F (ix [] (encR r (fileL r l)) i) (inF r.F x) (ix [] (encR r (fileL r m)) i) := by rw [q1, q2, q3]; exact enc_lin R lf2 lg2 of og _ h0 (by omega)
    refine esp K14 ?_
    refine ent_seq fun _ K16 => ?_
    refine ent_block ?_
    refine ent_seq fun _ K17 => ?_
    refine ent_cut (⟨[(3, aInt (inF r.F x)), (4, aEx (.pointer (some ⟨b4_1, 0, none⟩))), (11, aSl 1 false aInts (encR r (fileL r l))), (13, aSl 1 false aInts (encR r (fileL r m))), (15, aSl 1 false aInts (encR r (addTo r.F (fileL r l) (inF r.F x) (fileL r m)))), (17, aInt i), (132, aBool (decide ((((↑(ix [] (encR r (fileL r l)) i).length : Int) ≠ (↑(ix [] (encR r (fileL r m)) i).length : Int)) ∨ ((↑(ix [] (encR r (fileL r l)) i).length : Int) = 0)) ∨ (¬ ((ix [] (encR r (addTo r.F (fileL r l) (inF r.F x) (fileL r m))) i) = (addTo r.F (ix [] (encR r (fileL r l)) i) (inF r.F x) (ix [] (encR r (fileL r m)) i)))))))], [oBox b4_1 53 [aInt r.F.P, aInt r.F.M, aSl 1 false aInt r.F.mod, aInt r.Kind, aInt r.K, aInt r.D, aSl 1 false aInt r.Points]]⟩) ?_ ?_
    ·refine ent_draw 39 mixed (by kernel_rfl) (drawQ_F (by kernel_rfl)) (by kernel_rfl) ?_
     refine dw_o rfl (ok_move rfl) ?_
     refine dw_o rfl (ok_move rfl) ?_
     refine dw_o rfl (ok_index [] sl65 rfl rfl (by omega) (by omega)) ?_
     refine dw_o rfl (ok_load ti29 rfl) ?_
     refine dw_o rfl (ok_len rfl Try.runUnderlying29 rfl) ?_
     refine dw_o rfl (ok_move rfl) ?_
     refine dw_o rfl (ok_move rfl) ?_
     refine dw_o rfl (ok_index [] sl65 rfl rfl (by omega) (by omega)) ?_
     refine dw_o rfl (ok_load ti29 rfl) ?_
     refine dw_o rfl (ok_len rfl Try.runUnderlying29 rfl) ?_
     refine dw_o rfl (ok_neq rfl rfl) ?_
     refine dw_o rfl (ok_move rfl) ?_
     refine dw_guardDf rfl rfl rfl rfl (fun hg105 => ?_) (fun hg105 => ?_)
     ·refine dw_o rfl (ok_move rfl) ?_
      refine dw_guardT rfl rfl rfl rfl (decide_eq_false hg105) ?_
      refine dw_o rfl (ok_move rfl) ?_
      refine dw_guardT rfl rfl rfl rfl (decide_eq_false hg105) ?_
      refine dw_o rfl (ok_index [] sl65 rfl rfl (by omega) (by omega)) ?_
      refine dw_guardT rfl rfl rfl rfl (decide_eq_false hg105) ?_
      refine dw_o rfl (ok_load ti29 rfl) ?_
      refine dw_guardT rfl rfl rfl rfl (decide_eq_false hg105) ?_
      refine dw_o rfl (ok_len rfl Try.runUnderlying29 rfl) ?_
      refine dw_guardT rfl rfl rfl rfl (decide_eq_false hg105) ?_
      refine dw_o rfl (ok_eql rfl rfl) ?_
      refine dw_o rfl (ok_pickF rfl (decide_eq_false hg105) rfl) ?_
      refine dw_o rfl (ok_move rfl) ?_
      refine dw_guardDf rfl rfl rfl rfl (fun hg113 => ?_) (fun hg113 => ?_)
      ·refine dw_o rfl (ok_move rfl) ?_
       refine dw_guardT rfl rfl rfl rfl (decide_eq_false hg113) ?_
       refine dw_o rfl (ok_move rfl) ?_
       refine dw_guardT rfl rfl rfl rfl (decide_eq_false hg113) ?_
       refine dw_o rfl (ok_index [] sl65 rfl rfl (by omega) (by omega)) ?_
       refine dw_guardT rfl rfl rfl rfl (decide_eq_false hg113) ?_
       refine dw_o rfl (ok_load ti29 rfl) ?_
       refine dw_guardT rfl rfl rfl rfl (decide_eq_false hg113) ?_
       refine dw_o rfl (ok_fieldAddrEx Try.runUnderlying53 rfl Try.sizeOf51 (by decide) rfl) ?_
       refine dw_guardT rfl rfl rfl rfl (decide_eq_false hg113) ?_
       refine dw_o rfl (ok_loadBS (k := 0) ti51 rfl rfl rfl) ?_
       refine dw_guardT rfl rfl rfl rfl (decide_eq_false hg113) ?_
       refine dw_o rfl (ok_move rfl) ?_
       refine dw_guardT rfl rfl rfl rfl (decide_eq_false hg113) ?_
       refine dw_o rfl (ok_move rfl) ?_
       refine dw_guardT rfl rfl rfl rfl (decide_eq_false hg113) ?_
       refine dw_o rfl (ok_index [] sl65 rfl rfl (by omega) (by omega)) ?_
       refine dw_guardT rfl rfl rfl rfl (decide_eq_false hg113) ?_
       refine dw_o rfl (ok_load ti29 rfl) ?_
       refine dw_guardT rfl rfl rfl rfl (decide_eq_false hg113) ?_
       refine dw_o rfl (ok_move rfl) ?_
       refine dw_guardT rfl rfl rfl rfl (decide_eq_false hg113) ?_
       refine dw_o rfl (ok_move rfl) ?_
       refine dw_guardT rfl rfl rfl rfl (decide_eq_false hg113) ?_
       refine dw_o rfl (ok_move rfl) ?_
       refine dw_guardT rfl rfl rfl rfl (decide_eq_false hg113) ?_
       refine dw_o rfl (ok_index [] sl65 rfl rfl (by omega) (by omega)) ?_
       refine dw_guardT rfl rfl rfl rfl (decide_eq_false hg113) ?_
       refine dw_o rfl (ok_load ti29 rfl) ?_
       refine dw_guardT rfl rfl rfl rfl (decide_eq_false hg113) ?_
       refine dw_o rfl (ok_call (CtrF.ctr (CtrF.sl (rAddTo_ok r.F (ix [] (encR r (fileL r l)) i) (inF r.F x) (ix [] (encR r (fileL r m)) i) (by first | rfl | assumption | omega | (simp_all; done) | grind) (by first | rfl | assumption | omega | (simp_all; done) | grind) (by first | rfl | assumption | omega | (simp_all; done) | grind)))) rfl) ?_
       refine dw_guardT rfl rfl rfl rfl (decide_eq_false hg113) ?_
       refine dw_o rfl (ok_call (SameInts_ok (ix [] (encR r (addTo r.F (fileL r l) (inF r.F x) (fileL r m))) i) (addTo r.F (ix [] (encR r (fileL r l)) i) (inF r.F x) (ix [] (encR r (fileL r m)) i))) rfl) ?_
       refine dw_guardT rfl rfl rfl rfl (decide_eq_false hg113) ?_
       refine dw_o rfl (ok_notD rfl) ?_
       refine dw_o rfl (ok_pickF rfl (decide_eq_false hg113) rfl) ?_
       refine dw_nil ?_
       refine ent_nil ?_
       exact ent_rep ⟨rfl, rfl, rfl, rfl, rfl, rfl, slot_bool (dq_Q ((or_iff_right (fun h => h.elim hg105 hg113)).trans Iff.rfl)), trivial⟩ rfl
      ·refine dw_guardF rfl rfl rfl rfl (decide_eq_true hg113) ?_
       refine dw_guardF rfl rfl rfl rfl (decide_eq_true hg113) ?_
       refine dw_guardF rfl rfl rfl rfl (decide_eq_true hg113) ?_
       refine dw_guardF rfl rfl rfl rfl (decide_eq_true hg113) ?_
       refine dw_guardF rfl rfl rfl rfl (decide_eq_true hg113) ?_
       refine dw_guardF rfl rfl rfl rfl (decide_eq_true hg113) ?_
       refine dw_guardF rfl rfl rfl rfl (decide_eq_true hg113) ?_
       refine dw_guardF rfl rfl rfl rfl (decide_eq_true hg113) ?_
       refine dw_guardF rfl rfl rfl rfl (decide_eq_true hg113) ?_
       refine dw_guardF rfl rfl rfl rfl (decide_eq_true hg113) ?_
       refine dw_guardF rfl rfl rfl rfl (decide_eq_true hg113) ?_
       refine dw_guardF rfl rfl rfl rfl (decide_eq_true hg113) ?_
       refine dw_guardF rfl rfl rfl rfl (decide_eq_true hg113) ?_
       refine dw_guardF rfl rfl rfl rfl (decide_eq_true hg113) ?_
       refine dw_guardF rfl rfl rfl rfl (decide_eq_true hg113) ?_
       refine dw_guardF rfl rfl rfl rfl (decide_eq_true hg113) ?_
       refine dw_guardF rfl rfl rfl rfl (decide_eq_true hg113) ?_
       refine dw_o rfl (ok_pickT rfl (decide_eq_true hg113) rfl) ?_
       refine dw_nil ?_
       refine ent_nil ?_
       exact ent_rep ⟨rfl, rfl, rfl, rfl, rfl, rfl, slot_bool (dq_T rfl (Or.inl (Or.inr hg113))), trivial⟩ rfl
     ·refine dw_guardF rfl rfl rfl rfl (decide_eq_true hg105) ?_
      refine dw_guardF rfl rfl rfl rfl (decide_eq_true hg105) ?_
      refine dw_guardF rfl rfl rfl rfl (decide_eq_true hg105) ?_
      refine dw_guardF rfl rfl rfl rfl (decide_eq_true hg105) ?_
      refine dw_guardF rfl rfl rfl rfl (decide_eq_true hg105) ?_
      refine dw_o rfl (ok_pickT rfl (decide_eq_true hg105) rfl) ?_
      refine dw_o rfl (ok_move rfl) ?_
      refine dw_guardF rfl rfl rfl rfl rfl ?_
      refine dw_guardF rfl rfl rfl rfl rfl ?_
      refine dw_guardF rfl rfl rfl rfl rfl ?_
      refine dw_guardF rfl rfl rfl rfl rfl ?_
      refine dw_guardF rfl rfl rfl rfl rfl ?_
      refine dw_guardF rfl rfl rfl rfl rfl ?_
      refine dw_guardF rfl rfl rfl rfl rfl ?_
      refine dw_guardF rfl rfl rfl rfl rfl ?_
      refine dw_guardF rfl rfl rfl rfl rfl ?_
      refine dw_guardF rfl rfl rfl rfl rfl ?_
      refine dw_guardF rfl rfl rfl rfl rfl ?_
      refine dw_guardF rfl rfl rfl rfl rfl ?_
      refine dw_guardF rfl rfl rfl rfl rfl ?_
      refine dw_guardF rfl rfl rfl rfl rfl ?_
      refine dw_guardF rfl rfl rfl rfl rfl ?_
      refine dw_guardF rfl rfl rfl rfl rfl ?_
      refine dw_guardF rfl rfl rfl rfl rfl ?_
      refine dw_guardF rfl rfl rfl rfl rfl ?_
      refine dw_o rfl (ok_pickT rfl rfl rfl) ?_
      refine dw_nil ?_
      refine ent_nil ?_
      exact ent_rep ⟨rfl, rfl, rfl, rfl, rfl, rfl, slot_bool (dq_T rfl (Or.inl (Or.inl hg105))), trivial⟩ rfl
    refine ent_k K17 ?_
    refine ent_condD rfl (fun h132 => ?_) (fun h132 => ?_)
    ·exact absurd h132 (fun hh => hh.elim (fun h => by omega) (fun h => h wc))
    ·refine esp K16 ?_
     refine ent_region ?_
     refine emm rfl ?_
     refine ent_o rfl (ok_add rfl rfl (by omega) (by omega)) ?_
     refine emm rfl ?_
     refine ent_nil ?_
     refine ent_again (s := (i)) (i + 1) ⟨(by first | rfl | assumption | omega | (simp_all; done) | grind), (by first | rfl | assumption | omega | (simp_all; done) | grind)⟩ (by first | omega | (dsimp only; omega)) (ent_rep ⟨rfl, rfl, rfl, rfl, rfl, rfl, trivial⟩ rfl)
   ·refine ent_exit ?_
    refine ent_k K12 ?_
    refine esk rfl ?_
    refine ent_ret ?_
    exact retR1 (.inr rfl) Try.results11 (resr_tmp (res_cv rfl (cv_bool (by rfl))))
end Go.Proofs.Ytaipghchkamajaa
