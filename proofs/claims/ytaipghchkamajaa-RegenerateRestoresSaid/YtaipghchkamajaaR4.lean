/-
  Walks of functions of the program and the reference.
-/
import Derived.Test.YtaipghchkamajaaProg
import Derived.Test.YtaipghchkamajaaTab
import Derived.Test.YtaipghchkamajaaPlainJ1
import Derived.Test.YtaipghchkamajaaPlainJ2
import Derived.Test.YtaipghchkamajaaCzLib
import Derived.Test.YtaipghchkamajaaA2
import Derived.Test.YtaipghchkamajaaA4
import Derived.Test.YtaipghchkamajaaA5
import Derived.Test.YtaipghchkamajaaA6
import Derived.Test.YtaipghchkamajaaA7
import Derived.Test.YtaipghchkamajaaA9
import Derived.Test.YtaipghchkamajaaA10
import Derived.Test.YtaipghchkamajaaB1
import Derived.Test.YtaipghchkamajaaC11
import Derived.Test.YtaipghchkamajaaC12
import Derived.Test.YtaipghchkamajaaC13
import Derived.Test.YtaipghchkamajaaC14
import Derived.Test.YtaipghchkamajaaC16
import Derived.Test.YtaipghchkamajaaC18
import Derived.Test.YtaipghchkamajaaC19
import Derived.Test.YtaipghchkamajaaC22
import Derived.Test.YtaipghchkamajaaB2
import Derived.Test.YtaipghchkamajaaR1
import Derived.Test.YtaipghchkamajaaR3
open Go Go.Cw
namespace Go.Proofs.Ytaipghchkamajaa
set_option maxRecDepth 100000
set_option linter.unusedVariables false
set_option linter.unusedSimpArgs false
theorem file_ok (r : Rgn) (l : List Int) (R : RgOk r) : CtrF Try.prog 37 [aRgn r, aSl 1 false aInt l] (aVec 3 1 false aInt (fileL r l)) := by
 have hb := rgB_rng R
 have hfl := length_fileL r l
 refine ctrF_of Try.call37 Try.func37 rfl rfl ?_
 intro w O
 refine ent_lenC 0 2 rfl rfl (fun hlen0_2 => ?_)
 refine ent_lenC 0 6 rfl rfl (fun hlen0_6 => ?_)
 refine ent_len 1 rfl (fun hlen1 => ?_)
 refine esr rfl fun _ K1 => ?_
 refine ent_boxS rfl rfl (AllOne.mem ⟨(one_int _), (one_int _), one_sl, (one_int _), (one_int _), (one_int _), one_sl, trivial⟩) (fun b2_1 => ?_)
 refine emm rfl ?_
 refine enk K1 ?_
 refine esr rfl fun _ K2 => ?_
 refine ent_o rfl (ok_loadBS (k := 0) ti53 rfl rfl rfl) ?_
 refine ent_o rfl (ok_call (rSize_ok r (by first | rfl | assumption | omega | (simp_all; done) | grind)) rfl) ?_
 refine emm rfl ?_
 refine ent_o rfl (ok_extract rfl rfl) ?_
 refine ent_o rfl (ok_extract rfl rfl) ?_
 refine emm rfl ?_
 refine enk K2 ?_
 refine esr rfl fun _ K3 => ?_
 refine ent_make aInt 0 rfl vt29 rfl rfl (by first | omega | (simp; omega)) (by first | omega | (simp; omega)) (by first | omega | (simp; omega)) (fun _ _ => rfl) (AllV.mem ⟨rfl, trivial⟩) (fun b15_2 => ?_)
 refine emm rfl ?_
 refine enk K3 ?_
 refine ent_seq fun _ K4 => ?_
 refine esk rfl ?_
 refine ent_block ?_
 refine ent_loop (fun (i : Int) => (⟨[(1, aSl 1 false aInt l), (2, aEx (.pointer (some ⟨b2_1, 0, none⟩))), (5, aInt (rgB r)), (7, aEx (vec (some b15_2) ((rgB r).toNat) ((rgB r).toNat))), (8, aInt i)], [oVec (some b15_2) ((rgB r).toNat) 3 1 false aInt (mixL (fileL r l) (List.replicate (rgB r).toNat 0) i), oBox b2_1 53 [aInt r.F.P, aInt r.F.M, aSl 1 false aInt r.F.mod, aInt r.Kind, aInt r.K, aInt r.D, aSl 1 false aInt r.Points]]⟩ : St)) (fun (i : Int) => (0 ≤ i) ∧ (i ≤ rgB r)) (fun (i : Int) => (rgB r - i).toNat) 0 ⟨(by first | rfl | assumption | omega | (simp_all; done) | grind), (by first | rfl | assumption | omega | (simp_all; done) | grind)⟩ (ent_rep ⟨rfl, rfl, rfl, rfl, slot_av (av_int (show 0 = (0 : Int) by first | rfl | assumption | omega | (simp_all; done) | grind)), trivial⟩ (own_cons (own_vec (show mixL (fileL r l) (List.replicate (rgB r).toNat 0) (0 : Int) = List.replicate ((rgB r).toNat) 0 by first | exact mixL_zero _ _ | (rw [mixL_zero]; congr 1; omega))) (rfl))) ?_
 rintro i ⟨h0, h1⟩
 show Ent _ ⟨_, [_, _]⟩ _
 have lm : (mixL (fileL r l) (List.replicate (rgB r).toNat 0) i).length = (rgB r).toNat := by rw [length_mixL _ _ (by simp [hfl])]; simp [hfl]
 refine ent_seq fun _ K6 => ?_
 refine ent_seq fun _ K7 => ?_
 refine ent_cut (⟨[(1, aSl 1 false aInt l), (2, aEx (.pointer (some ⟨b2_1, 0, none⟩))), (5, aInt (rgB r)), (7, aEx (vec (some b15_2) ((rgB r).toNat) ((rgB r).toNat))), (8, aInt i), (24, aBool (decide ((i < (rgB r)) ∧ (i < (↑l.length : Int)))))], [oVec (some b15_2) ((rgB r).toNat) 3 1 false aInt (mixL (fileL r l) (List.replicate (rgB r).toNat 0) i), oBox b2_1 53 [aInt r.F.P, aInt r.F.M, aSl 1 false aInt r.F.mod, aInt r.Kind, aInt r.K, aInt r.D, aSl 1 false aInt r.Points]]⟩) ?_ ?_
 ·refine ent_region ?_
  refine emm rfl ?_
  refine ent_o rfl (ok_lss rfl rfl) ?_
  refine emm rfl ?_
  refine ent_guardXDt rfl rfl rfl rfl (fun hg19 => ?_) (fun hg19 => ?_)
  ·refine emm rfl ?_
   refine ent_guardXT rfl rfl rfl rfl (decide_eq_true hg19) ?_
   refine emm rfl ?_
   refine ent_guardXT rfl rfl rfl rfl (decide_eq_true hg19) ?_
   refine ent_o rfl (ok_len rfl Try.runUnderlying29 rfl) ?_
   refine ent_guardXT rfl rfl rfl rfl (decide_eq_true hg19) ?_
   refine ent_o rfl (ok_lss rfl rfl) ?_
   refine ent_o rfl (ok_pickT rfl (decide_eq_true hg19) rfl) ?_
   refine ent_nil ?_
   exact ent_rep ⟨rfl, rfl, rfl, rfl, rfl, slot_bool (dq_Q ((and_iff_right hg19).trans Iff.rfl)), trivial⟩ rfl
  ·refine ent_guardXF rfl rfl rfl rfl (decide_eq_false hg19) ?_
   refine ent_guardXF rfl rfl rfl rfl (decide_eq_false hg19) ?_
   refine ent_guardXF rfl rfl rfl rfl (decide_eq_false hg19) ?_
   refine ent_o rfl (ok_pickF rfl (decide_eq_false hg19) rfl) ?_
   refine ent_nil ?_
   exact ent_rep ⟨rfl, rfl, rfl, rfl, rfl, slot_bool (dq_F rfl (fun h => hg19 h.1)), trivial⟩ rfl
 refine ent_k K7 ?_
 refine ent_condD rfl (fun h24 => ?_) (fun h24 => ?_)
 ·refine esp K6 ?_
  refine ent_seq fun _ K8 => ?_
  refine ent_block ?_
  refine ent_draw 10 mixed (by kernel_rfl) (by kernel_rfl) (by kernel_rfl) ?_
  refine dw_o rfl (ok_move rfl) ?_
  refine dw_o rfl (ok_move rfl) ?_
  refine dw_o rfl (ok_fieldAddrEx Try.runUnderlying53 rfl Try.sizeOf51 (by decide) rfl) ?_
  refine dw_o rfl (ok_loadBS (k := 1) ti51 rfl rfl rfl) ?_
  refine dw_o rfl (ok_move rfl) ?_
  refine dw_o rfl (ok_move rfl) ?_
  refine dw_o rfl (ok_index 0 sl29 rfl rfl (by first | omega | (simp; omega)) (by first | omega | (simp; omega))) ?_
  refine dw_o rfl (ok_load ti3 rfl) ?_
  refine dw_o rfl (ok_call (rIn_ok r.F (ix 0 l i)) rfl) ?_
  refine dw_o rfl (ok_indexV sl29 rfl rfl (by first | omega | (simp; omega)) (by first | omega | (simp; omega))) ?_
  refine dw_nil ?_
  refine ent_storeV (k := 0) (z := inF r.F (ix 0 l i)) ti3 rfl rfl rfl (elem_one (one_int _)) (by first | omega | (simp; omega)) (by first | omega | (simp; omega)) ?_
  refine enk K8 ?_
  refine ent_region ?_
  refine emm rfl ?_
  refine ent_o rfl (ok_add rfl rfl (by first | omega | (simp; omega)) (by first | omega | (simp; omega))) ?_
  refine emm rfl ?_
  refine ent_nil ?_
  refine ent_again (s := (i)) (i + 1) ⟨(by first | rfl | assumption | omega | (simp_all; done) | grind), (by first | rfl | assumption | omega | (simp_all; done) | grind)⟩ (by first | omega | (dsimp only; omega)) (ent_rep ⟨rfl, rfl, rfl, rfl, rfl, trivial⟩ (own_cons (own_vec (show mixL (fileL r l) (List.replicate (rgB r).toNat 0) (i + 1) = List.set (mixL (fileL r l) (List.replicate (rgB r).toNat 0) i) (i).toNat (inF r.F (ix 0 l i)) by exact (mixL_set (fileL r l) _ h0 (by first | omega | (simp; omega)) (by simp [hfl]) (ix_fileL h0 h24.1 h24.2).symm).symm)) (rfl)))
 ·refine ent_exit ?_
  refine ent_k K4 ?_
  refine esk rfl ?_
  refine ent_ret ?_
  exact retR1 (.inr rfl) Try.results37 (resr_tmp (res_cv rfl (cvF_vecV (k := 0) flat_int rfl rfl (by first | rfl | assumption | (simp; done) | (simp_all; done) | omega) (by exact file_end h0 h1 h24))))

theorem small_ok (r : Rgn) (hk1 : -9223372036854775808 ≤ r.K) (hk2 : r.K ≤ 9223372036854775807) (hd1 : -9223372036854775808 ≤ r.D) (hd2 : r.D ≤ 9223372036854775807) : Ctr Try.prog 36 [aRgn r] (aBool (decide ((r.Points.length : Int) ≤ 12 ∧ rgErr r = 0))) := by
 refine ctr_of Try.call36 Try.func36 rfl rfl ?_
 intro w O
 refine ent_lenC 0 2 rfl rfl (fun hlen0_2 => ?_)
 refine ent_lenC 0 6 rfl rfl (fun hlen0_6 => ?_)
 refine esr rfl fun _ K1 => ?_
 refine ent_boxS rfl rfl (AllOne.mem ⟨(one_int _), (one_int _), one_sl, (one_int _), (one_int _), (one_int _), one_sl, trivial⟩) (fun b1_1 => ?_)
 refine emm rfl ?_
 refine enk K1 ?_
 refine ent_seq fun _ K2 => ?_
 refine ent_cut (⟨[(2, aBool (decide (((↑r.Points.length : Int) ≤ 12) ∧ ((rgErr r) = 0))))], [oBox b1_1 53 [aInt r.F.P, aInt r.F.M, aSl 1 false aInt r.F.mod, aInt r.Kind, aInt r.K, aInt r.D, aSl 1 false aInt r.Points]]⟩) ?_ ?_
 ·refine ent_region ?_
  refine ent_o rfl (ok_fieldAddrEx Try.runUnderlying53 rfl Try.sizeOf29 (by decide) rfl) ?_
  refine ent_o rfl (ok_loadB (k := 0) Try.isAgg29 rfl rfl rfl) ?_
  refine ent_o rfl (ok_len rfl Try.runUnderlying29 rfl) ?_
  refine ent_o rfl (ok_leq rfl rfl) ?_
  refine emm rfl ?_
  refine ent_guardXDt rfl rfl rfl rfl (fun hg7 => ?_) (fun hg7 => ?_)
  ·refine ent_o rfl (ok_loadBS (k := 0) ti53 rfl rfl rfl) ?_
   refine ent_guardXT rfl rfl rfl rfl (decide_eq_true hg7) ?_
   refine ent_o rfl (ok_call (rRgCheck_ok r (by first | rfl | assumption | omega | (simp_all; done) | grind) (by first | rfl | assumption | omega | (simp_all; done) | grind) (by first | rfl | assumption | omega | (simp_all; done) | grind) (by first | rfl | assumption | omega | (simp_all; done) | grind)) rfl) ?_
   refine ent_guardXT rfl rfl rfl rfl (decide_eq_true hg7) ?_
   refine ent_o rfl (ok_eql rfl rfl) ?_
   refine ent_o rfl (ok_pickT rfl (decide_eq_true hg7) rfl) ?_
   refine emm rfl ?_
   refine ent_nil ?_
   exact ent_rep ⟨slot_bool (dq_Q ((and_iff_right hg7).trans Iff.rfl)), trivial⟩ rfl
  ·refine ent_guardXF rfl rfl rfl rfl (decide_eq_false hg7) ?_
   refine ent_guardXF rfl rfl rfl rfl (decide_eq_false hg7) ?_
   refine ent_o rfl (ok_pickF rfl (decide_eq_false hg7) rfl) ?_
   refine emm rfl ?_
   refine ent_nil ?_
   exact ent_rep ⟨slot_bool (dq_F rfl (fun h => hg7 h.1)), trivial⟩ rfl
 refine ent_k K2 ?_
 refine ent_ret ?_
 exact retR1 (.inr rfl) Try.results36 (resr_tmp (res_cv rfl (cv_bool (by rfl))))

end Go.Proofs.Ytaipghchkamajaa

