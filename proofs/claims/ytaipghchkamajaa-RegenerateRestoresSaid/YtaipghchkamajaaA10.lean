/-
  Walks of functions of the program and the reference.
-/
import Derived.Test.YtaipghchkamajaaProg
import Derived.Test.YtaipghchkamajaaTab
import Derived.Test.YtaipghchkamajaaPlainJ1
import Derived.Test.YtaipghchkamajaaA2
import Derived.Test.YtaipghchkamajaaA4
import Derived.Test.YtaipghchkamajaaA5
import Derived.Test.YtaipghchkamajaaA6
import Derived.Test.YtaipghchkamajaaA7
import Derived.Test.YtaipghchkamajaaA9
open Go Go.Cw
namespace Go.Proofs.Ytaipghchkamajaa
set_option maxRecDepth 100000
set_option linter.unusedVariables false
set_option linter.unusedSimpArgs false
theorem elements_ok (f : Fld) (l : List Int) (n : Int)  : Ctr Try.prog 60 [aGF f, aSl 1 false aInt l, aInt n] (aInt (lenErr f l n)) := by
 refine ctr_of Try.call60 Try.func60 rfl rfl ?_
 intro w O
 refine ent_lenP 0 4 rfl rfl (fun hlen0_4 => ?_)
 refine ent_lenP 0 5 rfl rfl (fun hlen0_5 => ?_)
 refine ent_len 1 rfl (fun hlen1 => ?_)
 refine esk rfl ?_
 refine ent_seq fun _ K2 => ?_
 refine esr rfl fun _ K3 => ?_
 refine ent_o rfl (ok_len rfl Try.runUnderlying29 rfl) ?_
 refine emm rfl ?_
 refine ent_o rfl (ok_neq rfl rfl) ?_
 refine enk K3 ?_
 refine ent_condD rfl (fun h12 => ?_) (fun h12 => ?_)
 ·refine esk rfl ?_
  refine ent_ret ?_
  exact retR1 (.inr rfl) Try.results60 (resr_tmp (res_cv rfl (cv_int (by unfold lenErr; rw [if_pos h12]))))
 ·refine esp K2 ?_
  refine ent_seq fun _ K5 => ?_
  refine esr rfl fun _ K6 => ?_
  refine ent_o rfl (ok_len rfl Try.runUnderlying29 rfl) ?_
  refine emm rfl ?_
  refine enk K6 ?_
  refine ent_block ?_
  refine ent_loop (fun (i : Int) => (⟨[(0, aGF f), (13, aSl 1 false aInt l), (14, aInt (↑l.length : Int)), (15, aInt i)], []⟩ : St)) (fun (i : Int) => (0 ≤ i) ∧ (i ≤ l.length) ∧ (¬ outF f (l.take i.toNat))) (fun (i : Int) => (l.length - i).toNat) 0 ⟨(by first | rfl | assumption | omega | (simp_all; done) | grind), (by first | rfl | assumption | omega | (simp_all; done) | grind), (by simp [outF])⟩ (ent_rep ⟨rfl, rfl, rfl, slot_av (av_int (show 0 = (0 : Int) by first | rfl | assumption | omega | (simp_all; done) | grind)), trivial⟩ rfl) ?_
  rintro i ⟨h0, h1, hn⟩
  show Ent _ ⟨_, []⟩ _
  refine esr rfl fun _ K7 => ?_
  refine ent_o rfl (ok_lss rfl rfl) ?_
  refine enk K7 ?_
  refine ent_seq fun _ K8 => ?_
  refine ent_condD rfl (fun h16 => ?_) (fun h16 => ?_)
  ·refine esp K8 ?_
   refine ent_seq fun _ K9 => ?_
   refine ent_block ?_
   refine esr rfl fun _ K10 => ?_
   refine ent_o rfl (ok_index 0 sl29 rfl rfl (by omega) (by omega)) ?_
   refine ent_o rfl (ok_load ti3 rfl) ?_
   refine emm rfl ?_
   refine enk K10 ?_
   refine esr rfl fun _ K11 => ?_
   refine ent_o rfl (ok_call (Is_ok f (ix 0 l i)) rfl) ?_
   refine ent_o rfl (ok_notD rfl) ?_
   refine enk K11 ?_
   refine ent_condD rfl (fun h22 => ?_) (fun h22 => ?_)
   ·refine esk rfl ?_
    refine ent_ret ?_
    exact retR1 (.inr rfl) Try.results60 (resr_tmp (res_cv rfl (cv_int (by unfold lenErr entErr; rw [if_neg h12, if_pos (outF_at h0 h16 h22)]))))
   ·refine esp K9 ?_
    refine ent_region ?_
    refine ent_o rfl (ok_add rfl rfl (by omega) (by omega)) ?_
    refine emm rfl ?_
    refine ent_nil ?_
    refine ent_again (s := (i)) (i + 1) ⟨(by first | rfl | assumption | omega | (simp_all; done) | grind), (by first | rfl | assumption | omega | (simp_all; done) | grind), (outF_succ h0 h16 hn (Classical.not_not.1 h22))⟩ (by first | omega | (dsimp only; omega)) (ent_rep ⟨rfl, rfl, rfl, rfl, trivial⟩ rfl)
  ·refine ent_exit ?_
   refine ent_k K5 ?_
   refine esk rfl ?_
   refine ent_ret ?_
   exact retR1 (.inr rfl) Try.results60 (resr_tmp (res_cv rfl (cv_int (by unfold lenErr entErr; rw [if_neg h12, if_neg (by rw [List.take_of_length_le (by omega)] at hn; exact hn)]))))

theorem RgPowers_ok (f : Fld) (x n : Int) (hF : FOk f) (hn0 : 0 ≤ n) (hn1 : n ≤ 64) : CtrF Try.prog 62 [aGF f, aInt x, aInt n] (aVec 3 1 false aInt (powsF f x n)) := by
 refine ctrF_of Try.call62 Try.func62 rfl rfl ?_
 intro w O
 refine ent_lenP 0 4 rfl rfl (fun hlen0_4 => ?_)
 refine ent_lenP 0 5 rfl rfl (fun hlen0_5 => ?_)
 refine esk rfl ?_
 refine esr rfl fun _ K2 => ?_
 refine ent_make aInt 0 rfl vt29 rfl rfl (by omega) (by omega) (by omega) (fun _ _ => rfl) (AllV.mem ⟨rfl, trivial⟩) (fun b10_1 => ?_)
 refine emm rfl ?_
 refine enk K2 ?_
 refine ent_seq fun _ K3 => ?_
 refine esr rfl fun _ K4 => ?_
 refine ent_o rfl (ok_lenEx rfl Try.runUnderlying29 rfl) ?_
 refine emm rfl ?_
 refine enk K4 ?_
 refine ent_block ?_
 refine ent_loop (fun (i : Int) => (⟨[(0, aGF f), (1, aInt x), (7, aEx (vec (some b10_1) ((n).toNat) ((n).toNat))), (12, aInt (↑((n).toNat) : Int)), (13, aInt i)], [oVec (some b10_1) ((n).toNat) 3 1 false aInt (fillR (powF f x) 0 n i)]⟩ : St)) (fun (i : Int) => (0 ≤ i) ∧ (i ≤ n)) (fun (i : Int) => (n - i).toNat) 0 ⟨(by first | rfl | assumption | omega | (simp_all; done) | grind), (by first | rfl | assumption | omega | (simp_all; done) | grind)⟩ (ent_rep ⟨rfl, rfl, rfl, rfl, slot_av (av_int (show 0 = (0 : Int) by first | rfl | assumption | omega | (simp_all; done) | grind)), trivial⟩ (own_cons (own_vec (show fillR (powF f x) 0 n (0 : Int) = List.replicate ((n).toNat) 0 by exact fillR_zero _ _ _)) (rfl))) ?_
 rintro i ⟨h0, h1⟩
 show Ent _ ⟨_, [_]⟩ _
 have lf := length_fillR (powF f x) 0 h0 h1
 refine esr rfl fun _ K5 => ?_
 refine ent_o rfl (ok_lss rfl rfl) ?_
 refine enk K5 ?_
 refine ent_seq fun _ K6 => ?_
 refine ent_condD rfl (fun h14 => ?_) (fun h14 => ?_)
 ·refine esp K6 ?_
  refine ent_seq fun _ K7 => ?_
  refine ent_block ?_
  refine esk rfl ?_
  refine ent_region ?_
  refine emm rfl ?_
  refine ent_o rfl (ok_call (Pow_ok f x i (by first | rfl | assumption | omega | (simp_all; done) | grind) (by first | rfl | assumption | omega | (simp_all; done) | grind) (by first | rfl | assumption | omega | (simp_all; done) | grind)) rfl) ?_
  refine emm rfl ?_
  refine ent_o rfl (ok_extract rfl rfl) ?_
  refine ent_o rfl (ok_extract rfl rfl) ?_
  refine ent_o rfl (ok_indexV sl29 rfl rfl (by omega) (by omega)) ?_
  refine ent_storeV (k := 0) (z := powF f x i) ti3 rfl rfl rfl (elem_one (one_int _)) (by omega) (by omega) ?_
  refine enk K7 ?_
  refine ent_region ?_
  refine ent_o rfl (ok_add rfl rfl (by omega) (by omega)) ?_
  refine emm rfl ?_
  refine ent_nil ?_
  refine ent_again (s := (i)) (i + 1) ⟨(by first | rfl | assumption | omega | (simp_all; done) | grind), (by first | rfl | assumption | omega | (simp_all; done) | grind)⟩ (by first | omega | (dsimp only; omega)) (ent_rep ⟨rfl, rfl, rfl, rfl, rfl, trivial⟩ (own_cons (own_vec (show fillR (powF f x) 0 n (i + 1) = List.set (fillR (powF f x) 0 n i) (i).toNat (powF f x i) by exact (fillR_set (powF f x) 0 h0 (show i < n by omega)).symm)) (rfl)))
 ·refine ent_exit ?_
  refine ent_k K3 ?_
  refine esk rfl ?_
  refine ent_ret ?_
  exact retR1 (.inr rfl) Try.results62 (resr_tmp (res_cv rfl (cvF_vecV (k := 0) flat_int rfl rfl (by first | rfl | assumption | (simp; done) | (simp_all; done) | omega) (by rw [fillR_all (powF f x) 0 (show n ≤ i by omega), show i = n by omega]; rfl))))

theorem Help_ok (r : Rgn) (x : Int) (l : List Int) (hk1 : -9223372036854775808 ≤ r.K) (hk2 : r.K ≤ 9223372036854775807) (hd1 : -9223372036854775808 ≤ r.D) (hd2 : r.D ≤ 9223372036854775807) : Ctr Try.prog 30 [aRgn r, aInt x, aSl 1 false aInt l] (aTup [aInt (helpF r x l), aInt (helpErr r x l)]) := by
 refine ctr_of Try.call30 Try.func30 rfl rfl ?_
 intro w O
 refine ent_lenC 0 2 rfl rfl (fun hlen0_2 => ?_)
 refine ent_lenC 0 6 rfl rfl (fun hlen0_6 => ?_)
 refine ent_len 2 rfl (fun hlen2 => ?_)
 refine esr rfl fun _ K1 => ?_
 refine ent_boxS rfl rfl (AllOne.mem ⟨(one_int _), (one_int _), one_sl, (one_int _), (one_int _), (one_int _), one_sl, trivial⟩) (fun b3_1 => ?_)
 refine emm rfl ?_
 refine enk K1 ?_
 refine ent_seq fun _ K2 => ?_
 refine esr rfl fun _ K3 => ?_
 refine ent_o rfl (ok_loadBS (k := 0) ti53 rfl rfl rfl) ?_
 refine ent_o rfl (ok_call (RgCheck_ok r (by first | rfl | assumption | omega | (simp_all; done) | grind) (by first | rfl | assumption | omega | (simp_all; done) | grind) (by first | rfl | assumption | omega | (simp_all; done) | grind) (by first | rfl | assumption | omega | (simp_all; done) | grind)) rfl) ?_
 refine emm rfl ?_
 refine enk K3 ?_
 refine esr rfl fun _ K4 => ?_
 refine ent_o rfl (ok_neq rfl rfl) ?_
 refine enk K4 ?_
 refine ent_condD rfl (fun h17 => ?_) (fun h17 => ?_)
 ·have he : helpErr r x l = rgErr r := if_pos h17
  have hz : helpF r x l = 0 := if_neg (by rw [he]; exact h17)
  refine esk rfl ?_
  refine ent_ret ?_
  exact retR2 (.inr rfl) Try.results30 (resr_tmp (res_cv rfl (cv_int (by exact hz.symm)))) (resr_tmp (res_cv rfl (cv_int (by exact he.symm))))
 ·have h0 := Classical.not_not.1 h17
  have hR := rgErr_zero.1 h0
  have hF := hR.fld
  have hal := rgA_le hR
  refine esp K2 ?_
  refine ent_seq fun _ K6 => ?_
  refine ent_seq fun _ K7 => ?_
  refine ent_cut (⟨[(1, aInt x), (2, aSl 1 false aInt l), (3, aEx (.pointer (some ⟨b3_1, 0, none⟩))), (27, aBool (decide ((x < 0) ∨ ((↑r.Points.length : Int) ≤ x))))], [oBox b3_1 53 [aInt r.F.P, aInt r.F.M, aSl 1 false aInt r.F.mod, aInt r.Kind, aInt r.K, aInt r.D, aSl 1 false aInt r.Points]]⟩) ?_ ?_
  ·refine ent_region ?_
   refine emm rfl ?_
   refine ent_o rfl (ok_lss rfl rfl) ?_
   refine emm rfl ?_
   refine ent_guardXDf rfl rfl rfl rfl (fun hg21 => ?_) (fun hg21 => ?_)
   ·refine emm rfl ?_
    refine ent_guardXT rfl rfl rfl rfl (decide_eq_false hg21) ?_
    refine ent_o rfl (ok_fieldAddrEx Try.runUnderlying53 rfl Try.sizeOf29 (by decide) rfl) ?_
    refine ent_guardXT rfl rfl rfl rfl (decide_eq_false hg21) ?_
    refine ent_o rfl (ok_loadB (k := 0) Try.isAgg29 rfl rfl rfl) ?_
    refine ent_guardXT rfl rfl rfl rfl (decide_eq_false hg21) ?_
    refine ent_o rfl (ok_len rfl Try.runUnderlying29 rfl) ?_
    refine ent_guardXT rfl rfl rfl rfl (decide_eq_false hg21) ?_
    refine ent_o rfl (ok_geq rfl rfl) ?_
    refine ent_o rfl (ok_pickF rfl (decide_eq_false hg21) rfl) ?_
    refine ent_nil ?_
    exact ent_rep ⟨rfl, rfl, rfl, slot_bool (dq_Q ((or_iff_right hg21).trans Iff.rfl)), trivial⟩ rfl
   ·refine ent_guardXF rfl rfl rfl rfl (decide_eq_true hg21) ?_
    refine ent_guardXF rfl rfl rfl rfl (decide_eq_true hg21) ?_
    refine ent_guardXF rfl rfl rfl rfl (decide_eq_true hg21) ?_
    refine ent_guardXF rfl rfl rfl rfl (decide_eq_true hg21) ?_
    refine ent_o rfl (ok_pickT rfl (decide_eq_true hg21) rfl) ?_
    refine ent_nil ?_
    exact ent_rep ⟨rfl, rfl, rfl, slot_bool (dq_T rfl (Or.inl hg21)), trivial⟩ rfl
  refine ent_k K7 ?_
  refine ent_condD rfl (fun h27 => ?_) (fun h27 => ?_)
  ·have he : helpErr r x l = 6 := by unfold helpErr; rw [if_neg h17, if_pos (by omega)]
   have hz : helpF r x l = 0 := if_neg (by rw [he]; omega)
   refine esk rfl ?_
   refine ent_ret ?_
   exact retR2 (.inr rfl) Try.results30 (resr_tmp (res_cv rfl (cv_int (by exact hz.symm)))) (resr_tmp (res_cv rfl (cv_int (by exact he.symm))))
  ·have he : helpErr r x l = lenErr r.F l (rgA r) := by unfold helpErr; rw [if_neg h17, if_neg (by omega)]
   refine esp K6 ?_
   refine esr rfl fun _ K9 => ?_
   refine ent_o rfl (ok_fieldAddrEx Try.runUnderlying53 rfl Try.sizeOf51 (by decide) rfl) ?_
   refine ent_o rfl (ok_loadBS (k := 0) ti51 rfl rfl rfl) ?_
   refine ent_o rfl (ok_call (CtrF.ctr (New_ok r.F hF)) rfl) ?_
   refine emm rfl ?_
   refine ent_o rfl (ok_extract rfl rfl) ?_
   refine ent_o rfl (ok_extract rfl rfl) ?_
   refine emm rfl ?_
   refine enk K9 ?_
   refine esr rfl fun _ K10 => ?_
   refine ent_o rfl (ok_loadBS (k := 0) ti53 rfl rfl rfl) ?_
   refine ent_o rfl (ok_call (sizes_ok r (by first | rfl | assumption | omega | (simp_all; done) | grind)) rfl) ?_
   refine emm rfl ?_
   refine ent_o rfl (ok_extract rfl rfl) ?_
   refine ent_o rfl (ok_extract rfl rfl) ?_
   refine emm rfl ?_
   refine enk K10 ?_
   refine ent_seq fun _ K11 => ?_
   refine esr rfl fun _ K12 => ?_
   refine ent_o rfl (ok_call (elements_ok r.F l (rgA r)) rfl) ?_
   refine emm rfl ?_
   refine enk K12 ?_
   refine esr rfl fun _ K13 => ?_
   refine ent_o rfl (ok_neq rfl rfl) ?_
   refine enk K13 ?_
   refine ent_condD rfl (fun h44 => ?_) (fun h44 => ?_)
   ·have hz : helpF r x l = 0 := if_neg (by rw [he]; exact h44)
    refine esk rfl ?_
    refine ent_ret ?_
    exact retR2 (.inr rfl) Try.results30 (resr_tmp (res_cv rfl (cv_int (by exact hz.symm)))) (resr_tmp (res_cv rfl (cv_int (by exact he.symm))))
   ·have hl0 := Classical.not_not.1 h44
    have hll := lenErr_len hl0
    have hz : helpF r x l = dotF r.F l (powsF r.F (ix 0 r.Points x) r.D) := if_pos (by rw [he]; exact hl0)
    have hdp := dotF_pows r.F (ix 0 r.Points x) l hll hal.2.2.1
    refine esp K11 ?_
    refine esr rfl fun _ K15 => ?_
    refine ent_o rfl (ok_fieldAddrEx Try.runUnderlying53 rfl Try.sizeOf29 (by decide) rfl) ?_
    refine ent_o rfl (ok_loadB (k := 0) Try.isAgg29 rfl rfl rfl) ?_
    refine emm rfl ?_
    refine ent_o rfl (ok_index 0 sl29 rfl rfl (by omega) (by omega)) ?_
    refine ent_o rfl (ok_load ti3 rfl) ?_
    refine emm rfl ?_
    refine ent_o rfl (ok_call (CtrF.ctr (CtrF.sl (RgPowers_ok r.F (ix 0 r.Points x) (rgA r) (by first | rfl | assumption | omega | (simp_all; done) | grind) (by first | rfl | assumption | omega | (simp_all; done) | grind) (by first | rfl | assumption | omega | (simp_all; done) | grind)))) rfl) ?_
    refine ent_o rfl (ok_call (Dot_ok r.F l (powsF r.F (ix 0 r.Points x) (rgA r)) (by first | rfl | assumption | omega | (simp_all; done) | grind)) rfl) ?_
    refine emm rfl ?_
    refine enk K15 ?_
    refine ent_ret ?_
    exact retR2 (.inr rfl) Try.results30 (resr_tmp (res_cv rfl (cv_int (by rw [hz, hdp])))) (resr_tmp (res_cv rfl (cv_int (by rw [he]; exact hl0.symm))))

end Go.Proofs.Ytaipghchkamajaa

