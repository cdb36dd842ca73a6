/-
  Walks of functions of the program and the reference.
-/
import Derived.Test.YtaipghchkamajaaProg
import Derived.Test.YtaipghchkamajaaTab
import Derived.Test.YtaipghchkamajaaPlainJ1
import Derived.Test.YtaipghchkamajaaA2
import Derived.Test.YtaipghchkamajaaA4
import Derived.Test.YtaipghchkamajaaA5
import Derived.Test.YtaipghchkamajaaA6
import Derived.Test.YtaipghchkamajaaA7
import Derived.Test.YtaipghchkamajaaA9
open Go Go.Cw
namespace Go.Proofs.Ytaipghchkamajaa
set_option maxRecDepth 100000
set_option linter.unusedVariables false
set_option linter.unusedSimpArgs false
theorem elements_ok (f : Fld) (l : List Int) (n : Int)  : Ctr Try.prog 60 [aGF f, aSl 1 false aInt l, aInt n] (aInt (lenErr f l n)) := by
 refine ctr_of Try.call60 Try.func60 rfl rfl ?_
 intro w O
 refine ent_lenP 0 4 rfl rfl (fun hlen0_4 => ?_)
 refine ent_lenP 0 5 rfl rfl (fun hlen0_5 => ?_)
 refine ent_len 1 rfl (fun hlen1 => ?_)
 refine esk rfl ?_
 refine ent_seq fun _ K2 => ?_
 refine esr rfl fun _ K3 => ?_
 refine ent_o rfl (ok_len rfl Try.runUnderlying29 rfl) ?_
 refine emm rfl ?_
 refine ent_o rfl (ok_neq rfl rfl) ?_
 refine enk K3 ?_
 refine ent_condD rfl (fun h12 => ?_) (fun h12 => ?_)
 ·refine esk rfl ?_
  refine ent_ret ?_
  exact retR1 (.inr rfl) Try.results60 (resr_tmp (res_cv rfl (cv_int (by unfold lenErr; rw [if_pos h12]))))
 ·refine esp K2 ?_
  refine ent_seq fun _ K5 => ?_
  refine esr rfl fun _ K6 => ?_
  refine ent_o rfl (ok_len rfl Try.runUnderlying29 rfl) ?_
  refine emm rfl ?_
  refine enk K6 ?_
  refine ent_block ?_
  refine ent_loop (fun (i : Int) => (⟨[(0, aGF f), (13, aSl 1 false aInt l), (14, aInt (↑l.length : Int)), (15, aInt i)], []⟩ : St)) (fun (i : Int) => (0 ≤ i) ∧ (i ≤ l.length) ∧ (¬ outF f (l.take i.toNat))) (fun (i : Int) => (l.length - i).toNat) 0 ⟨(by first | rfl | assumption | omega | (simp_all; done) | grind), (by first | rfl | assumption | omega | (simp_all; done) | grind), (by simp [outF])⟩ (ent_rep ⟨rfl, rfl, rfl, slot_av (av_int (show 0 = (0 : Int) by first | rfl | assumption | omega | (simp_all; done) | grind)), trivial⟩ rfl) ?_
  rintro i ⟨h0, h1, hn⟩
  show Ent _ ⟨_, []⟩ _
  refine esr rfl fun _ K7 => ?_
  refine ent_o rfl (ok_lss rfl rfl) ?_
  refine enk K7 ?_
  refine ent_seq fun _ K8 => ?_
  refine ent_condD rfl (fun h16 => ?_) (fun h16 => ?_)
  ·refine esp K8 ?_
   refine ent_seq fun _ K9 => ?_
   refine ent_block ?_
   refine esr rfl fun _ K10 => ?_
   refine ent_o rfl (ok_index 0 sl29 rfl rfl (by omega) (by omega)) ?_
   refine ent_o rfl (ok_load ti3 rfl) ?_
   refine emm rfl ?_
   refine enk K10 ?_
   refine esr rfl fun _ K11 => ?_
   refine ent_o rfl (ok_call (Is_ok f (ix 0 l i)) rfl) ?_
   refine ent_o rfl (ok_notD rfl) ?_
   refine enk K11 ?_
   refine ent_condD rfl (fun h22 => ?_) (fun h22 => ?_)
   ·refine esk rfl ?_
    refine ent_ret ?_
    exact retR1 (.inr rfl) Try.results60 (resr_tmp (res_cv rfl (cv_int (by unfold lenErr entErr; rw [if_neg h12, if_pos (outF_at h0 h16 h22)]))))
   ·refine esp K9 ?_
    refine ent_region ?_
    refine ent_o rfl (ok_add rfl rfl (by omega) (by omega)) ?_
    refine emm rfl ?_
    refine ent_nil ?_
    refine ent_again (s := (i)) (i + 1) ⟨(by first | rfl | assumption | omega | (simp_all; done) | grind), (by first | rfl | assumption | omega | (simp_all; done) | grind), (outF_succ h0 h16 hn (Classical.not_not.1 h22))⟩ (by first | omega | (dsimp only; omega)) (ent_rep ⟨rfl, rfl, rfl, rfl, trivial⟩ rfl)
  ·refine ent_exit ?_
   refine ent_k K5 ?_
   refine esk rfl ?_
   refine ent_ret ?_
   exact retR1 (.inr rfl) Try.results60 (resr_tmp (res_cv rfl (cv_int (by unfold lenErr entErr; rw [if_neg h12, if_neg (by rw [List.take_of_length_le (by omega)] at hn; exact hn)]))))

theorem RgPowers_ok (f : Fld) (x n : Int) (hF : FOk f) (hn0 : 0 ≤ n) (hn1 : n ≤ 64) : CtrF Try.prog 62 [aGF f, aInt x, aInt n] (aVec 3 1 false aInt (powsF f x n)) := by
 refine ctrF_of Try.call62 Try.func62 rfl rfl ?_
 intro w O
 refine ent_lenP 0 4 rfl rfl (fun hlen0_4 => ?_)
 refine ent_lenP 0 5 rfl rfl (fun hlen0_5 => ?_)
 refine esk rfl ?_
 refine esr rfl fun _ K2 => ?_
 refine ent_make aInt 0 rfl vt29 rfl rfl (by omega) (by omega) (by omega) (fun _ _ => rfl) (AllV.mem ⟨rfl, trivial⟩) (fun b10_1 => ?_)
 refine emm rfl ?_
 refine enk K2 ?_
 refine ent_seq fun _ K3 => ?_
 refine esr rfl fun _ K4 => ?_
 refine ent_o rfl (ok_lenEx rfl Try.runUnderlying29 rfl) ?_
 refine emm rfl ?_
 refine enk K4 ?_
 refine ent_block ?_
 refine ent_loop (fun (i : Int) => (⟨[(0, aGF f), (1, aInt x), (7, aEx (vec (some b10_1) ((n).toNat) ((n).toNat))), (12, aInt (↑((n).toNat) : Int)), (13, aInt i)], [oVec (some b10_1) ((n).toNat) 3 1 false aInt (fillR (powF f x) 0 n i)]⟩ : St)) (fun (i : Int) => (0 ≤ i) ∧ (i ≤ n)) (fun (i : Int) => (n - i).toNat) 0 ⟨(by first | rfl | assumption | omega | (simp_all; done) | grind), (by first | rfl | assumption | omega | (simp_all; done) | grind)⟩ (ent_rep ⟨rfl, rfl, rfl, rfl, slot_av (av_int (show 0 = (0 : Int) by first | rfl | assumption | omega | (simp_all; done) | grind)), trivial⟩ (own_cons (own_vec (show fillR (powF f x) 0 n (0 : Int) = List.replicate ((n).toNat) 0 by exact fillR_zero _ _ _)) (rfl))) ?_
 rintro i ⟨h0, h1⟩
 show Ent _ ⟨_, [_]⟩ _
 have lf := length_fillR (powF f x) 0 h0 h1
 refine esr rfl fun _ K5 => ?_
 refine ent_o rfl (ok_lss rfl rfl) ?_
 refine enk K5 ?_
 refine ent_seq fun _ K6 => ?_
 refine ent_condD rfl (fun h14 => ?_) (fun h14 => ?_)
 ·refine esp K6 ?_
  refine ent_seq fun _ K7 => ?_
  refine ent_block ?_
  refine esk rfl ?_
  refine ent_region ?_
  refine emm rfl ?_
  refine ent_o rfl (ok_call (Pow_ok f x i (by first | rfl | assumption | omega | (simp_all; done) | grind) (by first | rfl | assumption | omega | (simp_all; done) | grind) (by first | rfl | assumption | omega | (simp_all; done) | grind)) rfl) ?_
  refine emm rfl ?_
  refine ent_o rfl (ok_extract rfl rfl) ?_
  refine ent_o rfl (ok_extract rfl rfl) ?_
  refine ent_o rfl (ok_indexV sl29 rfl rfl (by omega) (by omega)) ?_
  refine ent_storeV (k := 0) (z := powF f x i) ti3 rfl rfl rfl (elem_one (one_int _)) (by omega) (by omega) ?_
  refine enk K7 ?_
  refine ent_region ?_
  refine ent_o rfl (ok_add rfl rfl (by omega) (by omega)) ?_
  refine emm rfl ?_
  refine ent_nil ?_
  refine ent_again (s := (i)) (i + 1) ⟨(by first | rfl | assumption | omega | (simp_all; done) | grind), (by first | rfl | assumption | omega | (simp_all; done) | grind)⟩ (by first | omega | (dsimp only; omega)) (ent_rep ⟨rfl, rfl, rfl, rfl, rfl, trivial⟩ (own_cons (own_vec (show fillR (powF f x) 0 n (i + 1) = List.set (fillR (powF f x) 0 n i) (i).toNat (powF f x i) by exact (fillR_set (powF f x) 0 h0 (show i < n by omega)).symm)) (rfl)))
 ·refine ent_exit ?_
  refine ent_k K3 ?_
  refine esk rfl ?_
  refine ent_ret ?_
  exact retR1 (.inr rfl) Try.results62 (resr_tmp (res_cv rfl (cvF_vecV (k := 0) flat_int rfl rfl (by first | rfl | assumption | (simp; done) | (simp_all; done) | omega) (by rw [fillR_all (powF f x) 0 (show n ≤ i by omega), show i = n by omega]; rfl))))

theorem rList_ok (f : Fld) (l : List Int) (n : Int)  : Ctr Try.prog 31 [aFld f, aSl 1 false aInt l, aInt n] (aInt (lenErr f l n)) := by
 refine ctr_of Try.call31 Try.func31 rfl rfl ?_
 intro w O
 refine ent_lenC 0 2 rfl rfl (fun hlen0_2 => ?_)
 refine ent_len 1 rfl (fun hlen1 => ?_)
 refine esr rfl fun _ K1 => ?_
 refine ent_boxS rfl rfl (AllOne.mem ⟨(one_int _), (one_int _), one_sl, trivial⟩) (fun b3_1 => ?_)
 refine emm rfl ?_
 refine enk K1 ?_
 refine ent_seq fun _ K2 => ?_
 refine esr rfl fun _ K3 => ?_
 refine ent_o rfl (ok_len rfl Try.runUnderlying29 rfl) ?_
 refine emm rfl ?_
 refine ent_o rfl (ok_neq rfl rfl) ?_
 refine enk K3 ?_
 refine ent_condD rfl (fun h10 => ?_) (fun h10 => ?_)
 ·refine esk rfl ?_
  refine ent_ret ?_
  exact retR1 (.inr rfl) Try.results31 (resr_tmp (res_cv rfl (cv_int (by unfold lenErr; rw [if_pos h10]))))
 ·refine esp K2 ?_
  refine esr rfl fun _ K5 => ?_
  refine ent_o rfl (ok_loadBS (k := 0) ti51 rfl rfl rfl) ?_
  refine emm rfl ?_
  refine ent_o rfl (ok_call (rEntries_ok f l) rfl) ?_
  refine emm rfl ?_
  refine enk K5 ?_
  refine ent_ret ?_
  exact retR1 (.inr rfl) Try.results31 (resr_tmp (res_cv rfl (cv_int (by unfold lenErr; rw [if_neg h10]))))

theorem rVector_ok (r : Rgn) (x : Int) (hS : Shape r.F) (hx0 : 0 ≤ x) (hx1 : x < r.Points.length) (hd0 : 0 ≤ r.D) (hd1 : r.D ≤ 64) : CtrF Try.prog 64 [aRgn r, aInt x] (aVec 3 1 false aInt (powsF r.F (ix 0 r.Points x) r.D)) := by
 refine ctrF_of Try.call64 Try.func64 rfl rfl ?_
 intro w O
 refine ent_lenC 0 2 rfl rfl (fun hlen0_2 => ?_)
 refine ent_lenC 0 6 rfl rfl (fun hlen0_6 => ?_)
 refine esr rfl fun _ K1 => ?_
 refine ent_boxS rfl rfl (AllOne.mem ⟨(one_int _), (one_int _), one_sl, (one_int _), (one_int _), (one_int _), one_sl, trivial⟩) (fun b2_1 => ?_)
 refine emm rfl ?_
 refine enk K1 ?_
 refine esk rfl ?_
 refine ent_seq fun _ K3 => ?_
 refine esk rfl ?_
 refine ent_block ?_
 refine ent_open 3 1 false aInt (fun _ => rfl) ?_
 refine ent_loop (fun (ss : Int × Option Nat × Nat) => match ss with | (i, rr3, cc3) => (⟨[(1, aInt x), (2, aEx (.pointer (some ⟨b2_1, 0, none⟩))), (5, aEx (vec rr3 ((powsF r.F (ix 0 r.Points x) i).length) cc3)), (6, aInt i)], [oVec rr3 cc3 3 1 false aInt (powsF r.F (ix 0 r.Points x) i), oBox b2_1 53 [aInt r.F.P, aInt r.F.M, aSl 1 false aInt r.F.mod, aInt r.Kind, aInt r.K, aInt r.D, aSl 1 false aInt r.Points]]⟩ : St)) (fun (ss : Int × Option Nat × Nat) => match ss with | (i, rr3, cc3) => (0 ≤ i) ∧ (i ≤ r.D)) (fun (ss : Int × Option Nat × Nat) => match ss with | (i, rr3, cc3) => (r.D - i).toNat) (0, none, 0) ⟨(by first | rfl | assumption | omega | (simp_all; done) | grind), (by first | rfl | assumption | omega | (simp_all; done) | grind)⟩ (ent_rep ⟨rfl, rfl, slot_av ((show aEx (vec none ([] : List _).length 0) = aEx (vec none ((powsF r.F (ix 0 r.Points x) (0 : Int)).length) 0) from av_vec (congrArg List.length (show powsF r.F (ix 0 r.Points x) (0 : Int) = [] by first | rfl | exact mapR_zero _).symm))), slot_av (av_int (show 0 = (0 : Int) by first | rfl | assumption | omega | (simp_all; done) | grind)), trivial⟩ (own_cons (own_vec (show powsF r.F (ix 0 r.Points x) (0 : Int) = [] by first | rfl | exact mapR_zero _)) (rfl))) ?_
 rintro ⟨i, rr3, cc3⟩ ⟨h0, h1⟩
 show Ent _ ⟨_, [_, _]⟩ _
 have lf : (powsF r.F (ix 0 r.Points x) i).length = i.toNat := length_mapR _ _
 refine ent_seq fun _ K5 => ?_
 refine esr rfl fun _ K6 => ?_
 refine ent_o rfl (ok_fieldAddrEx Try.runUnderlying53 rfl Try.sizeOf3 (by decide) rfl) ?_
 refine ent_o rfl (ok_loadB (k := 1) Try.isAgg3 rfl rfl rfl) ?_
 refine ent_o rfl (ok_lss rfl rfl) ?_
 refine enk K6 ?_
 refine ent_condD rfl (fun h10 => ?_) (fun h10 => ?_)
 ·refine esp K5 ?_
  refine ent_seq fun _ K7 => ?_
  refine ent_block ?_
  refine ent_draw 11 mixed (by kernel_rfl) (by kernel_rfl) (by kernel_rfl) ?_
  refine dw_o rfl (ok_move rfl) ?_
  refine dw_o rfl (ok_fieldAddrEx Try.runUnderlying53 rfl Try.sizeOf51 (by decide) rfl) ?_
  refine dw_o rfl (ok_loadBS (k := 1) ti51 rfl rfl rfl) ?_
  refine dw_o rfl (ok_fieldAddrEx Try.runUnderlying53 rfl Try.sizeOf29 (by decide) rfl) ?_
  refine dw_o rfl (ok_loadB (k := 1) Try.isAgg29 rfl rfl rfl) ?_
  refine dw_o rfl (ok_move rfl) ?_
  refine dw_o rfl (ok_index 0 sl29 rfl rfl (by omega) (by omega)) ?_
  refine dw_o rfl (ok_load ti3 rfl) ?_
  refine dw_o rfl (ok_move rfl) ?_
  refine dw_o rfl (ok_call (rpower_ok r.F (ix 0 r.Points x) i (by first | rfl | assumption | omega | (simp_all; done) | grind) (by first | rfl | assumption | omega | (simp_all; done) | grind) (by first | rfl | assumption | omega | (simp_all; done) | grind)) rfl) ?_
  refine dw_o rfl (ok_build1 (enc := aInt) (y := powF r.F (ix 0 r.Points x) i) vt29 rfl (elem_one (one_int _)) (by decide)) ?_
  refine dw_nil ?_
  refine ent_appendS (k := 0) rfl vt29 rfl rfl (by first | rfl | assumption | (simp; done) | (simp_all; done) | omega) rfl (cv_id sub_refl) (by first | omega | (simp only [List.length_append, List.length_cons, List.length_nil]; omega) | (simp; omega)) (by first | omega | (simp only [List.length_append, List.length_cons, List.length_nil]; omega) | (simp; omega)) (fun r24_3 cr24_3 => ?_)
  refine emm rfl ?_
  refine enk K7 ?_
  refine ent_region ?_
  refine emm rfl ?_
  refine ent_o rfl (ok_add rfl rfl (by omega) (by omega)) ?_
  refine emm rfl ?_
  refine ent_nil ?_
  refine ent_again (s := (i, rr3, cc3)) (i + 1, r24_3, cr24_3) ⟨(by first | rfl | assumption | omega | (simp_all; done) | grind), (by first | rfl | assumption | omega | (simp_all; done) | grind)⟩ (by first | omega | (dsimp only; omega)) (ent_rep ⟨rfl, rfl, slot_av (av_vec (congrArg List.length (show powsF r.F (ix 0 r.Points x) (i + 1) = (powsF r.F (ix 0 r.Points x) i) ++ [powF r.F (ix 0 r.Points x) i] by exact mapR_succ _ h0).symm)), rfl, trivial⟩ (own_cons (own_vec (show powsF r.F (ix 0 r.Points x) (i + 1) = (powsF r.F (ix 0 r.Points x) i) ++ [powF r.F (ix 0 r.Points x) i] by exact mapR_succ _ h0)) (rfl)))
 ·refine ent_exit ?_
  refine ent_k K3 ?_
  refine esk rfl ?_
  refine ent_ret ?_
  exact retR1 (.inr rfl) Try.results64 (resr_tmp (res_cv rfl (cvF_vecV (k := 0) flat_int rfl rfl (by first | rfl | assumption | (simp; done) | (simp_all; done) | omega) (by rw [show i = r.D by omega]))))

end Go.Proofs.Ytaipghchkamajaa

