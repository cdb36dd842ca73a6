/-
  Help, and the law RegenerateHelps.
-/
import Derived.Test.YtaipghchkamajaaProg
import Derived.Test.YtaipghchkamajaaTab
import Derived.Test.YtaipghchkamajaaPlainG
import Derived.Test.YtaipghchkamajaaPlainH
import Derived.Test.YtaipghchkamajaaLists
import Derived.Test.YtaipghchkamajaaFieldA
import Derived.Test.YtaipghchkamajaaFieldB
import Derived.Test.YtaipghchkamajaaFieldC
import Derived.Test.YtaipghchkamajaaRegen
import Derived.Test.YtaipghchkamajaaFieldE
open Go Go.Cw
namespace Go.Proofs.Ytaipghchkamajaa
set_option maxRecDepth 100000
set_option linter.unusedVariables false
set_option linter.unusedSimpArgs false
theorem elements_ok (f : Fld) (l : List Int) (n : Int)  : Ctr Try.prog 60 [aGF f, aSl 1 false aInt l, aInt n] (aInt (lenErr f l n)) := by
  refine ctr_of Try.call60 Try.func60 rfl rfl ?_
  intro w O
  refine ent_lenP 0 4 rfl rfl (fun hlen0_4 => ?_)
  refine ent_lenP 0 5 rfl rfl (fun hlen0_5 => ?_)
  refine ent_len 1 rfl (fun hlen1 => ?_)
  refine ent_seq fun K1 hK1 => ?_
  refine ent_region ?_
  refine ent_o rfl (ok_assign rfl) ?_
  refine ent_nil ?_
  refine ent_k hK1 ?_
  refine ent_seq fun K2 hK2 => ?_
  refine ent_seq fun K3 hK3 => ?_
  refine ent_region ?_
  refine ent_o rfl (ok_move rfl) ?_
  refine ent_o rfl (ok_len rfl Try.runUnderlying29 rfl) ?_
  refine ent_o rfl (ok_move rfl) ?_
  refine ent_o rfl (ok_neq rfl rfl) ?_
  refine ent_nil ?_
  refine ent_k hK3 ?_
  refine ent_condD rfl (fun h12 => ?_) (fun h12 => ?_)
  · refine ent_seq fun K4 hK4 => ?_
    refine ent_region ?_
    refine ent_o rfl (ok_assign rfl) ?_
    refine ent_nil ?_
    refine ent_k hK4 ?_
    refine ent_ret ?_
    exact retR1 (.inr rfl) Try.results60 (resr_tmp (res_cv rfl (cv_int (by unfold lenErr; rw [if_pos h12]))))
  · refine ent_skip ?_
    refine ent_k hK2 ?_
    refine ent_seq fun K5 hK5 => ?_
    refine ent_seq fun K6 hK6 => ?_
    refine ent_region ?_
    refine ent_o rfl (ok_move rfl) ?_
    refine ent_o rfl (ok_len rfl Try.runUnderlying29 rfl) ?_
    refine ent_o rfl (ok_move rfl) ?_
    refine ent_nil ?_
    refine ent_k hK6 ?_
    refine ent_block ?_
    refine ent_loop (fun (i : Int) => (⟨[(0, aGF f), (13, aSl 1 false aInt l), (14, aInt (↑l.length : Int)), (15, aInt i)], []⟩ : St)) (fun (i : Int) => (0 ≤ i) ∧ (i ≤ l.length) ∧ (¬ outF f (l.take i.toNat))) (fun (i : Int) => (l.length - i).toNat) 0 ⟨(by first | rfl | assumption | omega | (simp_all; done) | grind), (by first | rfl | assumption | omega | (simp_all; done) | grind), (by simp [outF])⟩ (ent_rep ⟨rfl, rfl, rfl, slot_av (av_int (show 0 = (0 : Int) by first | rfl | assumption | omega | (simp_all; done) | grind)), trivial⟩ rfl) ?_
    rintro i ⟨h0, h1, hn⟩
    show Ent _ (⟨[(0, aGF f), (13, aSl 1 false aInt l), (14, aInt (↑l.length : Int)), (15, aInt i)], []⟩ : St) _
    refine ent_seq fun K7 hK7 => ?_
    refine ent_region ?_
    refine ent_o rfl (ok_lss rfl rfl) ?_
    refine ent_nil ?_
    refine ent_k hK7 ?_
    refine ent_seq fun K8 hK8 => ?_
    refine ent_condD rfl (fun h16 => ?_) (fun h16 => ?_)
    · refine ent_skip ?_
      refine ent_k hK8 ?_
      refine ent_seq fun K9 hK9 => ?_
      refine ent_block ?_
      refine ent_seq fun K10 hK10 => ?_
      refine ent_region ?_
      refine ent_o rfl (ok_index 0 sl29 rfl rfl (by omega) (by omega)) ?_
      refine ent_o rfl (ok_load ti3 rfl) ?_
      refine ent_o rfl (ok_assign rfl) ?_
      refine ent_nil ?_
      refine ent_k hK10 ?_
      refine ent_seq fun K11 hK11 => ?_
      refine ent_region ?_
      refine ent_o rfl (ok_move rfl) ?_
      refine ent_o rfl (ok_move rfl) ?_
      refine ent_o rfl (ok_call (Is_ok f (ix 0 l i)) rfl) ?_
      refine ent_o rfl (ok_notD rfl) ?_
      refine ent_nil ?_
      refine ent_k hK11 ?_
      refine ent_condD rfl (fun h22 => ?_) (fun h22 => ?_)
      · refine ent_seq fun K12 hK12 => ?_
        refine ent_region ?_
        refine ent_o rfl (ok_assign rfl) ?_
        refine ent_nil ?_
        refine ent_k hK12 ?_
        refine ent_ret ?_
        exact retR1 (.inr rfl) Try.results60 (resr_tmp (res_cv rfl (cv_int (by unfold lenErr entErr; rw [if_neg h12, if_pos (outF_at h0 h16 h22)]))))
      · refine ent_skip ?_
        refine ent_k hK9 ?_
        refine ent_region ?_
        refine ent_o rfl (ok_add rfl rfl (by omega) (by omega)) ?_
        refine ent_o rfl (ok_move rfl) ?_
        refine ent_nil ?_
        refine ent_again (s := (i)) (i + 1) ⟨(by first | rfl | assumption | omega | (simp_all; done) | grind), (by first | rfl | assumption | omega | (simp_all; done) | grind), (outF_succ h0 h16 hn (Classical.not_not.1 h22))⟩ (by first | omega | (dsimp only; omega)) (ent_rep ⟨rfl, rfl, rfl, rfl, trivial⟩ rfl)
    · refine ent_exit ?_
      refine ent_k hK5 ?_
      refine ent_seq fun K13 hK13 => ?_
      refine ent_region ?_
      refine ent_o rfl (ok_assign rfl) ?_
      refine ent_nil ?_
      refine ent_k hK13 ?_
      refine ent_ret ?_
      exact retR1 (.inr rfl) Try.results60 (resr_tmp (res_cv rfl (cv_int (by unfold lenErr entErr; rw [if_neg h12, if_neg (by rw [List.take_of_length_le (by omega)] at hn; exact hn)]))))

theorem RgPowers_ok (f : Fld) (x n : Int) (hF : FOk f) (hn0 : 0 ≤ n) (hn1 : n ≤ 64) : CtrF Try.prog 62 [aGF f, aInt x, aInt n] (aVec 3 1 false aInt (powsF f x n)) := by
  refine ctrF_of Try.call62 Try.func62 rfl rfl ?_
  intro w O
  refine ent_lenP 0 4 rfl rfl (fun hlen0_4 => ?_)
  refine ent_lenP 0 5 rfl rfl (fun hlen0_5 => ?_)
  refine ent_seq fun K1 hK1 => ?_
  refine ent_region ?_
  refine ent_o rfl (ok_assign rfl) ?_
  refine ent_nil ?_
  refine ent_k hK1 ?_
  refine ent_seq fun K2 hK2 => ?_
  refine ent_region ?_
  refine ent_o rfl (ok_move rfl) ?_
  refine ent_make aInt 0 rfl vt29 rfl rfl (by omega) (by omega) (by omega) (fun _ _ => rfl) (AllV.mem ⟨rfl, trivial⟩) (fun b10_1 => ?_)
  refine ent_o rfl (ok_assign rfl) ?_
  refine ent_nil ?_
  refine ent_k hK2 ?_
  refine ent_seq fun K3 hK3 => ?_
  refine ent_seq fun K4 hK4 => ?_
  refine ent_region ?_
  refine ent_o rfl (ok_move rfl) ?_
  refine ent_o rfl (ok_lenEx rfl Try.runUnderlying29 rfl) ?_
  refine ent_o rfl (ok_move rfl) ?_
  refine ent_nil ?_
  refine ent_k hK4 ?_
  refine ent_block ?_
  refine ent_loop (fun (i : Int) => (⟨[(0, aGF f), (1, aInt x), (7, aEx (vec (some b10_1) ((n).toNat) ((n).toNat))), (12, aInt (↑((n).toNat) : Int)), (13, aInt i)], [oVec (some b10_1) ((n).toNat) 3 1 false aInt (fillR (powF f x) 0 n i)]⟩ : St)) (fun (i : Int) => (0 ≤ i) ∧ (i ≤ n)) (fun (i : Int) => (n - i).toNat) 0 ⟨(by first | rfl | assumption | omega | (simp_all; done) | grind), (by first | rfl | assumption | omega | (simp_all; done) | grind)⟩ (ent_rep ⟨rfl, rfl, rfl, rfl, slot_av (av_int (show 0 = (0 : Int) by first | rfl | assumption | omega | (simp_all; done) | grind)), trivial⟩ (own_cons (own_vec (show fillR (powF f x) 0 n (0 : Int) = List.replicate ((n).toNat) 0 by exact fillR_zero _ _ _)) (rfl))) ?_
  rintro i ⟨h0, h1⟩
  show Ent _ (⟨[(0, aGF f), (1, aInt x), (7, aEx (vec (some b10_1) ((n).toNat) ((n).toNat))), (12, aInt (↑((n).toNat) : Int)), (13, aInt i)], [oVec (some b10_1) ((n).toNat) 3 1 false aInt (fillR (powF f x) 0 n i)]⟩ : St) _
  have lf := length_fillR (powF f x) 0 h0 h1
  refine ent_seq fun K5 hK5 => ?_
  refine ent_region ?_
  refine ent_o rfl (ok_lss rfl rfl) ?_
  refine ent_nil ?_
  refine ent_k hK5 ?_
  refine ent_seq fun K6 hK6 => ?_
  refine ent_condD rfl (fun h14 => ?_) (fun h14 => ?_)
  · refine ent_skip ?_
    refine ent_k hK6 ?_
    refine ent_seq fun K7 hK7 => ?_
    refine ent_block ?_
    refine ent_seq fun K8 hK8 => ?_
    refine ent_region ?_
    refine ent_o rfl (ok_move rfl) ?_
    refine ent_o rfl (ok_assign rfl) ?_
    refine ent_nil ?_
    refine ent_k hK8 ?_
    refine ent_region ?_
    refine ent_o rfl (ok_move rfl) ?_
    refine ent_o rfl (ok_move rfl) ?_
    refine ent_o rfl (ok_move rfl) ?_
    refine ent_o rfl (ok_move rfl) ?_
    refine ent_o rfl (ok_move rfl) ?_
    refine ent_o rfl (ok_call (Pow_ok f x i (by first | rfl | assumption | omega | (simp_all; done) | grind) (by first | rfl | assumption | omega | (simp_all; done) | grind) (by first | rfl | assumption | omega | (simp_all; done) | grind)) rfl) ?_
    refine ent_o rfl (ok_move rfl) ?_
    refine ent_o rfl (ok_extract rfl rfl) ?_
    refine ent_o rfl (ok_extract rfl rfl) ?_
    refine ent_o rfl (ok_indexV sl29 rfl rfl (by omega) (by omega)) ?_
    refine ent_storeV (k := 0) (z := powF f x i) ti3 rfl rfl rfl (elem_one (one_int _)) (by omega) (by omega) ?_
    refine ent_nil ?_
    refine ent_k hK7 ?_
    refine ent_region ?_
    refine ent_o rfl (ok_add rfl rfl (by omega) (by omega)) ?_
    refine ent_o rfl (ok_move rfl) ?_
    refine ent_nil ?_
    refine ent_again (s := (i)) (i + 1) ⟨(by first | rfl | assumption | omega | (simp_all; done) | grind), (by first | rfl | assumption | omega | (simp_all; done) | grind)⟩ (by first | omega | (dsimp only; omega)) (ent_rep ⟨rfl, rfl, rfl, rfl, rfl, trivial⟩ (own_cons (own_vec (show fillR (powF f x) 0 n (i + 1) = List.set (fillR (powF f x) 0 n i) (i).toNat (powF f x i) by exact (fillR_set (powF f x) 0 h0 (show i < n by omega)).symm)) (rfl)))
  · refine ent_exit ?_
    refine ent_k hK3 ?_
    refine ent_seq fun K9 hK9 => ?_
    refine ent_region ?_
    refine ent_o rfl (ok_move rfl) ?_
    refine ent_o rfl (ok_assign rfl) ?_
    refine ent_nil ?_
    refine ent_k hK9 ?_
    refine ent_ret ?_
    exact retR1 (.inr rfl) Try.results62 (resr_tmp (res_cv rfl (cvF_vecV (k := 0) flat_int rfl rfl (by first | rfl | (simp; done) | (simp_all; done) | omega) (by rw [fillR_all (powF f x) 0 (show n ≤ i by omega), show i = n by omega]; rfl))))

theorem rList_ok (f : Fld) (l : List Int) (n : Int)  : Ctr Try.prog 31 [aFld f, aSl 1 false aInt l, aInt n] (aInt (lenErr f l n)) := by
  refine ctr_of Try.call31 Try.func31 rfl rfl ?_
  intro w O
  refine ent_lenC 0 2 rfl rfl (fun hlen0_2 => ?_)
  refine ent_len 1 rfl (fun hlen1 => ?_)
  refine ent_seq fun K1 hK1 => ?_
  refine ent_region ?_
  refine ent_boxS rfl rfl (AllOne.mem ⟨(one_int _), (one_int _), one_sl, trivial⟩) (fun b3_1 => ?_)
  refine ent_o rfl (ok_assign rfl) ?_
  refine ent_nil ?_
  refine ent_k hK1 ?_
  refine ent_seq fun K2 hK2 => ?_
  refine ent_seq fun K3 hK3 => ?_
  refine ent_region ?_
  refine ent_o rfl (ok_move rfl) ?_
  refine ent_o rfl (ok_len rfl Try.runUnderlying29 rfl) ?_
  refine ent_o rfl (ok_move rfl) ?_
  refine ent_o rfl (ok_neq rfl rfl) ?_
  refine ent_nil ?_
  refine ent_k hK3 ?_
  refine ent_condD rfl (fun h10 => ?_) (fun h10 => ?_)
  · refine ent_seq fun K4 hK4 => ?_
    refine ent_region ?_
    refine ent_o rfl (ok_assign rfl) ?_
    refine ent_nil ?_
    refine ent_k hK4 ?_
    refine ent_ret ?_
    exact retR1 (.inr rfl) Try.results31 (resr_tmp (res_cv rfl (cv_int (by unfold lenErr; rw [if_pos h10]))))
  · refine ent_skip ?_
    refine ent_k hK2 ?_
    refine ent_seq fun K5 hK5 => ?_
    refine ent_region ?_
    refine ent_o rfl (ok_loadBS (k := 0) ti51 rfl rfl rfl) ?_
    refine ent_o rfl (ok_move rfl) ?_
    refine ent_o rfl (ok_call (rEntries_ok f l) rfl) ?_
    refine ent_o rfl (ok_assign rfl) ?_
    refine ent_nil ?_
    refine ent_k hK5 ?_
    refine ent_ret ?_
    exact retR1 (.inr rfl) Try.results31 (resr_tmp (res_cv rfl (cv_int (by unfold lenErr; rw [if_neg h10]))))

theorem rVector_ok (r : Rgn) (x : Int) (hS : Shape r.F) (hx0 : 0 ≤ x) (hx1 : x < r.Points.length) (hd0 : 0 ≤ r.D) (hd1 : r.D ≤ 64) : CtrF Try.prog 64 [aRgn r, aInt x] (aVec 3 1 false aInt (powsF r.F (ix 0 r.Points x) r.D)) := by
  refine ctrF_of Try.call64 Try.func64 rfl rfl ?_
  intro w O
  refine ent_lenC 0 2 rfl rfl (fun hlen0_2 => ?_)
  refine ent_lenC 0 6 rfl rfl (fun hlen0_6 => ?_)
  refine ent_seq fun K1 hK1 => ?_
  refine ent_region ?_
  refine ent_boxS rfl rfl (AllOne.mem ⟨(one_int _), (one_int _), one_sl, (one_int _), (one_int _), (one_int _), one_sl, trivial⟩) (fun b2_1 => ?_)
  refine ent_o rfl (ok_assign rfl) ?_
  refine ent_nil ?_
  refine ent_k hK1 ?_
  refine ent_seq fun K2 hK2 => ?_
  refine ent_region ?_
  refine ent_o rfl (ok_assign rfl) ?_
  refine ent_nil ?_
  refine ent_k hK2 ?_
  refine ent_seq fun K3 hK3 => ?_
  refine ent_seq fun K4 hK4 => ?_
  refine ent_region ?_
  refine ent_o rfl (ok_assign rfl) ?_
  refine ent_nil ?_
  refine ent_k hK4 ?_
  refine ent_block ?_
  refine ent_open 3 1 false aInt (fun _ => rfl) ?_
  refine ent_loop (fun (s : Int × Option Nat × Nat) => match s with | (i, rr3, cc3) => (⟨[(1, aInt x), (2, aEx (.pointer (some ⟨b2_1, 0, none⟩))), (5, aEx (vec rr3 ((powsF r.F (ix 0 r.Points x) i).length) cc3)), (6, aInt i)], [oVec rr3 cc3 3 1 false aInt (powsF r.F (ix 0 r.Points x) i), oBox b2_1 53 [aInt r.F.P, aInt r.F.M, aSl 1 false aInt r.F.mod, aInt r.Kind, aInt r.K, aInt r.D, aSl 1 false aInt r.Points]]⟩ : St)) (fun (s : Int × Option Nat × Nat) => match s with | (i, rr3, cc3) => (0 ≤ i) ∧ (i ≤ r.D)) (fun (s : Int × Option Nat × Nat) => match s with | (i, rr3, cc3) => (r.D - i).toNat) (0, none, 0) ⟨(by first | rfl | assumption | omega | (simp_all; done) | grind), (by first | rfl | assumption | omega | (simp_all; done) | grind)⟩ (ent_rep ⟨rfl, rfl, slot_av ((show aEx (vec none ([] : List _).length 0) = aEx (vec none ((powsF r.F (ix 0 r.Points x) (0 : Int)).length) 0) from av_vec (congrArg List.length (show powsF r.F (ix 0 r.Points x) (0 : Int) = [] by first | rfl | exact mapR_zero _).symm))), slot_av (av_int (show 0 = (0 : Int) by first | rfl | assumption | omega | (simp_all; done) | grind)), trivial⟩ (own_cons (own_vec (show powsF r.F (ix 0 r.Points x) (0 : Int) = [] by first | rfl | exact mapR_zero _)) (rfl))) ?_
  rintro ⟨i, rr3, cc3⟩ ⟨h0, h1⟩
  show Ent _ (⟨[(1, aInt x), (2, aEx (.pointer (some ⟨b2_1, 0, none⟩))), (5, aEx (vec rr3 ((powsF r.F (ix 0 r.Points x) i).length) cc3)), (6, aInt i)], [oVec rr3 cc3 3 1 false aInt (powsF r.F (ix 0 r.Points x) i), oBox b2_1 53 [aInt r.F.P, aInt r.F.M, aSl 1 false aInt r.F.mod, aInt r.Kind, aInt r.K, aInt r.D, aSl 1 false aInt r.Points]]⟩ : St) _
  have lf : (powsF r.F (ix 0 r.Points x) i).length = i.toNat := length_mapR _ _
  refine ent_seq fun K5 hK5 => ?_
  refine ent_seq fun K6 hK6 => ?_
  refine ent_region ?_
  refine ent_o rfl (ok_move rfl) ?_
  refine ent_o rfl (ok_fieldAddrEx Try.runUnderlying53 rfl Try.sizeOf3 (by decide) rfl) ?_
  refine ent_o rfl (ok_loadB (k := 1) Try.isAgg3 rfl rfl rfl) ?_
  refine ent_o rfl (ok_lss rfl rfl) ?_
  refine ent_nil ?_
  refine ent_k hK6 ?_
  refine ent_condD rfl (fun h10 => ?_) (fun h10 => ?_)
  · refine ent_skip ?_
    refine ent_k hK5 ?_
    refine ent_seq fun K7 hK7 => ?_
    refine ent_block ?_
    refine ent_draw 11 mixed (by kernel_rfl) (by kernel_rfl) (by kernel_rfl) ?_
    refine dw_o rfl (ok_move rfl) ?_
    refine dw_o rfl (ok_fieldAddrEx Try.runUnderlying53 rfl Try.sizeOf51 (by decide) rfl) ?_
    refine dw_o rfl (ok_loadBS (k := 1) ti51 rfl rfl rfl) ?_
    refine dw_o rfl (ok_fieldAddrEx Try.runUnderlying53 rfl Try.sizeOf29 (by decide) rfl) ?_
    refine dw_o rfl (ok_loadB (k := 1) Try.isAgg29 rfl rfl rfl) ?_
    refine dw_o rfl (ok_move rfl) ?_
    refine dw_o rfl (ok_index 0 sl29 rfl rfl (by omega) (by omega)) ?_
    refine dw_o rfl (ok_load ti3 rfl) ?_
    refine dw_o rfl (ok_move rfl) ?_
    refine dw_o rfl (ok_call (rpower_ok r.F (ix 0 r.Points x) i (by first | rfl | assumption | omega | (simp_all; done) | grind) (by first | rfl | assumption | omega | (simp_all; done) | grind) (by first | rfl | assumption | omega | (simp_all; done) | grind)) rfl) ?_
    refine dw_o rfl (ok_build1 (enc := aInt) (y := powF r.F (ix 0 r.Points x) i) vt29 rfl (elem_one (one_int _)) (by decide)) ?_
    refine dw_nil ?_
    refine ent_appendS (k := 0) rfl vt29 rfl rfl (by first | rfl | (simp; done) | (simp_all; done) | omega) rfl (cv_id sub_refl) (by first | omega | (simp only [List.length_append, List.length_cons, List.length_nil]; omega) | (simp; omega)) (by first | omega | (simp only [List.length_append, List.length_cons, List.length_nil]; omega) | (simp; omega)) (fun r24_3 cr24_3 => ?_)
    refine ent_o rfl (ok_assign rfl) ?_
    refine ent_nil ?_
    refine ent_k hK7 ?_
    refine ent_region ?_
    refine ent_o rfl (ok_move rfl) ?_
    refine ent_o rfl (ok_add rfl rfl (by omega) (by omega)) ?_
    refine ent_o rfl (ok_assign rfl) ?_
    refine ent_nil ?_
    refine ent_again (s := (i, rr3, cc3)) (i + 1, r24_3, cr24_3) ⟨(by first | rfl | assumption | omega | (simp_all; done) | grind), (by first | rfl | assumption | omega | (simp_all; done) | grind)⟩ (by first | omega | (dsimp only; omega)) (ent_rep ⟨rfl, rfl, slot_av (av_vec (congrArg List.length (show powsF r.F (ix 0 r.Points x) (i + 1) = (powsF r.F (ix 0 r.Points x) i) ++ [powF r.F (ix 0 r.Points x) i] by exact mapR_succ _ h0).symm)), rfl, trivial⟩ (own_cons (own_vec (show powsF r.F (ix 0 r.Points x) (i + 1) = (powsF r.F (ix 0 r.Points x) i) ++ [powF r.F (ix 0 r.Points x) i] by exact mapR_succ _ h0)) (rfl)))
  · refine ent_exit ?_
    refine ent_k hK3 ?_
    refine ent_seq fun K8 hK8 => ?_
    refine ent_region ?_
    refine ent_o rfl (ok_move rfl) ?_
    refine ent_o rfl (ok_assign rfl) ?_
    refine ent_nil ?_
    refine ent_k hK8 ?_
    refine ent_ret ?_
    exact retR1 (.inr rfl) Try.results64 (resr_tmp (res_cv rfl (cvF_vecV (k := 0) flat_int rfl rfl (by first | rfl | (simp; done) | (simp_all; done) | omega) (by rw [show i = r.D by omega]))))

theorem rHelp_ok (r : Rgn) (x : Int) (l : List Int) (hS : Shape r.F) (hx0 : 0 ≤ x) (hx1 : x < r.Points.length) (hd0 : 0 ≤ r.D) (hd1 : r.D ≤ 64) : Ctr Try.prog 32 [aRgn r, aInt x, aSl 1 false aInt l] (aInt (dotF r.F l (powsF r.F (ix 0 r.Points x) r.D))) := by
  refine ctr_of Try.call32 Try.func32 rfl rfl ?_
  intro w O
  refine ent_lenC 0 2 rfl rfl (fun hlen0_2 => ?_)
  refine ent_lenC 0 6 rfl rfl (fun hlen0_6 => ?_)
  refine ent_len 2 rfl (fun hlen2 => ?_)
  refine ent_seq fun K1 hK1 => ?_
  refine ent_region ?_
  refine ent_boxS rfl rfl (AllOne.mem ⟨(one_int _), (one_int _), one_sl, (one_int _), (one_int _), (one_int _), one_sl, trivial⟩) (fun b3_1 => ?_)
  refine ent_o rfl (ok_assign rfl) ?_
  refine ent_nil ?_
  refine ent_k hK1 ?_
  refine ent_seq fun K2 hK2 => ?_
  refine ent_draw 8 mixed (by kernel_rfl) (by kernel_rfl) (by kernel_rfl) ?_
  refine dw_o rfl (ok_fieldAddrEx Try.runUnderlying53 rfl Try.sizeOf51 (by decide) rfl) ?_
  refine dw_o rfl (ok_loadBS (k := 0) ti51 rfl rfl rfl) ?_
  refine dw_o rfl (ok_move rfl) ?_
  refine dw_o rfl (ok_loadBS (k := 0) ti53 rfl rfl rfl) ?_
  refine dw_o rfl (ok_move rfl) ?_
  refine dw_o rfl (ok_call (CtrF.ctr (CtrF.sl (rVector_ok r x (by first | rfl | assumption | omega | (simp_all; done) | grind) (by first | rfl | assumption | omega | (simp_all; done) | grind) (by first | rfl | assumption | omega | (simp_all; done) | grind) (by first | rfl | assumption | omega | (simp_all; done) | grind) (by first | rfl | assumption | omega | (simp_all; done) | grind)))) rfl) ?_
  refine dw_o rfl (ok_call (rDot_ok r.F l (powsF r.F (ix 0 r.Points x) r.D) (by first | rfl | assumption | omega | (simp_all; done) | grind)) rfl) ?_
  refine dw_o rfl (ok_assign rfl) ?_
  refine dw_nil ?_
  refine ent_nil ?_
  refine ent_k hK2 ?_
  refine ent_ret ?_
  exact retR1 (.inr rfl) Try.results32 (resr_tmp (res_cv rfl (cv_int (by rfl))))

theorem Help_ok (r : Rgn) (x : Int) (l : List Int) (hk1 : -9223372036854775808 ≤ r.K) (hk2 : r.K ≤ 9223372036854775807) (hd1 : -9223372036854775808 ≤ r.D) (hd2 : r.D ≤ 9223372036854775807) : Ctr Try.prog 30 [aRgn r, aInt x, aSl 1 false aInt l] (aTup [aInt (helpF r x l), aInt (helpErr r x l)]) := by
  refine ctr_of Try.call30 Try.func30 rfl rfl ?_
  intro w O
  refine ent_lenC 0 2 rfl rfl (fun hlen0_2 => ?_)
  refine ent_lenC 0 6 rfl rfl (fun hlen0_6 => ?_)
  refine ent_len 2 rfl (fun hlen2 => ?_)
  refine ent_seq fun K1 hK1 => ?_
  refine ent_region ?_
  refine ent_boxS rfl rfl (AllOne.mem ⟨(one_int _), (one_int _), one_sl, (one_int _), (one_int _), (one_int _), one_sl, trivial⟩) (fun b3_1 => ?_)
  refine ent_o rfl (ok_assign rfl) ?_
  refine ent_o rfl (ok_assign rfl) ?_
  refine ent_nil ?_
  refine ent_k hK1 ?_
  refine ent_seq fun K2 hK2 => ?_
  refine ent_seq fun K3 hK3 => ?_
  refine ent_region ?_
  refine ent_o rfl (ok_loadBS (k := 0) ti53 rfl rfl rfl) ?_
  refine ent_o rfl (ok_call (RgCheck_ok r (by first | rfl | assumption | omega | (simp_all; done) | grind) (by first | rfl | assumption | omega | (simp_all; done) | grind) (by first | rfl | assumption | omega | (simp_all; done) | grind) (by first | rfl | assumption | omega | (simp_all; done) | grind)) rfl) ?_
  refine ent_o rfl (ok_assign rfl) ?_
  refine ent_nil ?_
  refine ent_k hK3 ?_
  refine ent_seq fun K4 hK4 => ?_
  refine ent_region ?_
  refine ent_o rfl (ok_move rfl) ?_
  refine ent_o rfl (ok_neq rfl rfl) ?_
  refine ent_nil ?_
  refine ent_k hK4 ?_
  refine ent_condD rfl (fun h17 => ?_) (fun h17 => ?_)
  · have he : helpErr r x l = rgErr r := if_pos h17
    have hz : helpF r x l = 0 := if_neg (by rw [he]; exact h17)
    refine ent_seq fun K5 hK5 => ?_
    refine ent_region ?_
    refine ent_o rfl (ok_move rfl) ?_
    refine ent_o rfl (ok_assign rfl) ?_
    refine ent_o rfl (ok_assign rfl) ?_
    refine ent_nil ?_
    refine ent_k hK5 ?_
    refine ent_ret ?_
    exact retR2 (.inr rfl) Try.results30 (resr_tmp (res_cv rfl (cv_int (by exact hz.symm)))) (resr_tmp (res_cv rfl (cv_int (by exact he.symm))))
  · have h0 := Classical.not_not.1 h17
    have hR := rgErr_zero.1 h0
    have hF := hR.fld
    have hal := rgA_le hR
    refine ent_skip ?_
    refine ent_k hK2 ?_
    refine ent_seq fun K6 hK6 => ?_
    refine ent_seq fun K7 hK7 => ?_
    refine ent_cut (⟨[(1, aInt x), (2, aSl 1 false aInt l), (3, aEx (.pointer (some ⟨b3_1, 0, none⟩))), (27, aBool (decide ((x < 0) ∨ ((↑r.Points.length : Int) ≤ x))))], [oBox b3_1 53 [aInt r.F.P, aInt r.F.M, aSl 1 false aInt r.F.mod, aInt r.Kind, aInt r.K, aInt r.D, aSl 1 false aInt r.Points]]⟩) ?_ ?_
    · refine ent_region ?_
      refine ent_o rfl (ok_move rfl) ?_
      refine ent_o rfl (ok_lss rfl rfl) ?_
      refine ent_o rfl (ok_move rfl) ?_
      refine ent_guardXDf rfl rfl rfl rfl (fun hg21 => ?_) (fun hg21 => ?_)
      · refine ent_o rfl (ok_move rfl) ?_
        refine ent_guardXT rfl rfl rfl rfl (decide_eq_false hg21) ?_
        refine ent_o rfl (ok_fieldAddrEx Try.runUnderlying53 rfl Try.sizeOf29 (by decide) rfl) ?_
        refine ent_guardXT rfl rfl rfl rfl (decide_eq_false hg21) ?_
        refine ent_o rfl (ok_loadB (k := 0) Try.isAgg29 rfl rfl rfl) ?_
        refine ent_guardXT rfl rfl rfl rfl (decide_eq_false hg21) ?_
        refine ent_o rfl (ok_len rfl Try.runUnderlying29 rfl) ?_
        refine ent_guardXT rfl rfl rfl rfl (decide_eq_false hg21) ?_
        refine ent_o rfl (ok_geq rfl rfl) ?_
        refine ent_o rfl (ok_pickF rfl (decide_eq_false hg21) rfl) ?_
        refine ent_nil ?_
        exact ent_rep ⟨rfl, rfl, rfl, slot_bool (dq_Q ((or_iff_right hg21).trans Iff.rfl)), trivial⟩ rfl
      · refine ent_guardXF rfl rfl rfl rfl (decide_eq_true hg21) ?_
        refine ent_guardXF rfl rfl rfl rfl (decide_eq_true hg21) ?_
        refine ent_guardXF rfl rfl rfl rfl (decide_eq_true hg21) ?_
        refine ent_guardXF rfl rfl rfl rfl (decide_eq_true hg21) ?_
        refine ent_o rfl (ok_pickT rfl (decide_eq_true hg21) rfl) ?_
        refine ent_nil ?_
        exact ent_rep ⟨rfl, rfl, rfl, slot_bool (dq_T rfl (Or.inl hg21)), trivial⟩ rfl
    refine ent_k hK7 ?_
    refine ent_condD rfl (fun h27 => ?_) (fun h27 => ?_)
    · have he : helpErr r x l = 6 := by unfold helpErr; rw [if_neg h17, if_pos (by omega)]
      have hz : helpF r x l = 0 := if_neg (by rw [he]; omega)
      refine ent_seq fun K8 hK8 => ?_
      refine ent_region ?_
      refine ent_o rfl (ok_assign rfl) ?_
      refine ent_o rfl (ok_assign rfl) ?_
      refine ent_nil ?_
      refine ent_k hK8 ?_
      refine ent_ret ?_
      exact retR2 (.inr rfl) Try.results30 (resr_tmp (res_cv rfl (cv_int (by exact hz.symm)))) (resr_tmp (res_cv rfl (cv_int (by exact he.symm))))
    · have he : helpErr r x l = lenErr r.F l (rgA r) := by unfold helpErr; rw [if_neg h17, if_neg (by omega)]
      refine ent_skip ?_
      refine ent_k hK6 ?_
      refine ent_seq fun K9 hK9 => ?_
      refine ent_region ?_
      refine ent_o rfl (ok_fieldAddrEx Try.runUnderlying53 rfl Try.sizeOf51 (by decide) rfl) ?_
      refine ent_o rfl (ok_loadBS (k := 0) ti51 rfl rfl rfl) ?_
      refine ent_o rfl (ok_call (CtrF.ctr (New_ok r.F hF)) rfl) ?_
      refine ent_o rfl (ok_move rfl) ?_
      refine ent_o rfl (ok_extract rfl rfl) ?_
      refine ent_o rfl (ok_extract rfl rfl) ?_
      refine ent_o rfl (ok_assign rfl) ?_
      refine ent_o rfl (ok_assign rfl) ?_
      refine ent_nil ?_
      refine ent_k hK9 ?_
      refine ent_seq fun K10 hK10 => ?_
      refine ent_region ?_
      refine ent_o rfl (ok_loadBS (k := 0) ti53 rfl rfl rfl) ?_
      refine ent_o rfl (ok_call (sizes_ok r (by first | rfl | assumption | omega | (simp_all; done) | grind)) rfl) ?_
      refine ent_o rfl (ok_move rfl) ?_
      refine ent_o rfl (ok_extract rfl rfl) ?_
      refine ent_o rfl (ok_extract rfl rfl) ?_
      refine ent_o rfl (ok_assign rfl) ?_
      refine ent_o rfl (ok_assign rfl) ?_
      refine ent_nil ?_
      refine ent_k hK10 ?_
      refine ent_seq fun K11 hK11 => ?_
      refine ent_seq fun K12 hK12 => ?_
      refine ent_region ?_
      refine ent_o rfl (ok_move rfl) ?_
      refine ent_o rfl (ok_move rfl) ?_
      refine ent_o rfl (ok_move rfl) ?_
      refine ent_o rfl (ok_call (elements_ok r.F l (rgA r)) rfl) ?_
      refine ent_o rfl (ok_assign rfl) ?_
      refine ent_nil ?_
      refine ent_k hK12 ?_
      refine ent_seq fun K13 hK13 => ?_
      refine ent_region ?_
      refine ent_o rfl (ok_move rfl) ?_
      refine ent_o rfl (ok_neq rfl rfl) ?_
      refine ent_nil ?_
      refine ent_k hK13 ?_
      refine ent_condD rfl (fun h44 => ?_) (fun h44 => ?_)
      · have hz : helpF r x l = 0 := if_neg (by rw [he]; exact h44)
        refine ent_seq fun K14 hK14 => ?_
        refine ent_region ?_
        refine ent_o rfl (ok_move rfl) ?_
        refine ent_o rfl (ok_assign rfl) ?_
        refine ent_o rfl (ok_assign rfl) ?_
        refine ent_nil ?_
        refine ent_k hK14 ?_
        refine ent_ret ?_
        exact retR2 (.inr rfl) Try.results30 (resr_tmp (res_cv rfl (cv_int (by exact hz.symm)))) (resr_tmp (res_cv rfl (cv_int (by exact he.symm))))
      · have hl0 := Classical.not_not.1 h44
        have hll := lenErr_len hl0
        have hz : helpF r x l = dotF r.F l (powsF r.F (ix 0 r.Points x) r.D) := if_pos (by rw [he]; exact hl0)
        have hdp := dotF_pows r.F (ix 0 r.Points x) l hll hal.2.2.1
        refine ent_skip ?_
        refine ent_k hK11 ?_
        refine ent_seq fun K15 hK15 => ?_
        refine ent_region ?_
        refine ent_o rfl (ok_move rfl) ?_
        refine ent_o rfl (ok_move rfl) ?_
        refine ent_o rfl (ok_move rfl) ?_
        refine ent_o rfl (ok_fieldAddrEx Try.runUnderlying53 rfl Try.sizeOf29 (by decide) rfl) ?_
        refine ent_o rfl (ok_loadB (k := 0) Try.isAgg29 rfl rfl rfl) ?_
        refine ent_o rfl (ok_move rfl) ?_
        refine ent_o rfl (ok_index 0 sl29 rfl rfl (by omega) (by omega)) ?_
        refine ent_o rfl (ok_load ti3 rfl) ?_
        refine ent_o rfl (ok_move rfl) ?_
        refine ent_o rfl (ok_call (CtrF.ctr (CtrF.sl (RgPowers_ok r.F (ix 0 r.Points x) (rgA r) (by first | rfl | assumption | omega | (simp_all; done) | grind) (by first | rfl | assumption | omega | (simp_all; done) | grind) (by first | rfl | assumption | omega | (simp_all; done) | grind)))) rfl) ?_
        refine ent_o rfl (ok_call (Dot_ok r.F l (powsF r.F (ix 0 r.Points x) (rgA r)) (by first | rfl | assumption | omega | (simp_all; done) | grind)) rfl) ?_
        refine ent_o rfl (ok_assign rfl) ?_
        refine ent_o rfl (ok_assign rfl) ?_
        refine ent_nil ?_
        refine ent_k hK15 ?_
        refine ent_ret ?_
        exact retR2 (.inr rfl) Try.results30 (resr_tmp (res_cv rfl (cv_int (by rw [hz, hdp])))) (resr_tmp (res_cv rfl (cv_int (by rw [he]; exact hl0.symm))))

theorem RegenerateHelps_ok (r : Rgn) (x : Int) (l : List Int) (hk1 : -9223372036854775808 ≤ r.K) (hk2 : r.K ≤ 9223372036854775807) (hd1 : -9223372036854775808 ≤ r.D) (hd2 : r.D ≤ 9223372036854775807) : Ctr Try.prog 9 [aRgn r, aInt x, aSl 1 false aInt l] (aBool true) := by
  refine ctr_of Try.call9 Try.func9 rfl rfl ?_
  intro w O
  refine ent_lenC 0 2 rfl rfl (fun hlen0_2 => ?_)
  refine ent_lenC 0 6 rfl rfl (fun hlen0_6 => ?_)
  refine ent_len 2 rfl (fun hlen2 => ?_)
  refine ent_seq fun K1 hK1 => ?_
  refine ent_region ?_
  refine ent_boxS rfl rfl (AllOne.mem ⟨(one_int _), (one_int _), one_sl, (one_int _), (one_int _), (one_int _), one_sl, trivial⟩) (fun b3_1 => ?_)
  refine ent_o rfl (ok_assign rfl) ?_
  refine ent_nil ?_
  refine ent_k hK1 ?_
  refine ent_seq fun K2 hK2 => ?_
  refine ent_seq fun K3 hK3 => ?_
  refine ent_region ?_
  refine ent_o rfl (ok_fieldAddrEx Try.runUnderlying53 rfl Try.sizeOf29 (by decide) rfl) ?_
  refine ent_o rfl (ok_loadB (k := 0) Try.isAgg29 rfl rfl rfl) ?_
  refine ent_o rfl (ok_len rfl Try.runUnderlying29 rfl) ?_
  refine ent_o rfl (ok_gtr rfl rfl) ?_
  refine ent_nil ?_
  refine ent_k hK3 ?_
  refine ent_condD rfl (fun h15 => ?_) (fun h15 => ?_)
  · refine ent_seq fun K4 hK4 => ?_
    refine ent_region ?_
    refine ent_o rfl (ok_assign rfl) ?_
    refine ent_nil ?_
    refine ent_k hK4 ?_
    refine ent_ret ?_
    exact retR1 (.inr rfl) Try.results9 (resr_tmp (res_cv rfl (cv_bool (by first | rfl | exact absurd h39 h51 | (refine decide_eq_true ?_; first | exact ⟨he, hz⟩ | exact ⟨he, if_neg (by rw [he]; exact h51)⟩ | exact ⟨if_pos h39, if_neg (by rw [if_pos h39]; exact h39)⟩ | (rw [he]; exact ⟨by omega, if_pos (by rw [he]; omega)⟩) | (have he2 : helpErr r x l = rgErr r := if_pos h39; exact ⟨he2, if_neg (by rw [he2]; exact h39)⟩))))))
  · refine ent_skip ?_
    refine ent_k hK2 ?_
    refine ent_seq fun K5 hK5 => ?_
    refine ent_region ?_
    refine ent_o rfl (ok_loadBS (k := 0) ti53 rfl rfl rfl) ?_
    refine ent_o rfl (ok_move rfl) ?_
    refine ent_o rfl (ok_move rfl) ?_
    refine ent_o rfl (ok_call (Help_ok r x l (by first | rfl | assumption | omega | (simp_all; done) | grind) (by first | rfl | assumption | omega | (simp_all; done) | grind) (by first | rfl | assumption | omega | (simp_all; done) | grind) (by first | rfl | assumption | omega | (simp_all; done) | grind)) rfl) ?_
    refine ent_o rfl (ok_move rfl) ?_
    refine ent_o rfl (ok_extract rfl rfl) ?_
    refine ent_o rfl (ok_extract rfl rfl) ?_
    refine ent_o rfl (ok_assign rfl) ?_
    refine ent_o rfl (ok_assign rfl) ?_
    refine ent_nil ?_
    refine ent_k hK5 ?_
    refine ent_seq fun K6 hK6 => ?_
    refine ent_region ?_
    refine ent_o rfl (ok_loadBS (k := 0) ti53 rfl rfl rfl) ?_
    refine ent_o rfl (ok_call (rRgCheck_ok r (by first | rfl | assumption | omega | (simp_all; done) | grind) (by first | rfl | assumption | omega | (simp_all; done) | grind) (by first | rfl | assumption | omega | (simp_all; done) | grind) (by first | rfl | assumption | omega | (simp_all; done) | grind)) rfl) ?_
    refine ent_o rfl (ok_assign rfl) ?_
    refine ent_nil ?_
    refine ent_k hK6 ?_
    refine ent_seq fun K7 hK7 => ?_
    refine ent_seq fun K8 hK8 => ?_
    refine ent_cut (⟨[(1, aInt x), (2, aSl 1 false aInt l), (3, aEx (.pointer (some ⟨b3_1, 0, none⟩))), (7, aInt (helpF r x l)), (8, aInt (helpErr r x l)), (9, aInt (rgErr r)), (37, aBool (decide (((rgErr r) = 0) ∧ ((x < 0) ∨ ((↑r.Points.length : Int) ≤ x)))))], [oBox b3_1 53 [aInt r.F.P, aInt r.F.M, aSl 1 false aInt r.F.mod, aInt r.Kind, aInt r.K, aInt r.D, aSl 1 false aInt r.Points]]⟩) ?_ ?_
    · refine ent_region ?_
      refine ent_o rfl (ok_move rfl) ?_
      refine ent_o rfl (ok_eql rfl rfl) ?_
      refine ent_o rfl (ok_move rfl) ?_
      refine ent_guardXDt rfl rfl rfl rfl (fun hg27 => ?_) (fun hg27 => ?_)
      · refine ent_o rfl (ok_move rfl) ?_
        refine ent_guardXT rfl rfl rfl rfl (decide_eq_true hg27) ?_
        refine ent_o rfl (ok_lss rfl rfl) ?_
        refine ent_guardXT rfl rfl rfl rfl (decide_eq_true hg27) ?_
        refine ent_o rfl (ok_move rfl) ?_
        refine ent_guardXDf rfl rfl rfl rfl (fun hg30 => ?_) (fun hg30 => ?_)
        · refine ent_o rfl (ok_move rfl) ?_
          refine ent_guardXT rfl rfl rfl rfl (decide_eq_false hg30) ?_
          refine ent_o rfl (ok_fieldAddrEx Try.runUnderlying53 rfl Try.sizeOf29 (by decide) rfl) ?_
          refine ent_guardXT rfl rfl rfl rfl (decide_eq_false hg30) ?_
          refine ent_o rfl (ok_loadB (k := 0) Try.isAgg29 rfl rfl rfl) ?_
          refine ent_guardXT rfl rfl rfl rfl (decide_eq_false hg30) ?_
          refine ent_o rfl (ok_len rfl Try.runUnderlying29 rfl) ?_
          refine ent_guardXT rfl rfl rfl rfl (decide_eq_false hg30) ?_
          refine ent_o rfl (ok_geq rfl rfl) ?_
          refine ent_guardXT rfl rfl rfl rfl (decide_eq_true hg27) ?_
          refine ent_o rfl (ok_pickF rfl (decide_eq_false hg30) rfl) ?_
          refine ent_o rfl (ok_pickT rfl (decide_eq_true hg27) rfl) ?_
          refine ent_nil ?_
          exact ent_rep ⟨rfl, rfl, rfl, rfl, rfl, rfl, slot_bool (dq_Q ((and_iff_right hg27).trans ((or_iff_right hg30).trans Iff.rfl))), trivial⟩ rfl
        · refine ent_guardXF rfl rfl rfl rfl (decide_eq_true hg30) ?_
          refine ent_guardXF rfl rfl rfl rfl (decide_eq_true hg30) ?_
          refine ent_guardXF rfl rfl rfl rfl (decide_eq_true hg30) ?_
          refine ent_guardXF rfl rfl rfl rfl (decide_eq_true hg30) ?_
          refine ent_guardXT rfl rfl rfl rfl (decide_eq_true hg27) ?_
          refine ent_o rfl (ok_pickT rfl (decide_eq_true hg30) rfl) ?_
          refine ent_o rfl (ok_pickT rfl (decide_eq_true hg27) rfl) ?_
          refine ent_nil ?_
          exact ent_rep ⟨rfl, rfl, rfl, rfl, rfl, rfl, slot_bool (dq_T rfl ⟨hg27, (Or.inl hg30)⟩), trivial⟩ rfl
      · refine ent_guardXF rfl rfl rfl rfl (decide_eq_false hg27) ?_
        refine ent_guardXF rfl rfl rfl rfl (decide_eq_false hg27) ?_
        refine ent_guardU rfl rfl rfl rfl ?_
        refine ent_guardU rfl rfl rfl rfl ?_
        refine ent_guardU rfl rfl rfl rfl ?_
        refine ent_guardU rfl rfl rfl rfl ?_
        refine ent_guardU rfl rfl rfl rfl ?_
        refine ent_guardXF rfl rfl rfl rfl (decide_eq_false hg27) ?_
        refine ent_o rfl (ok_pickF rfl (decide_eq_false hg27) rfl) ?_
        refine ent_nil ?_
        exact ent_rep ⟨rfl, rfl, rfl, rfl, rfl, rfl, slot_bool (dq_F rfl (fun h => hg27 h.1)), trivial⟩ rfl
    refine ent_k hK8 ?_
    refine ent_condD rfl (fun h37 => ?_) (fun h37 => ?_)
    · have h0 : rgErr r = 0 := by omega
      have he : helpErr r x l = 6 := by unfold helpErr; rw [if_neg (by omega), if_pos (by omega)]
      have hz : helpF r x l = 0 := if_neg (by rw [he]; omega)
      refine ent_region ?_
      refine ent_o rfl (ok_assign rfl) ?_
      refine ent_nil ?_
      refine ent_k hK7 ?_
      refine ent_seq fun K9 hK9 => ?_
      refine ent_seq fun K10 hK10 => ?_
      refine ent_region ?_
      refine ent_o rfl (ok_move rfl) ?_
      refine ent_o rfl (ok_eql rfl rfl) ?_
      refine ent_nil ?_
      refine ent_k hK10 ?_
      refine ent_condFP rfl (by decide) ?_
      refine ent_skip ?_
      refine ent_k hK9 ?_
      refine ent_seq fun K11 hK11 => ?_
      refine ent_seq fun K12 hK12 => ?_
      refine ent_region ?_
      refine ent_o rfl (ok_move rfl) ?_
      refine ent_o rfl (ok_neq rfl rfl) ?_
      refine ent_nil ?_
      refine ent_k hK12 ?_
      refine ent_condTP rfl (by decide) ?_
      refine ent_seq fun K13 hK13 => ?_
      refine ent_cut (⟨[(6, aBool (decide (((helpErr r x l) = 6) ∧ ((helpF r x l) = 0))))], [oBox b3_1 53 [aInt r.F.P, aInt r.F.M, aSl 1 false aInt r.F.mod, aInt r.Kind, aInt r.K, aInt r.D, aSl 1 false aInt r.Points]]⟩) ?_ ?_
      · refine ent_region ?_
        refine ent_o rfl (ok_move rfl) ?_
        refine ent_o rfl (ok_move rfl) ?_
        refine ent_o rfl (ok_eql rfl rfl) ?_
        refine ent_o rfl (ok_move rfl) ?_
        refine ent_guardXDt rfl rfl rfl rfl (fun hg55 => ?_) (fun hg55 => ?_)
        · refine ent_o rfl (ok_move rfl) ?_
          refine ent_guardXT rfl rfl rfl rfl (decide_eq_true hg55) ?_
          refine ent_o rfl (ok_eql rfl rfl) ?_
          refine ent_o rfl (ok_pickT rfl (decide_eq_true hg55) rfl) ?_
          refine ent_o rfl (ok_assign rfl) ?_
          refine ent_nil ?_
          exact ent_rep ⟨slot_bool (dq_Q ((and_iff_right hg55).trans Iff.rfl)), trivial⟩ rfl
        · refine ent_guardXF rfl rfl rfl rfl (decide_eq_false hg55) ?_
          refine ent_o rfl (ok_pickF rfl (decide_eq_false hg55) rfl) ?_
          refine ent_o rfl (ok_assign rfl) ?_
          refine ent_nil ?_
          exact ent_rep ⟨slot_bool (dq_F rfl (fun h => hg55 h.1)), trivial⟩ rfl
      refine ent_k hK13 ?_
      refine ent_ret ?_
      exact retR1 (.inr rfl) Try.results9 (resr_tmp (res_cv rfl (cv_bool (by first | rfl | exact absurd h39 h51 | (refine decide_eq_true ?_; first | exact ⟨he, hz⟩ | exact ⟨he, if_neg (by rw [he]; exact h51)⟩ | exact ⟨if_pos h39, if_neg (by rw [if_pos h39]; exact h39)⟩ | (rw [he]; exact ⟨by omega, if_pos (by rw [he]; omega)⟩) | (have he2 : helpErr r x l = rgErr r := if_pos h39; exact ⟨he2, if_neg (by rw [he2]; exact h39)⟩))))))
    · refine ent_skip ?_
      refine ent_k hK7 ?_
      refine ent_seq fun K14 hK14 => ?_
      refine ent_seq fun K15 hK15 => ?_
      refine ent_region ?_
      refine ent_o rfl (ok_move rfl) ?_
      refine ent_o rfl (ok_eql rfl rfl) ?_
      refine ent_nil ?_
      refine ent_k hK15 ?_
      refine ent_condD rfl (fun h39 => ?_) (fun h39 => ?_)
      · have h0 : rgErr r = 0 := by omega
        have hR := rgErr_zero.1 h0
        have hF := hR.fld
        have hS := hF.1
        have hal := rgA_le hR
        have he : helpErr r x l = lenErr r.F l (rgA r) := by unfold helpErr; rw [if_neg (by omega), if_neg (by omega)]
        refine ent_seq fun K16 hK16 => ?_
        refine ent_region ?_
        refine ent_o rfl (ok_loadBS (k := 0) ti53 rfl rfl rfl) ?_
        refine ent_o rfl (ok_call (rSize_ok r (by first | rfl | assumption | omega | (simp_all; done) | grind)) rfl) ?_
        refine ent_o rfl (ok_move rfl) ?_
        refine ent_o rfl (ok_extract rfl rfl) ?_
        refine ent_o rfl (ok_extract rfl rfl) ?_
        refine ent_o rfl (ok_assign rfl) ?_
        refine ent_o rfl (ok_assign rfl) ?_
        refine ent_nil ?_
        refine ent_k hK16 ?_
        refine ent_region ?_
        refine ent_o rfl (ok_fieldAddrEx Try.runUnderlying53 rfl Try.sizeOf51 (by decide) rfl) ?_
        refine ent_o rfl (ok_loadBS (k := 0) ti51 rfl rfl rfl) ?_
        refine ent_o rfl (ok_move rfl) ?_
        refine ent_o rfl (ok_move rfl) ?_
        refine ent_o rfl (ok_call (rList_ok r.F l (rgA r)) rfl) ?_
        refine ent_o rfl (ok_assign rfl) ?_
        refine ent_nil ?_
        refine ent_k hK14 ?_
        refine ent_seq fun K17 hK17 => ?_
        refine ent_seq fun K18 hK18 => ?_
        refine ent_region ?_
        refine ent_o rfl (ok_move rfl) ?_
        refine ent_o rfl (ok_neq rfl rfl) ?_
        refine ent_nil ?_
        refine ent_k hK18 ?_
        refine ent_condD rfl (fun h51 => ?_) (fun h51 => ?_)
        · refine ent_seq fun K19 hK19 => ?_
          refine ent_cut (⟨[(6, aBool (decide (((helpErr r x l) = (lenErr r.F l (rgA r))) ∧ ((helpF r x l) = 0))))], [oBox b3_1 53 [aInt r.F.P, aInt r.F.M, aSl 1 false aInt r.F.mod, aInt r.Kind, aInt r.K, aInt r.D, aSl 1 false aInt r.Points]]⟩) ?_ ?_
          · refine ent_region ?_
            refine ent_o rfl (ok_move rfl) ?_
            refine ent_o rfl (ok_move rfl) ?_
            refine ent_o rfl (ok_eql rfl rfl) ?_
            refine ent_o rfl (ok_move rfl) ?_
            refine ent_guardXDt rfl rfl rfl rfl (fun hg55 => ?_) (fun hg55 => ?_)
            · refine ent_o rfl (ok_move rfl) ?_
              refine ent_guardXT rfl rfl rfl rfl (decide_eq_true hg55) ?_
              refine ent_o rfl (ok_eql rfl rfl) ?_
              refine ent_o rfl (ok_pickT rfl (decide_eq_true hg55) rfl) ?_
              refine ent_o rfl (ok_assign rfl) ?_
              refine ent_nil ?_
              exact ent_rep ⟨slot_bool (dq_Q ((and_iff_right hg55).trans Iff.rfl)), trivial⟩ rfl
            · refine ent_guardXF rfl rfl rfl rfl (decide_eq_false hg55) ?_
              refine ent_o rfl (ok_pickF rfl (decide_eq_false hg55) rfl) ?_
              refine ent_o rfl (ok_assign rfl) ?_
              refine ent_nil ?_
              exact ent_rep ⟨slot_bool (dq_F rfl (fun h => hg55 h.1)), trivial⟩ rfl
          refine ent_k hK19 ?_
          refine ent_ret ?_
          exact retR1 (.inr rfl) Try.results9 (resr_tmp (res_cv rfl (cv_bool (by first | rfl | exact absurd h39 h51 | (refine decide_eq_true ?_; first | exact ⟨he, hz⟩ | exact ⟨he, if_neg (by rw [he]; exact h51)⟩ | exact ⟨if_pos h39, if_neg (by rw [if_pos h39]; exact h39)⟩ | (rw [he]; exact ⟨by omega, if_pos (by rw [he]; omega)⟩) | (have he2 : helpErr r x l = rgErr r := if_pos h39; exact ⟨he2, if_neg (by rw [he2]; exact h39)⟩))))))
        · refine ent_skip ?_
          refine ent_k hK17 ?_
          refine ent_seq fun K20 hK20 => ?_
          refine ent_cut (⟨[(6, aBool (decide (((helpErr r x l) = 0) ∧ ((helpF r x l) = (dotF r.F l (powsF r.F (ix 0 r.Points x) r.D))))))], [oBox b3_1 53 [aInt r.F.P, aInt r.F.M, aSl 1 false aInt r.F.mod, aInt r.Kind, aInt r.K, aInt r.D, aSl 1 false aInt r.Points]]⟩) ?_ ?_
          · refine ent_region ?_
            refine ent_o rfl (ok_move rfl) ?_
            refine ent_o rfl (ok_eql rfl rfl) ?_
            refine ent_o rfl (ok_move rfl) ?_
            refine ent_guardXDt rfl rfl rfl rfl (fun hg61 => ?_) (fun hg61 => ?_)
            · refine ent_o rfl (ok_move rfl) ?_
              refine ent_guardXT rfl rfl rfl rfl (decide_eq_true hg61) ?_
              refine ent_o rfl (ok_loadBS (k := 0) ti53 rfl rfl rfl) ?_
              refine ent_guardXT rfl rfl rfl rfl (decide_eq_true hg61) ?_
              refine ent_o rfl (ok_move rfl) ?_
              refine ent_guardXT rfl rfl rfl rfl (decide_eq_true hg61) ?_
              refine ent_o rfl (ok_move rfl) ?_
              refine ent_guardXT rfl rfl rfl rfl (decide_eq_true hg61) ?_
              refine ent_o rfl (ok_call (rHelp_ok r x l (by first | rfl | assumption | omega | (simp_all; done) | grind) (by first | rfl | assumption | omega | (simp_all; done) | grind) (by first | rfl | assumption | omega | (simp_all; done) | grind) (by first | rfl | assumption | omega | (simp_all; done) | grind) (by first | rfl | assumption | omega | (simp_all; done) | grind)) rfl) ?_
              refine ent_guardXT rfl rfl rfl rfl (decide_eq_true hg61) ?_
              refine ent_o rfl (ok_eql rfl rfl) ?_
              refine ent_o rfl (ok_pickT rfl (decide_eq_true hg61) rfl) ?_
              refine ent_o rfl (ok_assign rfl) ?_
              refine ent_nil ?_
              exact ent_rep ⟨slot_bool (dq_Q ((and_iff_right hg61).trans Iff.rfl)), trivial⟩ rfl
            · refine ent_guardXF rfl rfl rfl rfl (decide_eq_false hg61) ?_
              refine ent_guardXF rfl rfl rfl rfl (decide_eq_false hg61) ?_
              refine ent_guardXF rfl rfl rfl rfl (decide_eq_false hg61) ?_
              refine ent_guardXF rfl rfl rfl rfl (decide_eq_false hg61) ?_
              refine ent_guardXF rfl rfl rfl rfl (decide_eq_false hg61) ?_
              refine ent_o rfl (ok_pickF rfl (decide_eq_false hg61) rfl) ?_
              refine ent_o rfl (ok_assign rfl) ?_
              refine ent_nil ?_
              exact ent_rep ⟨slot_bool (dq_F rfl (fun h => hg61 h.1)), trivial⟩ rfl
          refine ent_k hK20 ?_
          refine ent_ret ?_
          exact retR1 (.inr rfl) Try.results9 (resr_tmp (res_cv rfl (cv_bool (by first | rfl | exact absurd h39 h51 | (refine decide_eq_true ?_; first | exact ⟨he, hz⟩ | exact ⟨he, if_neg (by rw [he]; exact h51)⟩ | exact ⟨if_pos h39, if_neg (by rw [if_pos h39]; exact h39)⟩ | (rw [he]; exact ⟨by omega, if_pos (by rw [he]; omega)⟩) | (have he2 : helpErr r x l = rgErr r := if_pos h39; exact ⟨he2, if_neg (by rw [he2]; exact h39)⟩))))))
      · refine ent_skip ?_
        refine ent_k hK14 ?_
        refine ent_seq fun K21 hK21 => ?_
        refine ent_seq fun K22 hK22 => ?_
        refine ent_region ?_
        refine ent_o rfl (ok_move rfl) ?_
        refine ent_o rfl (ok_neq rfl rfl) ?_
        refine ent_nil ?_
        refine ent_k hK22 ?_
        refine ent_condD rfl (fun h51 => ?_) (fun h51 => ?_)
        · refine ent_seq fun K23 hK23 => ?_
          refine ent_cut (⟨[(6, aBool (decide (((helpErr r x l) = (rgErr r)) ∧ ((helpF r x l) = 0))))], [oBox b3_1 53 [aInt r.F.P, aInt r.F.M, aSl 1 false aInt r.F.mod, aInt r.Kind, aInt r.K, aInt r.D, aSl 1 false aInt r.Points]]⟩) ?_ ?_
          · refine ent_region ?_
            refine ent_o rfl (ok_move rfl) ?_
            refine ent_o rfl (ok_move rfl) ?_
            refine ent_o rfl (ok_eql rfl rfl) ?_
            refine ent_o rfl (ok_move rfl) ?_
            refine ent_guardXDt rfl rfl rfl rfl (fun hg55 => ?_) (fun hg55 => ?_)
            · refine ent_o rfl (ok_move rfl) ?_
              refine ent_guardXT rfl rfl rfl rfl (decide_eq_true hg55) ?_
              refine ent_o rfl (ok_eql rfl rfl) ?_
              refine ent_o rfl (ok_pickT rfl (decide_eq_true hg55) rfl) ?_
              refine ent_o rfl (ok_assign rfl) ?_
              refine ent_nil ?_
              exact ent_rep ⟨slot_bool (dq_Q ((and_iff_right hg55).trans Iff.rfl)), trivial⟩ rfl
            · refine ent_guardXF rfl rfl rfl rfl (decide_eq_false hg55) ?_
              refine ent_o rfl (ok_pickF rfl (decide_eq_false hg55) rfl) ?_
              refine ent_o rfl (ok_assign rfl) ?_
              refine ent_nil ?_
              exact ent_rep ⟨slot_bool (dq_F rfl (fun h => hg55 h.1)), trivial⟩ rfl
          refine ent_k hK23 ?_
          refine ent_ret ?_
          exact retR1 (.inr rfl) Try.results9 (resr_tmp (res_cv rfl (cv_bool (by first | rfl | exact absurd h39 h51 | (refine decide_eq_true ?_; first | exact ⟨he, hz⟩ | exact ⟨he, if_neg (by rw [he]; exact h51)⟩ | exact ⟨if_pos h39, if_neg (by rw [if_pos h39]; exact h39)⟩ | (rw [he]; exact ⟨by omega, if_pos (by rw [he]; omega)⟩) | (have he2 : helpErr r x l = rgErr r := if_pos h39; exact ⟨he2, if_neg (by rw [he2]; exact h39)⟩))))))
        · refine ent_skip ?_
          refine ent_k hK21 ?_
          refine ent_seq fun K24 hK24 => ?_
          refine ent_cut (⟨[(6, aBool (decide (((helpErr r x l) = 0) ∧ ((helpF r x l) = (dotF r.F l (powsF r.F (ix 0 r.Points x) r.D))))))], [oBox b3_1 53 [aInt r.F.P, aInt r.F.M, aSl 1 false aInt r.F.mod, aInt r.Kind, aInt r.K, aInt r.D, aSl 1 false aInt r.Points]]⟩) ?_ ?_
          · refine ent_region ?_
            refine ent_o rfl (ok_move rfl) ?_
            refine ent_o rfl (ok_eql rfl rfl) ?_
            refine ent_o rfl (ok_move rfl) ?_
            refine ent_guardXDt rfl rfl rfl rfl (fun hg61 => ?_) (fun hg61 => ?_)
            · refine ent_o rfl (ok_move rfl) ?_
              refine ent_guardXT rfl rfl rfl rfl (decide_eq_true hg61) ?_
              refine ent_o rfl (ok_loadBS (k := 0) ti53 rfl rfl rfl) ?_
              refine ent_guardXT rfl rfl rfl rfl (decide_eq_true hg61) ?_
              refine ent_o rfl (ok_move rfl) ?_
              refine ent_guardXT rfl rfl rfl rfl (decide_eq_true hg61) ?_
              refine ent_o rfl (ok_move rfl) ?_
              refine ent_guardXT rfl rfl rfl rfl (decide_eq_true hg61) ?_
              refine ent_o rfl (ok_call (rHelp_ok r x l (by first | rfl | assumption | omega | (simp_all; done) | grind) (by first | rfl | assumption | omega | (simp_all; done) | grind) (by first | rfl | assumption | omega | (simp_all; done) | grind) (by first | rfl | assumption | omega | (simp_all; done) | grind) (by first | rfl | assumption | omega | (simp_all; done) | grind)) rfl) ?_
              refine ent_guardXT rfl rfl rfl rfl (decide_eq_true hg61) ?_
              refine ent_o rfl (ok_eql rfl rfl) ?_
              refine ent_o rfl (ok_pickT rfl (decide_eq_true hg61) rfl) ?_
              refine ent_o rfl (ok_assign rfl) ?_
              refine ent_nil ?_
              exact ent_rep ⟨slot_bool (dq_Q ((and_iff_right hg61).trans Iff.rfl)), trivial⟩ rfl
            · refine ent_guardXF rfl rfl rfl rfl (decide_eq_false hg61) ?_
              refine ent_guardXF rfl rfl rfl rfl (decide_eq_false hg61) ?_
              refine ent_guardXF rfl rfl rfl rfl (decide_eq_false hg61) ?_
              refine ent_guardXF rfl rfl rfl rfl (decide_eq_false hg61) ?_
              refine ent_guardXF rfl rfl rfl rfl (decide_eq_false hg61) ?_
              refine ent_o rfl (ok_pickF rfl (decide_eq_false hg61) rfl) ?_
              refine ent_o rfl (ok_assign rfl) ?_
              refine ent_nil ?_
              exact ent_rep ⟨slot_bool (dq_F rfl (fun h => hg61 h.1)), trivial⟩ rfl
          refine ent_k hK24 ?_
          refine ent_ret ?_
          exact retR1 (.inr rfl) Try.results9 (resr_tmp (res_cv rfl (cv_bool (by first | rfl | exact absurd h39 h51 | (refine decide_eq_true ?_; first | exact ⟨he, hz⟩ | exact ⟨he, if_neg (by rw [he]; exact h51)⟩ | exact ⟨if_pos h39, if_neg (by rw [if_pos h39]; exact h39)⟩ | (rw [he]; exact ⟨by omega, if_pos (by rw [he]; omega)⟩) | (have he2 : helpErr r x l = rgErr r := if_pos h39; exact ⟨he2, if_neg (by rw [he2]; exact h39)⟩))))))
end Go.Proofs.Ytaipghchkamajaa
