/-
  Cut, and the law RegenerateOptimal.
-/
import Derived.Test.YtaipghchkamajaaProg
import Derived.Test.YtaipghchkamajaaTab
import Derived.Test.YtaipghchkamajaaPlainG
import Derived.Test.YtaipghchkamajaaPlainC
import Derived.Test.YtaipghchkamajaaLists
import Derived.Test.YtaipghchkamajaaFieldA
import Derived.Test.YtaipghchkamajaaFieldB
import Derived.Test.YtaipghchkamajaaFieldC
import Derived.Test.YtaipghchkamajaaRegen
open Go Go.Cw
namespace Go.Proofs.Ytaipghchkamajaa
set_option maxRecDepth 100000
set_option linter.unusedVariables false
set_option linter.unusedSimpArgs false
theorem Cut_ok (k d a b : Int)  : Ctr Try.prog 16 [aInt k, aInt d, aInt a, aInt b] (aTup [aInt (if cutBad k d a b then 0 else cutSum d a b k.toNat), aInt (if cutBad k d a b then 6 else 0)]) := by
  refine ctr_of Try.call16 Try.func16 rfl rfl ?_
  intro w O
  refine ent_seq fun K1 hK1 => ?_
  refine ent_region ?_
  refine ent_o rfl (ok_assign rfl) ?_
  refine ent_o rfl (ok_assign rfl) ?_
  refine ent_nil ?_
  refine ent_k hK1 ?_
  refine ent_seq fun K2 hK2 => ?_
  refine ent_seq fun K3 hK3 => ?_
  refine ent_cut (⟨[(0, aInt k), (1, aInt d), (2, aInt a), (3, aInt b), (38, aBool (decide (((((((k < 1) ∨ (d < k)) ∨ (64 < d)) ∨ (a < 0)) ∨ (1048576 < a)) ∨ (b < 0)) ∨ (1048576 < b))))], []⟩) ?_ ?_
  · refine ent_region ?_
    refine ent_o rfl (ok_move rfl) ?_
    refine ent_o rfl (ok_lss rfl rfl) ?_
    refine ent_o rfl (ok_move rfl) ?_
    refine ent_guardDf rfl rfl rfl rfl (fun hg14 => ?_) (fun hg14 => ?_)
    · refine ent_o rfl (ok_move rfl) ?_
      refine ent_guardT rfl rfl rfl rfl (decide_eq_false hg14) ?_
      refine ent_o rfl (ok_move rfl) ?_
      refine ent_guardT rfl rfl rfl rfl (decide_eq_false hg14) ?_
      refine ent_o rfl (ok_gtr rfl rfl) ?_
      refine ent_o rfl (ok_pickF rfl (decide_eq_false hg14) rfl) ?_
      refine ent_o rfl (ok_move rfl) ?_
      refine ent_guardDf rfl rfl rfl rfl (fun hg19 => ?_) (fun hg19 => ?_)
      · refine ent_o rfl (ok_move rfl) ?_
        refine ent_guardT rfl rfl rfl rfl (decide_eq_false hg19) ?_
        refine ent_o rfl (ok_gtr rfl rfl) ?_
        refine ent_o rfl (ok_pickF rfl (decide_eq_false hg19) rfl) ?_
        refine ent_o rfl (ok_move rfl) ?_
        refine ent_guardDf rfl rfl rfl rfl (fun hg23 => ?_) (fun hg23 => ?_)
        · refine ent_o rfl (ok_move rfl) ?_
          refine ent_guardT rfl rfl rfl rfl (decide_eq_false hg23) ?_
          refine ent_o rfl (ok_lss rfl rfl) ?_
          refine ent_o rfl (ok_pickF rfl (decide_eq_false hg23) rfl) ?_
          refine ent_o rfl (ok_move rfl) ?_
          refine ent_guardDf rfl rfl rfl rfl (fun hg27 => ?_) (fun hg27 => ?_)
          · refine ent_o rfl (ok_move rfl) ?_
            refine ent_guardT rfl rfl rfl rfl (decide_eq_false hg27) ?_
            refine ent_o rfl (ok_gtr rfl rfl) ?_
            refine ent_o rfl (ok_pickF rfl (decide_eq_false hg27) rfl) ?_
            refine ent_o rfl (ok_move rfl) ?_
            refine ent_guardDf rfl rfl rfl rfl (fun hg31 => ?_) (fun hg31 => ?_)
            · refine ent_o rfl (ok_move rfl) ?_
              refine ent_guardT rfl rfl rfl rfl (decide_eq_false hg31) ?_
              refine ent_o rfl (ok_lss rfl rfl) ?_
              refine ent_o rfl (ok_pickF rfl (decide_eq_false hg31) rfl) ?_
              refine ent_o rfl (ok_move rfl) ?_
              refine ent_guardDf rfl rfl rfl rfl (fun hg35 => ?_) (fun hg35 => ?_)
              · refine ent_o rfl (ok_move rfl) ?_
                refine ent_guardT rfl rfl rfl rfl (decide_eq_false hg35) ?_
                refine ent_o rfl (ok_gtr rfl rfl) ?_
                refine ent_o rfl (ok_pickF rfl (decide_eq_false hg35) rfl) ?_
                refine ent_nil ?_
                exact ent_rep ⟨rfl, rfl, rfl, rfl, slot_bool (dq_Q ((or_iff_right (fun h => h.elim (fun h => h.elim (fun h => h.elim (fun h => h.elim (fun h => h.elim hg14 hg19) hg23) hg27) hg31) hg35)).trans Iff.rfl)), trivial⟩ rfl
              · refine ent_guardF rfl rfl rfl rfl (decide_eq_true hg35) ?_
                refine ent_o rfl (ok_pickT rfl (decide_eq_true hg35) rfl) ?_
                refine ent_nil ?_
                exact ent_rep ⟨rfl, rfl, rfl, rfl, slot_bool (dq_T rfl (Or.inl (Or.inr hg35))), trivial⟩ rfl
            · refine ent_guardF rfl rfl rfl rfl (decide_eq_true hg31) ?_
              refine ent_o rfl (ok_pickT rfl (decide_eq_true hg31) rfl) ?_
              refine ent_o rfl (ok_move rfl) ?_
              refine ent_guardF rfl rfl rfl rfl rfl ?_
              refine ent_guardF rfl rfl rfl rfl rfl ?_
              refine ent_o rfl (ok_pickT rfl rfl rfl) ?_
              refine ent_nil ?_
              exact ent_rep ⟨rfl, rfl, rfl, rfl, slot_bool (dq_T rfl (Or.inl (Or.inl (Or.inr hg31)))), trivial⟩ rfl
          · refine ent_guardF rfl rfl rfl rfl (decide_eq_true hg27) ?_
            refine ent_o rfl (ok_pickT rfl (decide_eq_true hg27) rfl) ?_
            refine ent_o rfl (ok_move rfl) ?_
            refine ent_guardF rfl rfl rfl rfl rfl ?_
            refine ent_guardF rfl rfl rfl rfl rfl ?_
            refine ent_o rfl (ok_pickT rfl rfl rfl) ?_
            refine ent_o rfl (ok_move rfl) ?_
            refine ent_guardF rfl rfl rfl rfl rfl ?_
            refine ent_guardF rfl rfl rfl rfl rfl ?_
            refine ent_o rfl (ok_pickT rfl rfl rfl) ?_
            refine ent_nil ?_
            exact ent_rep ⟨rfl, rfl, rfl, rfl, slot_bool (dq_T rfl (Or.inl (Or.inl (Or.inl (Or.inr hg27))))), trivial⟩ rfl
        · refine ent_guardF rfl rfl rfl rfl (decide_eq_true hg23) ?_
          refine ent_o rfl (ok_pickT rfl (decide_eq_true hg23) rfl) ?_
          refine ent_o rfl (ok_move rfl) ?_
          refine ent_guardF rfl rfl rfl rfl rfl ?_
          refine ent_guardF rfl rfl rfl rfl rfl ?_
          refine ent_o rfl (ok_pickT rfl rfl rfl) ?_
          refine ent_o rfl (ok_move rfl) ?_
          refine ent_guardF rfl rfl rfl rfl rfl ?_
          refine ent_guardF rfl rfl rfl rfl rfl ?_
          refine ent_o rfl (ok_pickT rfl rfl rfl) ?_
          refine ent_o rfl (ok_move rfl) ?_
          refine ent_guardF rfl rfl rfl rfl rfl ?_
          refine ent_guardF rfl rfl rfl rfl rfl ?_
          refine ent_o rfl (ok_pickT rfl rfl rfl) ?_
          refine ent_nil ?_
          exact ent_rep ⟨rfl, rfl, rfl, rfl, slot_bool (dq_T rfl (Or.inl (Or.inl (Or.inl (Or.inl (Or.inr hg23)))))), trivial⟩ rfl
      · refine ent_guardF rfl rfl rfl rfl (decide_eq_true hg19) ?_
        refine ent_o rfl (ok_pickT rfl (decide_eq_true hg19) rfl) ?_
        refine ent_o rfl (ok_move rfl) ?_
        refine ent_guardF rfl rfl rfl rfl rfl ?_
        refine ent_guardF rfl rfl rfl rfl rfl ?_
        refine ent_o rfl (ok_pickT rfl rfl rfl) ?_
        refine ent_o rfl (ok_move rfl) ?_
        refine ent_guardF rfl rfl rfl rfl rfl ?_
        refine ent_guardF rfl rfl rfl rfl rfl ?_
        refine ent_o rfl (ok_pickT rfl rfl rfl) ?_
        refine ent_o rfl (ok_move rfl) ?_
        refine ent_guardF rfl rfl rfl rfl rfl ?_
        refine ent_guardF rfl rfl rfl rfl rfl ?_
        refine ent_o rfl (ok_pickT rfl rfl rfl) ?_
        refine ent_o rfl (ok_move rfl) ?_
        refine ent_guardF rfl rfl rfl rfl rfl ?_
        refine ent_guardF rfl rfl rfl rfl rfl ?_
        refine ent_o rfl (ok_pickT rfl rfl rfl) ?_
        refine ent_nil ?_
        exact ent_rep ⟨rfl, rfl, rfl, rfl, slot_bool (dq_T rfl (Or.inl (Or.inl (Or.inl (Or.inl (Or.inl (Or.inr hg19))))))), trivial⟩ rfl
    · refine ent_guardF rfl rfl rfl rfl (decide_eq_true hg14) ?_
      refine ent_guardF rfl rfl rfl rfl (decide_eq_true hg14) ?_
      refine ent_o rfl (ok_pickT rfl (decide_eq_true hg14) rfl) ?_
      refine ent_o rfl (ok_move rfl) ?_
      refine ent_guardF rfl rfl rfl rfl rfl ?_
      refine ent_guardF rfl rfl rfl rfl rfl ?_
      refine ent_o rfl (ok_pickT rfl rfl rfl) ?_
      refine ent_o rfl (ok_move rfl) ?_
      refine ent_guardF rfl rfl rfl rfl rfl ?_
      refine ent_guardF rfl rfl rfl rfl rfl ?_
      refine ent_o rfl (ok_pickT rfl rfl rfl) ?_
      refine ent_o rfl (ok_move rfl) ?_
      refine ent_guardF rfl rfl rfl rfl rfl ?_
      refine ent_guardF rfl rfl rfl rfl rfl ?_
      refine ent_o rfl (ok_pickT rfl rfl rfl) ?_
      refine ent_o rfl (ok_move rfl) ?_
      refine ent_guardF rfl rfl rfl rfl rfl ?_
      refine ent_guardF rfl rfl rfl rfl rfl ?_
      refine ent_o rfl (ok_pickT rfl rfl rfl) ?_
      refine ent_o rfl (ok_move rfl) ?_
      refine ent_guardF rfl rfl rfl rfl rfl ?_
      refine ent_guardF rfl rfl rfl rfl rfl ?_
      refine ent_o rfl (ok_pickT rfl rfl rfl) ?_
      refine ent_nil ?_
      exact ent_rep ⟨rfl, rfl, rfl, rfl, slot_bool (dq_T rfl (Or.inl (Or.inl (Or.inl (Or.inl (Or.inl (Or.inl hg14))))))), trivial⟩ rfl
  refine ent_k hK3 ?_
  refine ent_condD rfl (fun h38 => ?_) (fun h38 => ?_)
  · have hcb : cutBad k d a b := by unfold cutBad; omega
    refine ent_seq fun K4 hK4 => ?_
    refine ent_region ?_
    refine ent_o rfl (ok_assign rfl) ?_
    refine ent_o rfl (ok_assign rfl) ?_
    refine ent_nil ?_
    refine ent_k hK4 ?_
    refine ent_ret ?_
    exact retR2 (.inr rfl) Try.results16 (resr_tmp (res_cv rfl (cv_int (by rw [if_pos hcb])))) (resr_tmp (res_cv rfl (cv_int (by rw [if_pos hcb]))))
  · have hcb : ¬ cutBad k d a b := by unfold cutBad; omega
    have hcb2 := hcb
    unfold cutBad at hcb2
    refine ent_skip ?_
    refine ent_k hK2 ?_
    refine ent_seq fun K5 hK5 => ?_
    refine ent_region ?_
    refine ent_o rfl (ok_assign rfl) ?_
    refine ent_nil ?_
    refine ent_k hK5 ?_
    refine ent_seq fun K6 hK6 => ?_
    refine ent_seq fun K7 hK7 => ?_
    refine ent_region ?_
    refine ent_o rfl (ok_move rfl) ?_
    refine ent_o rfl (ok_move rfl) ?_
    refine ent_nil ?_
    refine ent_k hK7 ?_
    refine ent_block ?_
    refine ent_loop (fun (i : Int) => (⟨[(1, aInt d), (2, aInt a), (3, aInt b), (10, aInt (cutSum d a b i.toNat)), (39, aInt k), (40, aInt i)], []⟩ : St)) (fun (i : Int) => (0 ≤ i) ∧ (i ≤ k)) (fun (i : Int) => (k - i).toNat) 0 ⟨(by first | rfl | assumption | omega | (simp_all; done) | grind), (by first | rfl | assumption | omega | (simp_all; done) | grind)⟩ (ent_rep ⟨rfl, rfl, rfl, slot_av (av_int (show 0 = cutSum d a b (0 : Int).toNat by first | rfl | assumption | omega | (simp_all; done) | grind)), rfl, slot_av (av_int (show 0 = (0 : Int) by first | rfl | assumption | omega | (simp_all; done) | grind)), trivial⟩ rfl) ?_
    rintro i ⟨h0, h1⟩
    show Ent _ (⟨[(1, aInt d), (2, aInt a), (3, aInt b), (10, aInt (cutSum d a b i.toNat)), (39, aInt k), (40, aInt i)], []⟩ : St) _
    refine ent_seq fun K8 hK8 => ?_
    refine ent_region ?_
    refine ent_o rfl (ok_lss rfl rfl) ?_
    refine ent_nil ?_
    refine ent_k hK8 ?_
    refine ent_seq fun K9 hK9 => ?_
    refine ent_condD rfl (fun h41 => ?_) (fun h41 => ?_)
    · obtain ⟨⟨m1, m2⟩, ⟨m3, m4⟩, m5, m6⟩ := cut_step k d a b i hcb h0 h41
      have hs := cutSum_succ d a b i h0
      refine ent_skip ?_
      refine ent_k hK9 ?_
      refine ent_seq fun K10 hK10 => ?_
      refine ent_block ?_
      refine ent_seq fun K11 hK11 => ?_
      refine ent_region ?_
      refine ent_o rfl (ok_move rfl) ?_
      refine ent_o rfl (ok_assign rfl) ?_
      refine ent_nil ?_
      refine ent_k hK11 ?_
      refine ent_region ?_
      refine ent_o rfl (ok_move rfl) ?_
      refine ent_o rfl (ok_move rfl) ?_
      refine ent_o rfl (ok_move rfl) ?_
      refine ent_o rfl (ok_move rfl) ?_
      refine ent_o rfl (ok_sub rfl rfl (by omega) (by omega)) ?_
      refine ent_o rfl (ok_move rfl) ?_
      refine ent_o rfl (ok_mul rfl rfl (by omega) (by omega)) ?_
      refine ent_o rfl (ok_min rfl rfl) ?_
      refine ent_o rfl (ok_add rfl rfl (by omega) (by omega)) ?_
      refine ent_o rfl (ok_assign rfl) ?_
      refine ent_nil ?_
      refine ent_k hK10 ?_
      refine ent_region ?_
      refine ent_o rfl (ok_add rfl rfl (by omega) (by omega)) ?_
      refine ent_o rfl (ok_move rfl) ?_
      refine ent_nil ?_
      refine ent_again (s := (i)) (i + 1) ⟨(by first | rfl | assumption | omega | (simp_all; done) | grind), (by first | rfl | assumption | omega | (simp_all; done) | grind)⟩ (by first | omega | (dsimp only; omega)) (ent_rep ⟨rfl, rfl, rfl, slot_av (av_int (show (cutSum d a b i.toNat) + (min a ((d - i) * b)) = cutSum d a b (i + 1).toNat by rw [hs])), rfl, rfl, trivial⟩ rfl)
    · refine ent_exit ?_
      refine ent_k hK6 ?_
      refine ent_seq fun K12 hK12 => ?_
      refine ent_region ?_
      refine ent_o rfl (ok_move rfl) ?_
      refine ent_o rfl (ok_assign rfl) ?_
      refine ent_o rfl (ok_assign rfl) ?_
      refine ent_nil ?_
      refine ent_k hK12 ?_
      refine ent_ret ?_
      exact retR2 (.inr rfl) Try.results16 (resr_tmp (res_cv rfl (cv_int (by rw [if_neg hcb, show i = k by omega])))) (resr_tmp (res_cv rfl (cv_int (by rw [if_neg hcb]))))

theorem RegenerateOptimal_ok (r : Rgn) (t s : Int) (hk1 : -9223372036854775808 ≤ r.K) (hk2 : r.K ≤ 9223372036854775807) (hd1 : -9223372036854775808 ≤ r.D) (hd2 : r.D ≤ 9223372036854775807) (ht0 : 0 ≤ t) (ht1 : t ≤ 255) (hs0 : 0 ≤ s) (hs1 : s ≤ 255) : Ctr Try.prog 8 [aRgn r, aU8 t, aU8 s] (aBool true) := by
  refine ctr_of Try.call8 Try.func8 rfl rfl ?_
  intro w O
  refine ent_lenC 0 2 rfl rfl (fun hlen0_2 => ?_)
  refine ent_lenC 0 6 rfl rfl (fun hlen0_6 => ?_)
  refine ent_seq fun K1 hK1 => ?_
  refine ent_region ?_
  refine ent_boxS rfl rfl (AllOne.mem ⟨(one_int _), (one_int _), one_sl, (one_int _), (one_int _), (one_int _), one_sl, trivial⟩) (fun b3_1 => ?_)
  refine ent_o rfl (ok_assign rfl) ?_
  refine ent_nil ?_
  refine ent_k hK1 ?_
  refine ent_seq fun K2 hK2 => ?_
  refine ent_seq fun K3 hK3 => ?_
  refine ent_region ?_
  refine ent_o rfl (ok_loadBS (k := 0) ti53 rfl rfl rfl) ?_
  refine ent_o rfl (ok_call (rRgCheck_ok r (by first | rfl | assumption | omega | (simp_all; done) | grind) (by first | rfl | assumption | omega | (simp_all; done) | grind) (by first | rfl | assumption | omega | (simp_all; done) | grind) (by first | rfl | assumption | omega | (simp_all; done) | grind)) rfl) ?_
  refine ent_o rfl (ok_neq rfl rfl) ?_
  refine ent_nil ?_
  refine ent_k hK3 ?_
  refine ent_condD rfl (fun h16 => ?_) (fun h16 => ?_)
  · refine ent_seq fun K4 hK4 => ?_
    refine ent_region ?_
    refine ent_o rfl (ok_assign rfl) ?_
    refine ent_nil ?_
    refine ent_k hK4 ?_
    refine ent_ret ?_
    exact retR1 (.inr rfl) Try.results8 (resr_tmp (res_cv rfl (cv_bool (by rfl))))
  · have h0 := Classical.not_not.1 h16
    have hR := rgErr_zero.1 h0
    have ho := rg_opt hR
    have hB : (if rgErr r = 0 then rgB r else 0) = rgB r := if_pos h0
    have hA : (if rgErr r = 0 then rgA r else 0) = rgA r := if_pos h0
    have hrb := hR.rng
    unfold rgBad at hrb
    have hln := hR.len
    have hc1 : ¬ cutBad r.K r.D (rgA r) 1 := by unfold cutBad; omega
    have hm1 := mul_small ht0 (by omega) (show 0 ≤ rgA r by omega) (by omega)
    have hc2 : ¬ cutBad r.K r.D (t * rgA r) s := by unfold cutBad; omega
    have hBb := rgB_le hR
    have hm2 : 0 ≤ t * rgB r ∧ t * rgB r ≤ 16777216 := ⟨Int.mul_nonneg ht0 (by omega), by have := Int.mul_le_mul (show t ≤ 256 by omega) hBb (by omega) (by omega); omega⟩
    refine ent_skip ?_
    refine ent_k hK2 ?_
    refine ent_seq fun K5 hK5 => ?_
    refine ent_region ?_
    refine ent_o rfl (ok_loadBS (k := 0) ti53 rfl rfl rfl) ?_
    refine ent_o rfl (ok_call (Size_ok r (by first | rfl | assumption | omega | (simp_all; done) | grind) (by first | rfl | assumption | omega | (simp_all; done) | grind) (by first | rfl | assumption | omega | (simp_all; done) | grind) (by first | rfl | assumption | omega | (simp_all; done) | grind)) rfl) ?_
    refine ent_o rfl (ok_move rfl) ?_
    refine ent_o rfl (ok_extract rfl rfl) ?_
    refine ent_o rfl (ok_extract rfl rfl) ?_
    refine ent_o rfl (ok_extract rfl rfl) ?_
    refine ent_o rfl (ok_assign rfl) ?_
    refine ent_o rfl (ok_assign rfl) ?_
    refine ent_o rfl (ok_assign rfl) ?_
    refine ent_nil ?_
    refine ent_k hK5 ?_
    refine ent_seq fun K6 hK6 => ?_
    refine ent_region ?_
    refine ent_o rfl (ok_fieldAddrEx Try.runUnderlying53 rfl Try.sizeOf3 (by decide) rfl) ?_
    refine ent_o rfl (ok_loadB (k := 0) Try.isAgg3 rfl rfl rfl) ?_
    refine ent_o rfl (ok_fieldAddrEx Try.runUnderlying53 rfl Try.sizeOf3 (by decide) rfl) ?_
    refine ent_o rfl (ok_loadB (k := 0) Try.isAgg3 rfl rfl rfl) ?_
    refine ent_o rfl (ok_move rfl) ?_
    refine ent_o rfl (ok_call (Cut_ok r.K r.D (if rgErr r = 0 then rgA r else 0) 1) rfl) ?_
    refine ent_o rfl (ok_move rfl) ?_
    refine ent_o rfl (ok_extract rfl rfl) ?_
    refine ent_o rfl (ok_extract rfl rfl) ?_
    refine ent_o rfl (ok_assign rfl) ?_
    refine ent_o rfl (ok_assign rfl) ?_
    refine ent_nil ?_
    refine ent_k hK6 ?_
    refine ent_seq fun K7 hK7 => ?_
    refine ent_seq fun K8 hK8 => ?_
    refine ent_cut (⟨[(1, aU8 t), (2, aU8 s), (3, aEx (.pointer (some ⟨b3_1, 0, none⟩))), (7, aInt (if rgErr r = 0 then rgB r else 0)), (8, aInt (if rgErr r = 0 then rgA r else 0)), (46, aBool (decide (((((rgErr r) ≠ 0) ∨ ((if cutBad r.K r.D (if rgErr r = 0 then rgA r else 0) 1 then 6 else 0 : Int) ≠ 0)) ∨ ((if cutBad r.K r.D (if rgErr r = 0 then rgA r else 0) 1 then 0 else cutSum r.D (if rgErr r = 0 then rgA r else 0) 1 r.K.toNat : Int) ≠ (if rgErr r = 0 then rgB r else 0))) ∨ ((if rgErr r = 0 then rgB r else 0 : Int) < 1))))], [oBox b3_1 53 [aInt r.F.P, aInt r.F.M, aSl 1 false aInt r.F.mod, aInt r.Kind, aInt r.K, aInt r.D, aSl 1 false aInt r.Points]]⟩) ?_ ?_
    · refine ent_region ?_
      refine ent_o rfl (ok_move rfl) ?_
      refine ent_o rfl (ok_neq rfl rfl) ?_
      refine ent_o rfl (ok_move rfl) ?_
      refine ent_guardDf rfl rfl rfl rfl (fun hg34 => ?_) (fun hg34 => ?_)
      · refine ent_o rfl (ok_move rfl) ?_
        refine ent_guardT rfl rfl rfl rfl (decide_eq_false hg34) ?_
        refine ent_o rfl (ok_neq rfl rfl) ?_
        refine ent_o rfl (ok_pickF rfl (decide_eq_false hg34) rfl) ?_
        refine ent_o rfl (ok_move rfl) ?_
        refine ent_guardDf rfl rfl rfl rfl (fun hg38 => ?_) (fun hg38 => ?_)
        · refine ent_o rfl (ok_move rfl) ?_
          refine ent_guardT rfl rfl rfl rfl (decide_eq_false hg38) ?_
          refine ent_o rfl (ok_move rfl) ?_
          refine ent_guardT rfl rfl rfl rfl (decide_eq_false hg38) ?_
          refine ent_o rfl (ok_neq rfl rfl) ?_
          refine ent_o rfl (ok_pickF rfl (decide_eq_false hg38) rfl) ?_
          refine ent_o rfl (ok_move rfl) ?_
          refine ent_guardDf rfl rfl rfl rfl (fun hg43 => ?_) (fun hg43 => ?_)
          · refine ent_o rfl (ok_move rfl) ?_
            refine ent_guardT rfl rfl rfl rfl (decide_eq_false hg43) ?_
            refine ent_o rfl (ok_lss rfl rfl) ?_
            refine ent_o rfl (ok_pickF rfl (decide_eq_false hg43) rfl) ?_
            refine ent_nil ?_
            exact ent_rep ⟨rfl, rfl, rfl, rfl, rfl, slot_bool (dq_Q ((or_iff_right (fun h => h.elim (fun h => h.elim hg34 hg38) hg43)).trans Iff.rfl)), trivial⟩ rfl
          · refine ent_guardF rfl rfl rfl rfl (decide_eq_true hg43) ?_
            refine ent_o rfl (ok_pickT rfl (decide_eq_true hg43) rfl) ?_
            refine ent_nil ?_
            exact ent_rep ⟨rfl, rfl, rfl, rfl, rfl, slot_bool (dq_T rfl (Or.inl (Or.inr hg43))), trivial⟩ rfl
        · refine ent_guardF rfl rfl rfl rfl (decide_eq_true hg38) ?_
          refine ent_guardF rfl rfl rfl rfl (decide_eq_true hg38) ?_
          refine ent_o rfl (ok_pickT rfl (decide_eq_true hg38) rfl) ?_
          refine ent_o rfl (ok_move rfl) ?_
          refine ent_guardF rfl rfl rfl rfl rfl ?_
          refine ent_guardF rfl rfl rfl rfl rfl ?_
          refine ent_o rfl (ok_pickT rfl rfl rfl) ?_
          refine ent_nil ?_
          exact ent_rep ⟨rfl, rfl, rfl, rfl, rfl, slot_bool (dq_T rfl (Or.inl (Or.inl (Or.inr hg38)))), trivial⟩ rfl
      · refine ent_guardF rfl rfl rfl rfl (decide_eq_true hg34) ?_
        refine ent_o rfl (ok_pickT rfl (decide_eq_true hg34) rfl) ?_
        refine ent_o rfl (ok_move rfl) ?_
        refine ent_guardF rfl rfl rfl rfl rfl ?_
        refine ent_guardF rfl rfl rfl rfl rfl ?_
        refine ent_guardF rfl rfl rfl rfl rfl ?_
        refine ent_o rfl (ok_pickT rfl rfl rfl) ?_
        refine ent_o rfl (ok_move rfl) ?_
        refine ent_guardF rfl rfl rfl rfl rfl ?_
        refine ent_guardF rfl rfl rfl rfl rfl ?_
        refine ent_o rfl (ok_pickT rfl rfl rfl) ?_
        refine ent_nil ?_
        exact ent_rep ⟨rfl, rfl, rfl, rfl, rfl, slot_bool (dq_T rfl (Or.inl (Or.inl (Or.inl hg34)))), trivial⟩ rfl
    refine ent_k hK8 ?_
    refine ent_condD rfl (fun h46 => ?_) (fun h46 => ?_)
    · exfalso; rw [hA, hB, if_neg hc1, if_neg hc1] at h46; omega
    · refine ent_skip ?_
      refine ent_k hK7 ?_
      refine ent_seq fun K9 hK9 => ?_
      refine ent_seq fun K10 hK10 => ?_
      refine ent_region ?_
      refine ent_o rfl (ok_move rfl) ?_
      refine ent_o rfl (ok_move rfl) ?_
      refine ent_o rfl (ok_geq8 rfl rfl) ?_
      refine ent_nil ?_
      refine ent_k hK10 ?_
      refine ent_condD rfl (fun h49 => ?_) (fun h49 => ?_)
      · refine ent_seq fun K11 hK11 => ?_
        refine ent_region ?_
        refine ent_o rfl (ok_assign rfl) ?_
        refine ent_nil ?_
        refine ent_k hK11 ?_
        refine ent_ret ?_
        exact retR1 (.inr rfl) Try.results8 (resr_tmp (res_cv rfl (cv_bool (by rfl))))
      · refine ent_skip ?_
        refine ent_k hK9 ?_
        refine ent_seq fun K12 hK12 => ?_
        have hlt := rg_opt_lt hR hs0 (show s < t by omega)
        refine ent_region ?_
        refine ent_o rfl (ok_fieldAddrEx Try.runUnderlying53 rfl Try.sizeOf3 (by decide) rfl) ?_
        refine ent_o rfl (ok_loadB (k := 0) Try.isAgg3 rfl rfl rfl) ?_
        refine ent_o rfl (ok_fieldAddrEx Try.runUnderlying53 rfl Try.sizeOf3 (by decide) rfl) ?_
        refine ent_o rfl (ok_loadB (k := 0) Try.isAgg3 rfl rfl rfl) ?_
        refine ent_o rfl (ok_move rfl) ?_
        refine ent_o rfl (ok_conv8 (by rw [Try.underlying5]; rfl) Try.underlying3 rfl (by omega) (by omega)) ?_
        refine ent_o rfl (ok_move rfl) ?_
        refine ent_o rfl (ok_mul rfl rfl (by rw [hA]; omega) (by rw [hA]; omega)) ?_
        refine ent_o rfl (ok_move rfl) ?_
        refine ent_o rfl (ok_conv8 (by rw [Try.underlying5]; rfl) Try.underlying3 rfl (by omega) (by omega)) ?_
        refine ent_o rfl (ok_call (Cut_ok r.K r.D (t * (if rgErr r = 0 then rgA r else 0)) s) rfl) ?_
        refine ent_o rfl (ok_move rfl) ?_
        refine ent_o rfl (ok_extract rfl rfl) ?_
        refine ent_o rfl (ok_extract rfl rfl) ?_
        refine ent_o rfl (ok_assign rfl) ?_
        refine ent_o rfl (ok_assign rfl) ?_
        refine ent_nil ?_
        refine ent_k hK12 ?_
        refine ent_seq fun K13 hK13 => ?_
        refine ent_cut (⟨[(6, aBool (decide (((if cutBad r.K r.D (t * (if rgErr r = 0 then rgA r else 0)) s then 6 else 0 : Int) = 0) ∧ ((if cutBad r.K r.D (t * (if rgErr r = 0 then rgA r else 0)) s then 0 else cutSum r.D (t * (if rgErr r = 0 then rgA r else 0)) s r.K.toNat : Int) < (t * (if rgErr r = 0 then rgB r else 0))))))], [oBox b3_1 53 [aInt r.F.P, aInt r.F.M, aSl 1 false aInt r.F.mod, aInt r.Kind, aInt r.K, aInt r.D, aSl 1 false aInt r.Points]]⟩) ?_ ?_
        · refine ent_region ?_
          refine ent_o rfl (ok_move rfl) ?_
          refine ent_o rfl (ok_eql rfl rfl) ?_
          refine ent_o rfl (ok_move rfl) ?_
          refine ent_guardDt rfl rfl rfl rfl (fun hg66 => ?_) (fun hg66 => ?_)
          · refine ent_o rfl (ok_move rfl) ?_
            refine ent_guardT rfl rfl rfl rfl (decide_eq_true hg66) ?_
            refine ent_o rfl (ok_move rfl) ?_
            refine ent_guardT rfl rfl rfl rfl (decide_eq_true hg66) ?_
            refine ent_o rfl (ok_conv8 (by rw [Try.underlying5]; rfl) Try.underlying3 rfl (by omega) (by omega)) ?_
            refine ent_guardT rfl rfl rfl rfl (decide_eq_true hg66) ?_
            refine ent_o rfl (ok_move rfl) ?_
            refine ent_guardT rfl rfl rfl rfl (decide_eq_true hg66) ?_
            refine ent_o rfl (ok_mul rfl rfl (by rw [hB]; omega) (by rw [hB]; omega)) ?_
            refine ent_guardT rfl rfl rfl rfl (decide_eq_true hg66) ?_
            refine ent_o rfl (ok_lss rfl rfl) ?_
            refine ent_o rfl (ok_pickT rfl (decide_eq_true hg66) rfl) ?_
            refine ent_o rfl (ok_assign rfl) ?_
            refine ent_nil ?_
            exact ent_rep ⟨slot_bool (dq_Q ((and_iff_right hg66).trans Iff.rfl)), trivial⟩ rfl
          · refine ent_guardF rfl rfl rfl rfl (decide_eq_false hg66) ?_
            refine ent_guardF rfl rfl rfl rfl (decide_eq_false hg66) ?_
            refine ent_guardF rfl rfl rfl rfl (decide_eq_false hg66) ?_
            refine ent_guardF rfl rfl rfl rfl (decide_eq_false hg66) ?_
            refine ent_guardF rfl rfl rfl rfl (decide_eq_false hg66) ?_
            refine ent_o rfl (ok_pickF rfl (decide_eq_false hg66) rfl) ?_
            refine ent_o rfl (ok_assign rfl) ?_
            refine ent_nil ?_
            exact ent_rep ⟨slot_bool (dq_F rfl (fun h => hg66 h.1)), trivial⟩ rfl
        refine ent_k hK13 ?_
        refine ent_ret ?_
        exact retR1 (.inr rfl) Try.results8 (resr_tmp (res_cv rfl (cv_bool (by rw [hA, hB, if_neg hc2, if_neg hc2]; exact decide_eq_true ⟨rfl, hlt⟩))))
end Go.Proofs.Ytaipghchkamajaa
