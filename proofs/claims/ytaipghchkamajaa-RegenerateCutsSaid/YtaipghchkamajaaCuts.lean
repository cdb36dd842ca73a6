/-
  Cut and its reference compute the same sum, or the same error, for every input; the law RegenerateCuts returns true.
-/
import Derived.Test.YtaipghchkamajaaProg
import Derived.Test.YtaipghchkamajaaTab
open Go Go.Cw
namespace Go.Proofs.Ytaipghchkamajaa
set_option maxRecDepth 100000
set_option linter.unusedVariables false

def cutBad (k d a b : Int) : Prop := k < 1 ∨ d < k ∨ 64 < d ∨ a < 0 ∨ 1048576 < a ∨ b < 0 ∨ 1048576 < b
instance (k d a b : Int) : Decidable (cutBad k d a b) := by unfold cutBad; infer_instance
def cutSum (d a b : Int) : Nat → Int
  | 0 => 0
  | n + 1 => cutSum d a b n + min a ((d - n) * b)
theorem cut_term (d a b : Int) (n : Int) (h : ¬ cutBad (n + 1) d a b) (hn : 0 ≤ n) : 0 ≤ (d - n) * b ∧ (d - n) * b ≤ 67108864 ∧ 0 ≤ d - n ∧ d - n ≤ 64 := by
  unfold cutBad at h
  have h1 : 0 ≤ d - n := by omega
  have h2 : d - n ≤ 64 := by omega
  have h3 : 0 ≤ b := by omega
  have h4 : b ≤ 1048576 := by omega
  refine ⟨Int.mul_nonneg h1 h3, ?_, h1, h2⟩
  have := Int.mul_le_mul h2 h4 h3 (by omega)
  omega
theorem cutSum_le (k d a b : Int) (h : ¬ cutBad k d a b) : ∀ n : Nat, (n : Int) ≤ k → 0 ≤ cutSum d a b n ∧ cutSum d a b n ≤ 1048576 * n := by
  intro n
  induction n with
  | zero => intro _; simp [cutSum]
  | succ n ih =>
    intro hn
    have h1 := ih (by omega)
    have h2 := cut_term d a b n (by unfold cutBad at h ⊢; omega) (by omega)
    unfold cutBad at h
    unfold cutSum
    omega
theorem cutSum_succ (d a b : Int) (i : Int) (h : 0 ≤ i) : cutSum d a b (i + 1).toNat = cutSum d a b i.toNat + min a ((d - i) * b) := by
  rw [show (i + 1).toNat = i.toNat + 1 by omega, cutSum, show ((i.toNat : Nat) : Int) = i by omega]
theorem cut_step (k d a b i : Int) (h : ¬ cutBad k d a b) (h0 : 0 ≤ i) (h1 : i < k) :
    (0 ≤ (d - i) * b ∧ (d - i) * b ≤ 67108864) ∧ (0 ≤ cutSum d a b i.toNat ∧ cutSum d a b i.toNat ≤ 67108864) ∧ (0 ≤ min a ((d - i) * b) ∧ min a ((d - i) * b) ≤ 1048576) := by
  have h2 := cut_term d a b i (by unfold cutBad at h ⊢; omega) h0
  have h3 := cutSum_le k d a b h i.toNat (by omega)
  unfold cutBad at h
  refine ⟨⟨h2.1, h2.2.1⟩, ⟨h3.1, by omega⟩, by omega⟩
theorem Cut_ok (k d a b : Int)  : Ctr Try.prog 16 [aInt k, aInt d, aInt a, aInt b] (aTup [aInt (if cutBad k d a b then 0 else cutSum d a b k.toNat), aInt (if cutBad k d a b then 6 else 0)]) := by
  refine ctr_of Try.call16 Try.func16 rfl rfl ?_
  intro w O
  refine ent_seq fun K1 hK1 => ?_
  refine ent_region ?_
  refine ent_o rfl (ok_assign rfl) ?_
  refine ent_o rfl (ok_assign rfl) ?_
  refine ent_nil ?_
  refine ent_k hK1 ?_
  refine ent_seq fun K2 hK2 => ?_
  refine ent_seq fun K3 hK3 => ?_
  refine ent_cut (⟨[(0, aInt k), (1, aInt d), (2, aInt a), (3, aInt b), (38, aBool (decide (cutBad k d a b)))], []⟩) ?_ ?_
  · refine ent_region ?_
    refine ent_o rfl (ok_move rfl) ?_
    refine ent_o rfl (ok_lss rfl rfl) ?_
    refine ent_o rfl (ok_move rfl) ?_
    refine ent_guardDf rfl rfl rfl rfl (fun hg14 => ?_) (fun hg14 => ?_)
    · refine ent_o rfl (ok_move rfl) ?_
      refine ent_guardT rfl rfl rfl rfl (decide_eq_false hg14) ?_
      refine ent_o rfl (ok_move rfl) ?_
      refine ent_guardT rfl rfl rfl rfl (decide_eq_false hg14) ?_
      refine ent_o rfl (ok_gtr rfl rfl) ?_
      refine ent_o rfl (ok_pickF rfl (decide_eq_false hg14) rfl) ?_
      refine ent_o rfl (ok_move rfl) ?_
      refine ent_guardDf rfl rfl rfl rfl (fun hg19 => ?_) (fun hg19 => ?_)
      · refine ent_o rfl (ok_move rfl) ?_
        refine ent_guardT rfl rfl rfl rfl (decide_eq_false hg19) ?_
        refine ent_o rfl (ok_gtr rfl rfl) ?_
        refine ent_o rfl (ok_pickF rfl (decide_eq_false hg19) rfl) ?_
        refine ent_o rfl (ok_move rfl) ?_
        refine ent_guardDf rfl rfl rfl rfl (fun hg23 => ?_) (fun hg23 => ?_)
        · refine ent_o rfl (ok_move rfl) ?_
          refine ent_guardT rfl rfl rfl rfl (decide_eq_false hg23) ?_
          refine ent_o rfl (ok_lss rfl rfl) ?_
          refine ent_o rfl (ok_pickF rfl (decide_eq_false hg23) rfl) ?_
          refine ent_o rfl (ok_move rfl) ?_
          refine ent_guardDf rfl rfl rfl rfl (fun hg27 => ?_) (fun hg27 => ?_)
          · refine ent_o rfl (ok_move rfl) ?_
            refine ent_guardT rfl rfl rfl rfl (decide_eq_false hg27) ?_
            refine ent_o rfl (ok_gtr rfl rfl) ?_
            refine ent_o rfl (ok_pickF rfl (decide_eq_false hg27) rfl) ?_
            refine ent_o rfl (ok_move rfl) ?_
            refine ent_guardDf rfl rfl rfl rfl (fun hg31 => ?_) (fun hg31 => ?_)
            · refine ent_o rfl (ok_move rfl) ?_
              refine ent_guardT rfl rfl rfl rfl (decide_eq_false hg31) ?_
              refine ent_o rfl (ok_lss rfl rfl) ?_
              refine ent_o rfl (ok_pickF rfl (decide_eq_false hg31) rfl) ?_
              refine ent_o rfl (ok_move rfl) ?_
              refine ent_guardDf rfl rfl rfl rfl (fun hg35 => ?_) (fun hg35 => ?_)
              · refine ent_o rfl (ok_move rfl) ?_
                refine ent_guardT rfl rfl rfl rfl (decide_eq_false hg35) ?_
                refine ent_o rfl (ok_gtr rfl rfl) ?_
                refine ent_o rfl (ok_pickF rfl (decide_eq_false hg35) rfl) ?_
                refine ent_nil ?_
                exact ent_rep ⟨rfl, rfl, rfl, rfl, (by first | exact congrArg (fun b => some (aBool b)) (decide_eq_true (by unfold cutBad; omega)).symm | exact congrArg (fun b => some (aBool b)) (decide_eq_decide.2 (by unfold cutBad; omega))), trivial⟩ rfl
              · refine ent_guardF rfl rfl rfl rfl (decide_eq_true hg35) ?_
                refine ent_o rfl (ok_pickT rfl (decide_eq_true hg35) rfl) ?_
                refine ent_nil ?_
                exact ent_rep ⟨rfl, rfl, rfl, rfl, (by first | exact congrArg (fun b => some (aBool b)) (decide_eq_true (by unfold cutBad; omega)).symm | exact congrArg (fun b => some (aBool b)) (decide_eq_decide.2 (by unfold cutBad; omega))), trivial⟩ rfl
            · refine ent_guardF rfl rfl rfl rfl (decide_eq_true hg31) ?_
              refine ent_o rfl (ok_pickT rfl (decide_eq_true hg31) rfl) ?_
              refine ent_o rfl (ok_move rfl) ?_
              refine ent_guardF rfl rfl rfl rfl rfl ?_
              refine ent_guardF rfl rfl rfl rfl rfl ?_
              refine ent_o rfl (ok_pickT rfl rfl rfl) ?_
              refine ent_nil ?_
              exact ent_rep ⟨rfl, rfl, rfl, rfl, (by first | exact congrArg (fun b => some (aBool b)) (decide_eq_true (by unfold cutBad; omega)).symm | exact congrArg (fun b => some (aBool b)) (decide_eq_decide.2 (by unfold cutBad; omega))), trivial⟩ rfl
          · refine ent_guardF rfl rfl rfl rfl (decide_eq_true hg27) ?_
            refine ent_o rfl (ok_pickT rfl (decide_eq_true hg27) rfl) ?_
            refine ent_o rfl (ok_move rfl) ?_
            refine ent_guardF rfl rfl rfl rfl rfl ?_
            refine ent_guardF rfl rfl rfl rfl rfl ?_
            refine ent_o rfl (ok_pickT rfl rfl rfl) ?_
            refine ent_o rfl (ok_move rfl) ?_
            refine ent_guardF rfl rfl rfl rfl rfl ?_
            refine ent_guardF rfl rfl rfl rfl rfl ?_
            refine ent_o rfl (ok_pickT rfl rfl rfl) ?_
            refine ent_nil ?_
            exact ent_rep ⟨rfl, rfl, rfl, rfl, (by first | exact congrArg (fun b => some (aBool b)) (decide_eq_true (by unfold cutBad; omega)).symm | exact congrArg (fun b => some (aBool b)) (decide_eq_decide.2 (by unfold cutBad; omega))), trivial⟩ rfl
        · refine ent_guardF rfl rfl rfl rfl (decide_eq_true hg23) ?_
          refine ent_o rfl (ok_pickT rfl (decide_eq_true hg23) rfl) ?_
          refine ent_o rfl (ok_move rfl) ?_
          refine ent_guardF rfl rfl rfl rfl rfl ?_
          refine ent_guardF rfl rfl rfl rfl rfl ?_
          refine ent_o rfl (ok_pickT rfl rfl rfl) ?_
          refine ent_o rfl (ok_move rfl) ?_
          refine ent_guardF rfl rfl rfl rfl rfl ?_
          refine ent_guardF rfl rfl rfl rfl rfl ?_
          refine ent_o rfl (ok_pickT rfl rfl rfl) ?_
          refine ent_o rfl (ok_move rfl) ?_
          refine ent_guardF rfl rfl rfl rfl rfl ?_
          refine ent_guardF rfl rfl rfl rfl rfl ?_
          refine ent_o rfl (ok_pickT rfl rfl rfl) ?_
          refine ent_nil ?_
          exact ent_rep ⟨rfl, rfl, rfl, rfl, (by first | exact congrArg (fun b => some (aBool b)) (decide_eq_true (by unfold cutBad; omega)).symm | exact congrArg (fun b => some (aBool b)) (decide_eq_decide.2 (by unfold cutBad; omega))), trivial⟩ rfl
      · refine ent_guardF rfl rfl rfl rfl (decide_eq_true hg19) ?_
        refine ent_o rfl (ok_pickT rfl (decide_eq_true hg19) rfl) ?_
        refine ent_o rfl (ok_move rfl) ?_
        refine ent_guardF rfl rfl rfl rfl rfl ?_
        refine ent_guardF rfl rfl rfl rfl rfl ?_
        refine ent_o rfl (ok_pickT rfl rfl rfl) ?_
        refine ent_o rfl (ok_move rfl) ?_
        refine ent_guardF rfl rfl rfl rfl rfl ?_
        refine ent_guardF rfl rfl rfl rfl rfl ?_
        refine ent_o rfl (ok_pickT rfl rfl rfl) ?_
        refine ent_o rfl (ok_move rfl) ?_
        refine ent_guardF rfl rfl rfl rfl rfl ?_
        refine ent_guardF rfl rfl rfl rfl rfl ?_
        refine ent_o rfl (ok_pickT rfl rfl rfl) ?_
        refine ent_o rfl (ok_move rfl) ?_
        refine ent_guardF rfl rfl rfl rfl rfl ?_
        refine ent_guardF rfl rfl rfl rfl rfl ?_
        refine ent_o rfl (ok_pickT rfl rfl rfl) ?_
        refine ent_nil ?_
        exact ent_rep ⟨rfl, rfl, rfl, rfl, (by first | exact congrArg (fun b => some (aBool b)) (decide_eq_true (by unfold cutBad; omega)).symm | exact congrArg (fun b => some (aBool b)) (decide_eq_decide.2 (by unfold cutBad; omega))), trivial⟩ rfl
    · refine ent_guardF rfl rfl rfl rfl (decide_eq_true hg14) ?_
      refine ent_guardF rfl rfl rfl rfl (decide_eq_true hg14) ?_
      refine ent_o rfl (ok_pickT rfl (decide_eq_true hg14) rfl) ?_
      refine ent_o rfl (ok_move rfl) ?_
      refine ent_guardF rfl rfl rfl rfl rfl ?_
      refine ent_guardF rfl rfl rfl rfl rfl ?_
      refine ent_o rfl (ok_pickT rfl rfl rfl) ?_
      refine ent_o rfl (ok_move rfl) ?_
      refine ent_guardF rfl rfl rfl rfl rfl ?_
      refine ent_guardF rfl rfl rfl rfl rfl ?_
      refine ent_o rfl (ok_pickT rfl rfl rfl) ?_
      refine ent_o rfl (ok_move rfl) ?_
      refine ent_guardF rfl rfl rfl rfl rfl ?_
      refine ent_guardF rfl rfl rfl rfl rfl ?_
      refine ent_o rfl (ok_pickT rfl rfl rfl) ?_
      refine ent_o rfl (ok_move rfl) ?_
      refine ent_guardF rfl rfl rfl rfl rfl ?_
      refine ent_guardF rfl rfl rfl rfl rfl ?_
      refine ent_o rfl (ok_pickT rfl rfl rfl) ?_
      refine ent_o rfl (ok_move rfl) ?_
      refine ent_guardF rfl rfl rfl rfl rfl ?_
      refine ent_guardF rfl rfl rfl rfl rfl ?_
      refine ent_o rfl (ok_pickT rfl rfl rfl) ?_
      refine ent_nil ?_
      exact ent_rep ⟨rfl, rfl, rfl, rfl, (by first | exact congrArg (fun b => some (aBool b)) (decide_eq_true (by unfold cutBad; omega)).symm | exact congrArg (fun b => some (aBool b)) (decide_eq_decide.2 (by unfold cutBad; omega))), trivial⟩ rfl
  refine ent_k hK3 ?_
  refine ent_condD rfl (fun h38 => ?_) (fun h38 => ?_)
  · refine ent_seq fun K4 hK4 => ?_
    refine ent_region ?_
    refine ent_o rfl (ok_assign rfl) ?_
    refine ent_o rfl (ok_assign rfl) ?_
    refine ent_nil ?_
    refine ent_k hK4 ?_
    refine ent_ret ?_
    exact ret2 (.inr rfl) Try.results16 (res_int rfl (by rw [if_pos h38])) (res_int rfl (by rw [if_pos h38]))
  · have hcb := h38
    unfold cutBad at hcb
    refine ent_skip ?_
    refine ent_k hK2 ?_
    refine ent_seq fun K5 hK5 => ?_
    refine ent_region ?_
    refine ent_o rfl (ok_assign rfl) ?_
    refine ent_nil ?_
    refine ent_k hK5 ?_
    refine ent_seq fun K6 hK6 => ?_
    refine ent_seq fun K7 hK7 => ?_
    refine ent_region ?_
    refine ent_o rfl (ok_move rfl) ?_
    refine ent_o rfl (ok_move rfl) ?_
    refine ent_nil ?_
    refine ent_k hK7 ?_
    refine ent_block ?_
    refine ent_loop (fun (i : Int) => (⟨[(1, aInt d), (2, aInt a), (3, aInt b), (10, aInt (cutSum d a b i.toNat)), (39, aInt k), (40, aInt i)], []⟩ : St)) (fun (i : Int) => 0 ≤ i ∧ i ≤ k) (fun (i : Int) => (k - i).toNat) 0 (⟨by omega, by omega⟩) (ent_rep ⟨rfl, rfl, rfl, rfl, rfl, rfl, trivial⟩ rfl) ?_
    rintro i ⟨hi0, hi1⟩
    show Ent _ (⟨[(1, aInt d), (2, aInt a), (3, aInt b), (10, aInt (cutSum d a b i.toNat)), (39, aInt k), (40, aInt i)], []⟩ : St) _
    refine ent_seq fun K8 hK8 => ?_
    refine ent_region ?_
    refine ent_o rfl (ok_lss rfl rfl) ?_
    refine ent_nil ?_
    refine ent_k hK8 ?_
    refine ent_seq fun K9 hK9 => ?_
    refine ent_condD rfl (fun h41 => ?_) (fun h41 => ?_)
    · obtain ⟨⟨m1, m2⟩, ⟨m3, m4⟩, m5, m6⟩ := cut_step k d a b i h38 hi0 h41
      have hs := cutSum_succ d a b i hi0
      refine ent_skip ?_
      refine ent_k hK9 ?_
      refine ent_seq fun K10 hK10 => ?_
      refine ent_block ?_
      refine ent_seq fun K11 hK11 => ?_
      refine ent_region ?_
      refine ent_o rfl (ok_move rfl) ?_
      refine ent_o rfl (ok_assign rfl) ?_
      refine ent_nil ?_
      refine ent_k hK11 ?_
      refine ent_region ?_
      refine ent_o rfl (ok_move rfl) ?_
      refine ent_o rfl (ok_move rfl) ?_
      refine ent_o rfl (ok_move rfl) ?_
      refine ent_o rfl (ok_move rfl) ?_
      refine ent_o rfl (ok_sub rfl rfl (by omega) (by omega)) ?_
      refine ent_o rfl (ok_move rfl) ?_
      refine ent_o rfl (ok_mul rfl rfl (by omega) (by omega)) ?_
      refine ent_o rfl (ok_min rfl rfl) ?_
      refine ent_o rfl (ok_add rfl rfl (by omega) (by omega)) ?_
      refine ent_o rfl (ok_assign rfl) ?_
      refine ent_nil ?_
      refine ent_k hK10 ?_
      refine ent_region ?_
      refine ent_o rfl (ok_add rfl rfl (by omega) (by omega)) ?_
      refine ent_o rfl (ok_move rfl) ?_
      refine ent_nil ?_
      refine ent_again (i + 1) (⟨by omega, by omega⟩) (by omega) (ent_rep ⟨rfl, rfl, rfl, (by rw [hs]; rfl), rfl, rfl, trivial⟩ rfl)
    · refine ent_exit ?_
      refine ent_k hK6 ?_
      refine ent_seq fun K12 hK12 => ?_
      refine ent_region ?_
      refine ent_o rfl (ok_move rfl) ?_
      refine ent_o rfl (ok_assign rfl) ?_
      refine ent_o rfl (ok_assign rfl) ?_
      refine ent_nil ?_
      refine ent_k hK12 ?_
      refine ent_ret ?_
      exact ret2 (.inr rfl) Try.results16 (res_int rfl (by rw [if_neg h38, show i = k by omega])) (res_int rfl (by rw [if_neg h38]))

theorem CutArgs_ok (k d a b : Int)  : Ctr Try.prog 17 [aInt k, aInt d, aInt a, aInt b] (aInt (if cutBad k d a b then 6 else 0)) := by
  refine ctr_of Try.call17 Try.func17 rfl rfl ?_
  intro w O
  refine ent_seq fun K1 hK1 => ?_
  refine ent_region ?_
  refine ent_o rfl (ok_assign rfl) ?_
  refine ent_nil ?_
  refine ent_k hK1 ?_
  refine ent_seq fun K2 hK2 => ?_
  refine ent_seq fun K3 hK3 => ?_
  refine ent_cut (⟨[(35, aBool (decide (cutBad k d a b)))], []⟩) ?_ ?_
  · refine ent_region ?_
    refine ent_o rfl (ok_move rfl) ?_
    refine ent_o rfl (ok_lss rfl rfl) ?_
    refine ent_o rfl (ok_move rfl) ?_
    refine ent_guardDf rfl rfl rfl rfl (fun hg11 => ?_) (fun hg11 => ?_)
    · refine ent_o rfl (ok_move rfl) ?_
      refine ent_guardT rfl rfl rfl rfl (decide_eq_false hg11) ?_
      refine ent_o rfl (ok_move rfl) ?_
      refine ent_guardT rfl rfl rfl rfl (decide_eq_false hg11) ?_
      refine ent_o rfl (ok_gtr rfl rfl) ?_
      refine ent_o rfl (ok_pickF rfl (decide_eq_false hg11) rfl) ?_
      refine ent_o rfl (ok_move rfl) ?_
      refine ent_guardDf rfl rfl rfl rfl (fun hg16 => ?_) (fun hg16 => ?_)
      · refine ent_o rfl (ok_move rfl) ?_
        refine ent_guardT rfl rfl rfl rfl (decide_eq_false hg16) ?_
        refine ent_o rfl (ok_gtr rfl rfl) ?_
        refine ent_o rfl (ok_pickF rfl (decide_eq_false hg16) rfl) ?_
        refine ent_o rfl (ok_move rfl) ?_
        refine ent_guardDf rfl rfl rfl rfl (fun hg20 => ?_) (fun hg20 => ?_)
        · refine ent_o rfl (ok_move rfl) ?_
          refine ent_guardT rfl rfl rfl rfl (decide_eq_false hg20) ?_
          refine ent_o rfl (ok_lss rfl rfl) ?_
          refine ent_o rfl (ok_pickF rfl (decide_eq_false hg20) rfl) ?_
          refine ent_o rfl (ok_move rfl) ?_
          refine ent_guardDf rfl rfl rfl rfl (fun hg24 => ?_) (fun hg24 => ?_)
          · refine ent_o rfl (ok_move rfl) ?_
            refine ent_guardT rfl rfl rfl rfl (decide_eq_false hg24) ?_
            refine ent_o rfl (ok_gtr rfl rfl) ?_
            refine ent_o rfl (ok_pickF rfl (decide_eq_false hg24) rfl) ?_
            refine ent_o rfl (ok_move rfl) ?_
            refine ent_guardDf rfl rfl rfl rfl (fun hg28 => ?_) (fun hg28 => ?_)
            · refine ent_o rfl (ok_move rfl) ?_
              refine ent_guardT rfl rfl rfl rfl (decide_eq_false hg28) ?_
              refine ent_o rfl (ok_lss rfl rfl) ?_
              refine ent_o rfl (ok_pickF rfl (decide_eq_false hg28) rfl) ?_
              refine ent_o rfl (ok_move rfl) ?_
              refine ent_guardDf rfl rfl rfl rfl (fun hg32 => ?_) (fun hg32 => ?_)
              · refine ent_o rfl (ok_move rfl) ?_
                refine ent_guardT rfl rfl rfl rfl (decide_eq_false hg32) ?_
                refine ent_o rfl (ok_gtr rfl rfl) ?_
                refine ent_o rfl (ok_pickF rfl (decide_eq_false hg32) rfl) ?_
                refine ent_nil ?_
                exact ent_rep ⟨(by first | exact congrArg (fun b => some (aBool b)) (decide_eq_true (by unfold cutBad; omega)).symm | exact congrArg (fun b => some (aBool b)) (decide_eq_decide.2 (by unfold cutBad; omega))), trivial⟩ rfl
              · refine ent_guardF rfl rfl rfl rfl (decide_eq_true hg32) ?_
                refine ent_o rfl (ok_pickT rfl (decide_eq_true hg32) rfl) ?_
                refine ent_nil ?_
                exact ent_rep ⟨(by first | exact congrArg (fun b => some (aBool b)) (decide_eq_true (by unfold cutBad; omega)).symm | exact congrArg (fun b => some (aBool b)) (decide_eq_decide.2 (by unfold cutBad; omega))), trivial⟩ rfl
            · refine ent_guardF rfl rfl rfl rfl (decide_eq_true hg28) ?_
              refine ent_o rfl (ok_pickT rfl (decide_eq_true hg28) rfl) ?_
              refine ent_o rfl (ok_move rfl) ?_
              refine ent_guardF rfl rfl rfl rfl rfl ?_
              refine ent_guardF rfl rfl rfl rfl rfl ?_
              refine ent_o rfl (ok_pickT rfl rfl rfl) ?_
              refine ent_nil ?_
              exact ent_rep ⟨(by first | exact congrArg (fun b => some (aBool b)) (decide_eq_true (by unfold cutBad; omega)).symm | exact congrArg (fun b => some (aBool b)) (decide_eq_decide.2 (by unfold cutBad; omega))), trivial⟩ rfl
          · refine ent_guardF rfl rfl rfl rfl (decide_eq_true hg24) ?_
            refine ent_o rfl (ok_pickT rfl (decide_eq_true hg24) rfl) ?_
            refine ent_o rfl (ok_move rfl) ?_
            refine ent_guardF rfl rfl rfl rfl rfl ?_
            refine ent_guardF rfl rfl rfl rfl rfl ?_
            refine ent_o rfl (ok_pickT rfl rfl rfl) ?_
            refine ent_o rfl (ok_move rfl) ?_
            refine ent_guardF rfl rfl rfl rfl rfl ?_
            refine ent_guardF rfl rfl rfl rfl rfl ?_
            refine ent_o rfl (ok_pickT rfl rfl rfl) ?_
            refine ent_nil ?_
            exact ent_rep ⟨(by first | exact congrArg (fun b => some (aBool b)) (decide_eq_true (by unfold cutBad; omega)).symm | exact congrArg (fun b => some (aBool b)) (decide_eq_decide.2 (by unfold cutBad; omega))), trivial⟩ rfl
        · refine ent_guardF rfl rfl rfl rfl (decide_eq_true hg20) ?_
          refine ent_o rfl (ok_pickT rfl (decide_eq_true hg20) rfl) ?_
          refine ent_o rfl (ok_move rfl) ?_
          refine ent_guardF rfl rfl rfl rfl rfl ?_
          refine ent_guardF rfl rfl rfl rfl rfl ?_
          refine ent_o rfl (ok_pickT rfl rfl rfl) ?_
          refine ent_o rfl (ok_move rfl) ?_
          refine ent_guardF rfl rfl rfl rfl rfl ?_
          refine ent_guardF rfl rfl rfl rfl rfl ?_
          refine ent_o rfl (ok_pickT rfl rfl rfl) ?_
          refine ent_o rfl (ok_move rfl) ?_
          refine ent_guardF rfl rfl rfl rfl rfl ?_
          refine ent_guardF rfl rfl rfl rfl rfl ?_
          refine ent_o rfl (ok_pickT rfl rfl rfl) ?_
          refine ent_nil ?_
          exact ent_rep ⟨(by first | exact congrArg (fun b => some (aBool b)) (decide_eq_true (by unfold cutBad; omega)).symm | exact congrArg (fun b => some (aBool b)) (decide_eq_decide.2 (by unfold cutBad; omega))), trivial⟩ rfl
      · refine ent_guardF rfl rfl rfl rfl (decide_eq_true hg16) ?_
        refine ent_o rfl (ok_pickT rfl (decide_eq_true hg16) rfl) ?_
        refine ent_o rfl (ok_move rfl) ?_
        refine ent_guardF rfl rfl rfl rfl rfl ?_
        refine ent_guardF rfl rfl rfl rfl rfl ?_
        refine ent_o rfl (ok_pickT rfl rfl rfl) ?_
        refine ent_o rfl (ok_move rfl) ?_
        refine ent_guardF rfl rfl rfl rfl rfl ?_
        refine ent_guardF rfl rfl rfl rfl rfl ?_
        refine ent_o rfl (ok_pickT rfl rfl rfl) ?_
        refine ent_o rfl (ok_move rfl) ?_
        refine ent_guardF rfl rfl rfl rfl rfl ?_
        refine ent_guardF rfl rfl rfl rfl rfl ?_
        refine ent_o rfl (ok_pickT rfl rfl rfl) ?_
        refine ent_o rfl (ok_move rfl) ?_
        refine ent_guardF rfl rfl rfl rfl rfl ?_
        refine ent_guardF rfl rfl rfl rfl rfl ?_
        refine ent_o rfl (ok_pickT rfl rfl rfl) ?_
        refine ent_nil ?_
        exact ent_rep ⟨(by first | exact congrArg (fun b => some (aBool b)) (decide_eq_true (by unfold cutBad; omega)).symm | exact congrArg (fun b => some (aBool b)) (decide_eq_decide.2 (by unfold cutBad; omega))), trivial⟩ rfl
    · refine ent_guardF rfl rfl rfl rfl (decide_eq_true hg11) ?_
      refine ent_guardF rfl rfl rfl rfl (decide_eq_true hg11) ?_
      refine ent_o rfl (ok_pickT rfl (decide_eq_true hg11) rfl) ?_
      refine ent_o rfl (ok_move rfl) ?_
      refine ent_guardF rfl rfl rfl rfl rfl ?_
      refine ent_guardF rfl rfl rfl rfl rfl ?_
      refine ent_o rfl (ok_pickT rfl rfl rfl) ?_
      refine ent_o rfl (ok_move rfl) ?_
      refine ent_guardF rfl rfl rfl rfl rfl ?_
      refine ent_guardF rfl rfl rfl rfl rfl ?_
      refine ent_o rfl (ok_pickT rfl rfl rfl) ?_
      refine ent_o rfl (ok_move rfl) ?_
      refine ent_guardF rfl rfl rfl rfl rfl ?_
      refine ent_guardF rfl rfl rfl rfl rfl ?_
      refine ent_o rfl (ok_pickT rfl rfl rfl) ?_
      refine ent_o rfl (ok_move rfl) ?_
      refine ent_guardF rfl rfl rfl rfl rfl ?_
      refine ent_guardF rfl rfl rfl rfl rfl ?_
      refine ent_o rfl (ok_pickT rfl rfl rfl) ?_
      refine ent_o rfl (ok_move rfl) ?_
      refine ent_guardF rfl rfl rfl rfl rfl ?_
      refine ent_guardF rfl rfl rfl rfl rfl ?_
      refine ent_o rfl (ok_pickT rfl rfl rfl) ?_
      refine ent_nil ?_
      exact ent_rep ⟨(by first | exact congrArg (fun b => some (aBool b)) (decide_eq_true (by unfold cutBad; omega)).symm | exact congrArg (fun b => some (aBool b)) (decide_eq_decide.2 (by unfold cutBad; omega))), trivial⟩ rfl
  refine ent_k hK3 ?_
  refine ent_condD rfl (fun h35 => ?_) (fun h35 => ?_)
  · refine ent_seq fun K4 hK4 => ?_
    refine ent_region ?_
    refine ent_o rfl (ok_assign rfl) ?_
    refine ent_nil ?_
    refine ent_k hK4 ?_
    refine ent_ret ?_
    exact ret1 (.inr rfl) Try.results17 (res_int rfl (by rw [if_pos h35]))
  · refine ent_skip ?_
    refine ent_k hK2 ?_
    refine ent_seq fun K5 hK5 => ?_
    refine ent_region ?_
    refine ent_o rfl (ok_assign rfl) ?_
    refine ent_nil ?_
    refine ent_k hK5 ?_
    refine ent_ret ?_
    exact ret1 (.inr rfl) Try.results17 (res_int rfl (by rw [if_neg h35]))

theorem RefCut_ok (k d a b : Int) (hcb : ¬ cutBad k d a b) : Ctr Try.prog 18 [aInt k, aInt d, aInt a, aInt b] (aInt (cutSum d a b k.toNat)) := by
  have hcb2 := hcb
  unfold cutBad at hcb2
  refine ctr_of Try.call18 Try.func18 rfl rfl ?_
  intro w O
  refine ent_seq fun K1 hK1 => ?_
  refine ent_region ?_
  refine ent_o rfl (ok_assign rfl) ?_
  refine ent_nil ?_
  refine ent_k hK1 ?_
  refine ent_seq fun K2 hK2 => ?_
  refine ent_region ?_
  refine ent_o rfl (ok_assign rfl) ?_
  refine ent_nil ?_
  refine ent_k hK2 ?_
  refine ent_seq fun K3 hK3 => ?_
  refine ent_seq fun K4 hK4 => ?_
  refine ent_region ?_
  refine ent_o rfl (ok_assign rfl) ?_
  refine ent_nil ?_
  refine ent_k hK4 ?_
  refine ent_block ?_
  refine ent_loop (fun (i : Int) => (⟨[(0, aInt k), (1, aInt d), (2, aInt a), (3, aInt b), (9, aInt (cutSum d a b i.toNat)), (10, aInt i)], []⟩ : St)) (fun (i : Int) => 0 ≤ i ∧ i ≤ k) (fun (i : Int) => (k - i).toNat) 0 (⟨by omega, by omega⟩) (ent_rep ⟨rfl, rfl, rfl, rfl, rfl, rfl, trivial⟩ rfl) ?_
  rintro i ⟨hi0, hi1⟩
  show Ent _ (⟨[(0, aInt k), (1, aInt d), (2, aInt a), (3, aInt b), (9, aInt (cutSum d a b i.toNat)), (10, aInt i)], []⟩ : St) _
  refine ent_seq fun K5 hK5 => ?_
  refine ent_seq fun K6 hK6 => ?_
  refine ent_region ?_
  refine ent_o rfl (ok_move rfl) ?_
  refine ent_o rfl (ok_move rfl) ?_
  refine ent_o rfl (ok_lss rfl rfl) ?_
  refine ent_nil ?_
  refine ent_k hK6 ?_
  refine ent_condD rfl (fun h13 => ?_) (fun h13 => ?_)
  · obtain ⟨⟨m1, m2⟩, ⟨m3, m4⟩, m5, m6⟩ := cut_step k d a b i hcb hi0 h13
    have hs := cutSum_succ d a b i hi0
    refine ent_skip ?_
    refine ent_k hK5 ?_
    refine ent_seq fun K7 hK7 => ?_
    refine ent_block ?_
    refine ent_region ?_
    refine ent_o rfl (ok_move rfl) ?_
    refine ent_o rfl (ok_move rfl) ?_
    refine ent_o rfl (ok_move rfl) ?_
    refine ent_o rfl (ok_move rfl) ?_
    refine ent_o rfl (ok_sub rfl rfl (by omega) (by omega)) ?_
    refine ent_o rfl (ok_move rfl) ?_
    refine ent_o rfl (ok_mul rfl rfl (by omega) (by omega)) ?_
    refine ent_o rfl (ok_min rfl rfl) ?_
    refine ent_o rfl (ok_add rfl rfl (by omega) (by omega)) ?_
    refine ent_o rfl (ok_assign rfl) ?_
    refine ent_nil ?_
    refine ent_k hK7 ?_
    refine ent_region ?_
    refine ent_o rfl (ok_move rfl) ?_
    refine ent_o rfl (ok_add rfl rfl (by omega) (by omega)) ?_
    refine ent_o rfl (ok_assign rfl) ?_
    refine ent_nil ?_
    refine ent_again (i + 1) (⟨by omega, by omega⟩) (by omega) (ent_rep ⟨rfl, rfl, rfl, rfl, (by rw [hs]; rfl), rfl, trivial⟩ rfl)
  · refine ent_exit ?_
    refine ent_k hK3 ?_
    refine ent_seq fun K8 hK8 => ?_
    refine ent_region ?_
    refine ent_o rfl (ok_move rfl) ?_
    refine ent_o rfl (ok_assign rfl) ?_
    refine ent_nil ?_
    refine ent_k hK8 ?_
    refine ent_ret ?_
    exact ret1 (.inr rfl) Try.results18 (res_int rfl (by rw [show i = k by omega]))

theorem RegenerateCuts_ok (k d a b : Int)  : Ctr Try.prog 3 [aInt k, aInt d, aInt a, aInt b] (aBool true) := by
  refine ctr_of Try.call3 Try.func3 rfl rfl ?_
  intro w O
  refine ent_seq fun K1 hK1 => ?_
  refine ent_region ?_
  refine ent_o rfl (ok_assign rfl) ?_
  refine ent_nil ?_
  refine ent_k hK1 ?_
  refine ent_seq fun K2 hK2 => ?_
  refine ent_region ?_
  refine ent_o rfl (ok_move rfl) ?_
  refine ent_o rfl (ok_move rfl) ?_
  refine ent_o rfl (ok_move rfl) ?_
  refine ent_o rfl (ok_move rfl) ?_
  refine ent_o rfl (ok_call (Cut_ok _ _ _ _) rfl) ?_
  refine ent_o rfl (ok_move rfl) ?_
  refine ent_o rfl (ok_extract rfl rfl) ?_
  refine ent_o rfl (ok_extract rfl rfl) ?_
  refine ent_o rfl (ok_assign rfl) ?_
  refine ent_o rfl (ok_assign rfl) ?_
  refine ent_nil ?_
  refine ent_k hK2 ?_
  refine ent_seq fun K3 hK3 => ?_
  refine ent_seq fun K4 hK4 => ?_
  refine ent_region ?_
  refine ent_o rfl (ok_move rfl) ?_
  refine ent_o rfl (ok_move rfl) ?_
  refine ent_o rfl (ok_move rfl) ?_
  refine ent_o rfl (ok_move rfl) ?_
  refine ent_o rfl (ok_call (CutArgs_ok _ _ _ _) rfl) ?_
  refine ent_o rfl (ok_neq rfl rfl) ?_
  refine ent_nil ?_
  refine ent_k hK4 ?_
  refine ent_condD rfl (fun h24 => ?_) (fun h24 => ?_)
  · have hb : cutBad k d a b := by by_cases h : cutBad k d a b; exact h; rw [if_neg h] at h24; exact absurd rfl h24
    refine ent_seq fun K5 hK5 => ?_
    refine ent_region ?_
    refine ent_o rfl (ok_move rfl) ?_
    refine ent_o rfl (ok_eql rfl rfl) ?_
    refine ent_o rfl (ok_move rfl) ?_
    refine ent_guardDt rfl rfl rfl rfl (fun hg27 => ?_) (fun hg27 => ?_)
    · refine ent_o rfl (ok_move rfl) ?_
      refine ent_guardT rfl rfl rfl rfl (decide_eq_true hg27) ?_
      refine ent_o rfl (ok_eql rfl rfl) ?_
      refine ent_o rfl (ok_pickT rfl (decide_eq_true hg27) rfl) ?_
      refine ent_o rfl (ok_assign rfl) ?_
      refine ent_nil ?_
      refine ent_k hK5 ?_
      refine ent_ret ?_
      exact ret1 (.inr rfl) Try.results3 (res_bool rfl (by simp_all))
    · refine ent_guardF rfl rfl rfl rfl (decide_eq_false hg27) ?_
      refine ent_o rfl (ok_pickF rfl (decide_eq_false hg27) rfl) ?_
      refine ent_o rfl (ok_assign rfl) ?_
      refine ent_nil ?_
      refine ent_k hK5 ?_
      refine ent_ret ?_
      exact ret1 (.inr rfl) Try.results3 (res_bool rfl (by simp_all))
  · have hb : ¬ cutBad k d a b := by intro h; rw [if_pos h] at h24; exact h24 (by decide)
    refine ent_skip ?_
    refine ent_k hK3 ?_
    refine ent_seq fun K6 hK6 => ?_
    refine ent_region ?_
    refine ent_o rfl (ok_move rfl) ?_
    refine ent_o rfl (ok_eql rfl rfl) ?_
    refine ent_o rfl (ok_move rfl) ?_
    refine ent_guardDt rfl rfl rfl rfl (fun hg33 => ?_) (fun hg33 => ?_)
    · refine ent_o rfl (ok_move rfl) ?_
      refine ent_guardT rfl rfl rfl rfl (decide_eq_true hg33) ?_
      refine ent_o rfl (ok_move rfl) ?_
      refine ent_guardT rfl rfl rfl rfl (decide_eq_true hg33) ?_
      refine ent_o rfl (ok_move rfl) ?_
      refine ent_guardT rfl rfl rfl rfl (decide_eq_true hg33) ?_
      refine ent_o rfl (ok_move rfl) ?_
      refine ent_guardT rfl rfl rfl rfl (decide_eq_true hg33) ?_
      refine ent_o rfl (ok_move rfl) ?_
      refine ent_guardT rfl rfl rfl rfl (decide_eq_true hg33) ?_
      refine ent_o rfl (ok_call (RefCut_ok _ _ _ _ (by assumption)) rfl) ?_
      refine ent_guardT rfl rfl rfl rfl (decide_eq_true hg33) ?_
      refine ent_o rfl (ok_eql rfl rfl) ?_
      refine ent_o rfl (ok_pickT rfl (decide_eq_true hg33) rfl) ?_
      refine ent_o rfl (ok_assign rfl) ?_
      refine ent_nil ?_
      refine ent_k hK6 ?_
      refine ent_ret ?_
      exact ret1 (.inr rfl) Try.results3 (res_bool rfl (by simp_all))
    · refine ent_guardF rfl rfl rfl rfl (decide_eq_false hg33) ?_
      refine ent_guardF rfl rfl rfl rfl (decide_eq_false hg33) ?_
      refine ent_guardF rfl rfl rfl rfl (decide_eq_false hg33) ?_
      refine ent_guardF rfl rfl rfl rfl (decide_eq_false hg33) ?_
      refine ent_guardF rfl rfl rfl rfl (decide_eq_false hg33) ?_
      refine ent_guardF rfl rfl rfl rfl (decide_eq_false hg33) ?_
      refine ent_o rfl (ok_pickF rfl (decide_eq_false hg33) rfl) ?_
      refine ent_o rfl (ok_assign rfl) ?_
      refine ent_nil ?_
      refine ent_k hK6 ?_
      refine ent_ret ?_
      exact ret1 (.inr rfl) Try.results3 (res_bool rfl (by simp_all))
end Go.Proofs.Ytaipghchkamajaa
