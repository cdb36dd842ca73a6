/-
  Walks of functions of the program and the reference.
-/
import Derived.Test.YtbofipdmoocflaaProg
import Derived.Test.YtbofipdmoocflaaXTab
import Derived.Test.YtbofipdmoocflaaPlainJ1
import Derived.Test.YtbofipdmoocflaaCiLib
import Derived.Test.YtbofipdmoocflaaX4
import Derived.Test.YtbofipdmoocflaaX5
import Derived.Test.YtbofipdmoocflaaX6
import Derived.Test.YtbofipdmoocflaaX9
import Derived.Test.YtbofipdmoocflaaX1
import Derived.Test.YtbofipdmoocflaaX10
import Derived.Test.YtbofipdmoocflaaX11
import Derived.Test.YtbofipdmoocflaaX12
import Derived.Test.YtbofipdmoocflaaX13
import Derived.Test.YtbofipdmoocflaaX14
import Derived.Test.YtbofipdmoocflaaX15
import Derived.Test.YtbofipdmoocflaaX18
import Derived.Test.YtbofipdmoocflaaX19
import Derived.Test.YtbofipdmoocflaaX20
import Derived.Test.YtbofipdmoocflaaX30
import Derived.Test.YtbofipdmoocflaaX31
import Derived.Test.YtbofipdmoocflaaX32
open Go Go.Cw
namespace Go.Proofs.Ytbofipdmoocflaa
set_option maxRecDepth 100000
set_option linter.unusedVariables false
set_option linter.unusedSimpArgs false
theorem weight_ok (a : List Int)  : Ctr Try.prog 53 [aSl 1 false aInt a] (aInt (wt a)) := by
 refine ctr_of Try.call53 Try.func53 rfl rfl ?_
 intro w O
 refine ent_len 0 rfl (fun hlen0 => ?_)
 refine esk rfl ?_
 refine esk rfl ?_
 refine ent_seq fun _ K3 => ?_
 refine esr rfl fun _ K4 => ?_
 refine ent_o rfl (ok_len rfl Try.runUnderlying22 rfl) ?_
 refine emm rfl ?_
 refine enk K4 ?_
 refine ent_block ?_
 refine ent_loop (fun (i : Int) => (⟨[(3, aInt (dstTo a [] i.toNat)), (6, aSl 1 false aInt a), (7, aInt (↑a.length : Int)), (8, aInt i)], []⟩ : St)) (fun (i : Int) => (0 ≤ i) ∧ (i ≤ a.length)) (fun (i : Int) => (a.length - i).toNat) 0 ⟨(by first | rfl | assumption | omega | (simp_all; done) | grind), (by first | rfl | assumption | omega | (simp_all; done) | grind)⟩ (ent_rep ⟨slot_av (av_int (show 0 = dstTo a [] (0 : Int).toNat by rfl)), rfl, rfl, slot_av (av_int (show 0 = (0 : Int) by first | rfl | assumption | omega | (simp_all; done) | grind)), trivial⟩ rfl) ?_
 rintro i ⟨h0, h1⟩
 show Ent _ ⟨_, []⟩ _
 have hdb := dstTo_bd a [] i.toNat
 refine esr rfl fun _ K5 => ?_
 refine ent_o rfl (ok_lss rfl rfl) ?_
 refine enk K5 ?_
 refine ent_seq fun _ K6 => ?_
 refine ent_condD rfl (fun h9 => ?_) (fun h9 => ?_)
 ·refine esp K6 ?_
  refine ent_seq fun _ K7 => ?_
  refine ent_block ?_
  refine esr rfl fun _ K8 => ?_
  refine ent_o rfl (ok_index 0 sl22 rfl rfl (by omega) (by omega)) ?_
  refine ent_o rfl (ok_load ti3 rfl) ?_
  refine emm rfl ?_
  refine enk K8 ?_
  refine esr rfl fun _ K9 => ?_
  refine ent_o rfl (ok_neq rfl rfl) ?_
  refine enk K9 ?_
  refine ent_condD rfl (fun h13 => ?_) (fun h13 => ?_)
  ·refine ent_region ?_
   refine emm rfl ?_
   refine ent_o rfl (ok_add rfl rfl (by omega) (by omega)) ?_
   refine emm rfl ?_
   refine enk K7 ?_
   refine ent_region ?_
   refine ent_o rfl (ok_add rfl rfl (by omega) (by omega)) ?_
   refine emm rfl ?_
   refine ent_nil ?_
   refine ent_again (s := (i)) (i + 1) ⟨(by first | rfl | assumption | omega | (simp_all; done) | grind), (by first | rfl | assumption | omega | (simp_all; done) | grind)⟩ (by first | omega | (dsimp only; omega)) (ent_rep ⟨slot_av (av_int (show (dstTo a [] i.toNat) + 1 = dstTo a [] (i + 1).toNat by first | exact dstTo_yes h0 (by rw [ix_nilI]; exact h13) | exact dstTo_no h0 (by rw [ix_nilI]; exact h13))), rfl, rfl, rfl, trivial⟩ rfl)
  ·refine esp K7 ?_
   refine ent_region ?_
   refine ent_o rfl (ok_add rfl rfl (by omega) (by omega)) ?_
   refine emm rfl ?_
   refine ent_nil ?_
   refine ent_again (s := (i)) (i + 1) ⟨(by first | rfl | assumption | omega | (simp_all; done) | grind), (by first | rfl | assumption | omega | (simp_all; done) | grind)⟩ (by first | omega | (dsimp only; omega)) (ent_rep ⟨slot_av (av_int (show dstTo a [] i.toNat = dstTo a [] (i + 1).toNat by first | exact dstTo_yes h0 (by rw [ix_nilI]; exact h13) | exact dstTo_no h0 (by rw [ix_nilI]; exact h13))), rfl, rfl, rfl, trivial⟩ rfl)
 ·refine ent_exit ?_
  refine ent_k K3 ?_
  refine esk rfl ?_
  refine ent_ret ?_
  exact retR1 (.inr rfl) Try.results53 (resr_tmp (res_cv rfl (cv_int (by unfold wt; rw [show i.toNat = a.length by omega]))))

theorem rDistance_ok (a b : List Int)  : Ctr Try.prog 31 [aSl 1 false aInt a, aSl 1 false aInt b] (aInt (dst a b)) := by
 refine ctr_of Try.call31 Try.func31 rfl rfl ?_
 intro w O
 refine ent_len 0 rfl (fun hlen0 => ?_)
 refine ent_len 1 rfl (fun hlen1 => ?_)
 refine esk rfl ?_
 refine esk rfl ?_
 refine ent_seq fun _ K3 => ?_
 refine esk rfl ?_
 refine ent_block ?_
 refine ent_loop (fun (i : Int) => (⟨[(0, aSl 1 false aInt a), (1, aSl 1 false aInt b), (5, aInt (dstTo a b i.toNat)), (6, aInt i)], []⟩ : St)) (fun (i : Int) => (0 ≤ i) ∧ (i ≤ a.length) ∧ (i ≤ b.length)) (fun (i : Int) => (a.length - i).toNat) 0 ⟨(by first | rfl | assumption | omega | (simp_all; done) | grind), (by first | rfl | assumption | omega | (simp_all; done) | grind), (by first | rfl | assumption | omega | (simp_all; done) | grind)⟩ (ent_rep ⟨rfl, rfl, slot_av (av_int (show 0 = dstTo a b (0 : Int).toNat by rfl)), slot_av (av_int (show 0 = (0 : Int) by first | rfl | assumption | omega | (simp_all; done) | grind)), trivial⟩ rfl) ?_
 rintro i ⟨h0, h1, h2⟩
 show Ent _ ⟨_, []⟩ _
 have hdb := dstTo_bd a b i.toNat
 refine ent_seq fun _ K5 => ?_
 refine ent_seq fun _ K6 => ?_
 refine ent_cut (⟨[(0, aSl 1 false aInt a), (1, aSl 1 false aInt b), (5, aInt (dstTo a b i.toNat)), (6, aInt i), (16, aBool (decide ((i < (↑a.length : Int)) ∧ (i < (↑b.length : Int)))))], []⟩) ?_ ?_
 ·refine ent_region ?_
  refine emm rfl ?_
  refine ent_o rfl (ok_len rfl Try.runUnderlying22 rfl) ?_
  refine ent_o rfl (ok_lss rfl rfl) ?_
  refine emm rfl ?_
  refine ent_guardXDt rfl rfl rfl rfl (fun hg11 => ?_) (fun hg11 => ?_)
  ·refine emm rfl ?_
   refine ent_guardXT rfl rfl rfl rfl (decide_eq_true hg11) ?_
   refine emm rfl ?_
   refine ent_guardXT rfl rfl rfl rfl (decide_eq_true hg11) ?_
   refine ent_o rfl (ok_len rfl Try.runUnderlying22 rfl) ?_
   refine ent_guardXT rfl rfl rfl rfl (decide_eq_true hg11) ?_
   refine ent_o rfl (ok_lss rfl rfl) ?_
   refine ent_o rfl (ok_pickT rfl (decide_eq_true hg11) rfl) ?_
   refine ent_nil ?_
   exact ent_rep ⟨rfl, rfl, rfl, rfl, slot_bool (dq_Q ((and_iff_right hg11).trans Iff.rfl)), trivial⟩ rfl
  ·refine ent_guardXF rfl rfl rfl rfl (decide_eq_false hg11) ?_
   refine ent_guardXF rfl rfl rfl rfl (decide_eq_false hg11) ?_
   refine ent_guardXF rfl rfl rfl rfl (decide_eq_false hg11) ?_
   refine ent_o rfl (ok_pickF rfl (decide_eq_false hg11) rfl) ?_
   refine ent_nil ?_
   exact ent_rep ⟨rfl, rfl, rfl, rfl, slot_bool (dq_F rfl (fun h => hg11 h.1)), trivial⟩ rfl
 refine ent_k K6 ?_
 refine ent_condD rfl (fun h16 => ?_) (fun h16 => ?_)
 ·refine esp K5 ?_
  refine ent_seq fun _ K7 => ?_
  refine ent_block ?_
  refine ent_seq fun _ K8 => ?_
  refine ent_draw 9 mixed (by kernel_rfl) (by kernel_rfl) (by kernel_rfl) ?_
  refine dw_o rfl (ok_move rfl) ?_
  refine dw_o rfl (ok_move rfl) ?_
  refine dw_o rfl (ok_index 0 sl22 rfl rfl (by omega) (by omega)) ?_
  refine dw_o rfl (ok_load ti3 rfl) ?_
  refine dw_o rfl (ok_move rfl) ?_
  refine dw_o rfl (ok_move rfl) ?_
  refine dw_o rfl (ok_index 0 sl22 rfl rfl (by omega) (by omega)) ?_
  refine dw_o rfl (ok_load ti3 rfl) ?_
  refine dw_o rfl (ok_neq rfl rfl) ?_
  refine dw_nil ?_
  refine enk K8 ?_
  refine ent_condD rfl (fun h27 => ?_) (fun h27 => ?_)
  ·refine ent_region ?_
   refine emm rfl ?_
   refine ent_o rfl (ok_add rfl rfl (by omega) (by omega)) ?_
   refine emm rfl ?_
   refine enk K7 ?_
   refine ent_region ?_
   refine emm rfl ?_
   refine ent_o rfl (ok_add rfl rfl (by omega) (by omega)) ?_
   refine emm rfl ?_
   refine ent_nil ?_
   refine ent_again (s := (i)) (i + 1) ⟨(by first | rfl | assumption | omega | (simp_all; done) | grind), (by first | rfl | assumption | omega | (simp_all; done) | grind), (by first | rfl | assumption | omega | (simp_all; done) | grind)⟩ (by first | omega | (dsimp only; omega)) (ent_rep ⟨rfl, rfl, slot_av (av_int (show (dstTo a b i.toNat) + 1 = dstTo a b (i + 1).toNat by first | exact dstTo_yes h0 h27 | exact dstTo_no h0 h27)), rfl, trivial⟩ rfl)
  ·refine esp K7 ?_
   refine ent_region ?_
   refine emm rfl ?_
   refine ent_o rfl (ok_add rfl rfl (by omega) (by omega)) ?_
   refine emm rfl ?_
   refine ent_nil ?_
   refine ent_again (s := (i)) (i + 1) ⟨(by first | rfl | assumption | omega | (simp_all; done) | grind), (by first | rfl | assumption | omega | (simp_all; done) | grind), (by first | rfl | assumption | omega | (simp_all; done) | grind)⟩ (by first | omega | (dsimp only; omega)) (ent_rep ⟨rfl, rfl, slot_av (av_int (show dstTo a b i.toNat = dstTo a b (i + 1).toNat by first | exact dstTo_yes h0 h27 | exact dstTo_no h0 h27)), rfl, trivial⟩ rfl)
 ·refine ent_exit ?_
  refine ent_k K3 ?_
  refine esk rfl ?_
  refine ent_ret ?_
  exact retR1 (.inr rfl) Try.results31 (resr_tmp (res_cv rfl (cv_int (by unfold dst; rw [show i.toNat = min a.length b.length by omega]))))

theorem rCompare_ok (a b : List Int)  : Ctr Try.prog 55 [aSl 1 false aInt a, aSl 1 false aInt b] (aInt (cmpL a b)) := by
 refine ctr_of Try.call55 Try.func55 rfl rfl ?_
 intro w O
 refine ent_len 0 rfl (fun hlen0 => ?_)
 refine ent_len 1 rfl (fun hlen1 => ?_)
 refine esk rfl ?_
 refine ent_seq fun _ K2 => ?_
 refine esk rfl ?_
 refine ent_block ?_
 refine ent_loop (fun (i : Int) => (⟨[(0, aSl 1 false aInt a), (1, aSl 1 false aInt b), (5, aInt i)], []⟩ : St)) (fun (i : Int) => (0 ≤ i) ∧ (i ≤ a.length) ∧ (i ≤ b.length) ∧ (∀ j : Int, 0 ≤ j → j < i → ix 0 a j = ix 0 b j)) (fun (i : Int) => (a.length - i).toNat) 0 ⟨(by first | rfl | assumption | omega | (simp_all; done) | grind), (by first | rfl | assumption | omega | (simp_all; done) | grind), (by first | rfl | assumption | omega | (simp_all; done) | grind), (fun j j0 j1 => by omega)⟩ (ent_rep ⟨rfl, rfl, slot_av (av_int (show 0 = (0 : Int) by first | rfl | assumption | omega | (simp_all; done) | grind)), trivial⟩ rfl) ?_
 rintro i ⟨h0, h1, h2, hn⟩
 show Ent _ ⟨_, []⟩ _
 refine ent_seq fun _ K4 => ?_
 refine ent_seq fun _ K5 => ?_
 refine ent_cut (⟨[(0, aSl 1 false aInt a), (1, aSl 1 false aInt b), (5, aInt i), (15, aBool (decide ((i < (↑a.length : Int)) ∧ (i < (↑b.length : Int)))))], []⟩) ?_ ?_
 ·refine ent_region ?_
  refine emm rfl ?_
  refine ent_o rfl (ok_len rfl Try.runUnderlying22 rfl) ?_
  refine ent_o rfl (ok_lss rfl rfl) ?_
  refine emm rfl ?_
  refine ent_guardXDt rfl rfl rfl rfl (fun hg10 => ?_) (fun hg10 => ?_)
  ·refine emm rfl ?_
   refine ent_guardXT rfl rfl rfl rfl (decide_eq_true hg10) ?_
   refine emm rfl ?_
   refine ent_guardXT rfl rfl rfl rfl (decide_eq_true hg10) ?_
   refine ent_o rfl (ok_len rfl Try.runUnderlying22 rfl) ?_
   refine ent_guardXT rfl rfl rfl rfl (decide_eq_true hg10) ?_
   refine ent_o rfl (ok_lss rfl rfl) ?_
   refine ent_o rfl (ok_pickT rfl (decide_eq_true hg10) rfl) ?_
   refine ent_nil ?_
   exact ent_rep ⟨rfl, rfl, rfl, slot_bool (dq_Q ((and_iff_right hg10).trans Iff.rfl)), trivial⟩ rfl
  ·refine ent_guardXF rfl rfl rfl rfl (decide_eq_false hg10) ?_
   refine ent_guardXF rfl rfl rfl rfl (decide_eq_false hg10) ?_
   refine ent_guardXF rfl rfl rfl rfl (decide_eq_false hg10) ?_
   refine ent_o rfl (ok_pickF rfl (decide_eq_false hg10) rfl) ?_
   refine ent_nil ?_
   exact ent_rep ⟨rfl, rfl, rfl, slot_bool (dq_F rfl (fun h => hg10 h.1)), trivial⟩ rfl
 refine ent_k K5 ?_
 refine ent_condD rfl (fun h15 => ?_) (fun h15 => ?_)
 ·refine esp K4 ?_
  refine ent_seq fun _ K6 => ?_
  refine ent_block ?_
  refine ent_seq fun _ K7 => ?_
  refine ent_seq fun _ K8 => ?_
  refine ent_draw 9 mixed (by kernel_rfl) (by kernel_rfl) (by kernel_rfl) ?_
  refine dw_o rfl (ok_move rfl) ?_
  refine dw_o rfl (ok_move rfl) ?_
  refine dw_o rfl (ok_index 0 sl22 rfl rfl (by omega) (by omega)) ?_
  refine dw_o rfl (ok_load ti3 rfl) ?_
  refine dw_o rfl (ok_move rfl) ?_
  refine dw_o rfl (ok_move rfl) ?_
  refine dw_o rfl (ok_index 0 sl22 rfl rfl (by omega) (by omega)) ?_
  refine dw_o rfl (ok_load ti3 rfl) ?_
  refine dw_o rfl (ok_lss rfl rfl) ?_
  refine dw_nil ?_
  refine enk K8 ?_
  refine ent_condD rfl (fun h26 => ?_) (fun h26 => ?_)
  ·refine esk rfl ?_
   refine ent_ret ?_
   exact retR1 (.inr rfl) Try.results55 (resr_tmp (res_cv rfl (cv_int (by exact (cmpL_lt hn h0 (by omega) (by omega) h26).symm))))
  ·refine esp K7 ?_
   refine ent_seq fun _ K10 => ?_
   refine ent_draw 9 mixed (by kernel_rfl) (by kernel_rfl) (by kernel_rfl) ?_
   refine dw_o rfl (ok_move rfl) ?_
   refine dw_o rfl (ok_move rfl) ?_
   refine dw_o rfl (ok_index 0 sl22 rfl rfl (by omega) (by omega)) ?_
   refine dw_o rfl (ok_load ti3 rfl) ?_
   refine dw_o rfl (ok_move rfl) ?_
   refine dw_o rfl (ok_move rfl) ?_
   refine dw_o rfl (ok_index 0 sl22 rfl rfl (by omega) (by omega)) ?_
   refine dw_o rfl (ok_load ti3 rfl) ?_
   refine dw_o rfl (ok_gtr rfl rfl) ?_
   refine dw_nil ?_
   refine enk K10 ?_
   refine ent_condD rfl (fun h35 => ?_) (fun h35 => ?_)
   ·refine esk rfl ?_
    refine ent_ret ?_
    exact retR1 (.inr rfl) Try.results55 (resr_tmp (res_cv rfl (cv_int (by exact (cmpL_gt hn h0 (by omega) (by omega) h35).symm))))
   ·refine esp K6 ?_
    refine ent_region ?_
    refine emm rfl ?_
    refine ent_o rfl (ok_add rfl rfl (by omega) (by omega)) ?_
    refine emm rfl ?_
    refine ent_nil ?_
    refine ent_again (s := (i)) (i + 1) ⟨(by first | rfl | assumption | omega | (simp_all; done) | grind), (by first | rfl | assumption | omega | (simp_all; done) | grind), (by first | rfl | assumption | omega | (simp_all; done) | grind), (fun j j0 j1 => by by_cases hj : j = i; (rw [hj]; omega); exact hn j j0 (by omega))⟩ (by first | omega | (dsimp only; omega)) (ent_rep ⟨rfl, rfl, rfl, trivial⟩ rfl)
 ·refine ent_exit ?_
  refine ent_k K2 ?_
  refine ent_seq fun _ K12 => ?_
  refine esr rfl fun _ K13 => ?_
  refine ent_o rfl (ok_len rfl Try.runUnderlying22 rfl) ?_
  refine emm rfl ?_
  refine ent_o rfl (ok_len rfl Try.runUnderlying22 rfl) ?_
  refine ent_o rfl (ok_lss rfl rfl) ?_
  refine enk K13 ?_
  refine ent_condD rfl (fun h40 => ?_) (fun h40 => ?_)
  ·refine esk rfl ?_
   refine ent_ret ?_
   exact retR1 (.inr rfl) Try.results55 (resr_tmp (res_cv rfl (cv_int (by rw [cmpL_end hn h0 h1 h2 (by omega), if_pos (by omega)]))))
  ·refine esp K12 ?_
   refine ent_seq fun _ K15 => ?_
   refine esr rfl fun _ K16 => ?_
   refine ent_o rfl (ok_len rfl Try.runUnderlying22 rfl) ?_
   refine emm rfl ?_
   refine ent_o rfl (ok_len rfl Try.runUnderlying22 rfl) ?_
   refine ent_o rfl (ok_gtr rfl rfl) ?_
   refine enk K16 ?_
   refine ent_condD rfl (fun h45 => ?_) (fun h45 => ?_)
   ·refine esk rfl ?_
    refine ent_ret ?_
    exact retR1 (.inr rfl) Try.results55 (resr_tmp (res_cv rfl (cv_int (by rw [cmpL_end hn h0 h1 h2 (by omega), if_neg (by omega), if_pos (by omega)]))))
   ·refine esp K15 ?_
    refine esk rfl ?_
    refine ent_ret ?_
    exact retR1 (.inr rfl) Try.results55 (resr_tmp (res_cv rfl (cv_int (by rw [cmpL_end hn h0 h1 h2 (by omega), if_neg (by omega), if_neg (by omega)]))))

theorem rSame_ok (a b : List Int)  : Ctr Try.prog 18 [aSl 1 false aInt a, aSl 1 false aInt b] (aBool (decide (a = b))) := by
 refine ctr_of Try.call18 Try.func18 rfl rfl ?_
 intro w O
 refine ent_len 0 rfl (fun hlen0 => ?_)
 refine ent_len 1 rfl (fun hlen1 => ?_)
 refine esk rfl ?_
 refine esr rfl fun _ K2 => ?_
 refine ent_o rfl (ok_call (rCompare_ok a b) rfl) ?_
 refine ent_o rfl (ok_eql rfl rfl) ?_
 refine emm rfl ?_
 refine enk K2 ?_
 refine ent_ret ?_
 exact retR1 (.inr rfl) Try.results18 (resr_tmp (res_cv rfl (cv_bool (by exact decide_eq_decide.2 cmpL_zero))))

theorem rExp_ok (q k m : Int) (hq : 2 ≤ q) (hq2 : q ≤ 65536) (hk : 0 ≤ k) (hk2 : k ≤ 9223372036854775806) (hm : 1 ≤ m) (hm2 : m ≤ 1000000) : Ctr Try.prog 56 [aInt q, aInt k, aInt m] (aTup [aInt (expF q k m), aInt (expE q k m)]) := by
 refine ctr_of Try.call56 Try.func56 rfl rfl ?_
 intro w O
 refine esk rfl ?_
 refine ent_seq fun _ K2 => ?_
 refine ent_seq fun _ K3 => ?_
 refine ent_cut (⟨[(0, aInt q), (1, aInt k), (2, aInt m), (19, aBool (decide (((q < 0) ∨ (k < 0)) ∨ (m < 0))))], []⟩) ?_ ?_
 ·refine ent_region ?_
  refine emm rfl ?_
  refine ent_o rfl (ok_lss rfl rfl) ?_
  refine emm rfl ?_
  refine ent_guardXDf rfl rfl rfl rfl (fun hg12 => ?_) (fun hg12 => ?_)
  ·refine emm rfl ?_
   refine ent_guardXT rfl rfl rfl rfl (decide_eq_false hg12) ?_
   refine ent_o rfl (ok_lss rfl rfl) ?_
   refine ent_o rfl (ok_pickF rfl (decide_eq_false hg12) rfl) ?_
   refine emm rfl ?_
   refine ent_guardXDf rfl rfl rfl rfl (fun hg16 => ?_) (fun hg16 => ?_)
   ·refine emm rfl ?_
    refine ent_guardXT rfl rfl rfl rfl (decide_eq_false hg16) ?_
    refine ent_o rfl (ok_lss rfl rfl) ?_
    refine ent_o rfl (ok_pickF rfl (decide_eq_false hg16) rfl) ?_
    refine ent_nil ?_
    exact ent_rep ⟨rfl, rfl, rfl, slot_bool (dq_Q ((or_iff_right (fun h => h.elim hg12 hg16)).trans Iff.rfl)), trivial⟩ rfl
   ·refine ent_guardXF rfl rfl rfl rfl (decide_eq_true hg16) ?_
    refine ent_o rfl (ok_pickT rfl (decide_eq_true hg16) rfl) ?_
    refine ent_nil ?_
    exact ent_rep ⟨rfl, rfl, rfl, slot_bool (dq_T rfl (Or.inl (Or.inr hg16))), trivial⟩ rfl
  ·refine ent_guardXF rfl rfl rfl rfl (decide_eq_true hg12) ?_
   refine ent_o rfl (ok_pickT rfl (decide_eq_true hg12) rfl) ?_
   refine emm rfl ?_
   refine ent_guardXF rfl rfl rfl rfl rfl ?_
   refine ent_guardXF rfl rfl rfl rfl rfl ?_
   refine ent_o rfl (ok_pickT rfl rfl rfl) ?_
   refine ent_nil ?_
   exact ent_rep ⟨rfl, rfl, rfl, slot_bool (dq_T rfl (Or.inl (Or.inl hg12))), trivial⟩ rfl
 refine ent_k K3 ?_
 refine ent_condD rfl (fun h19 => ?_) (fun h19 => ?_)
 ·omega
 ·refine esp K2 ?_
  refine ent_seq fun _ K4 => ?_
  refine ent_seq fun _ K5 => ?_
  refine ent_cut (⟨[(0, aInt q), (1, aInt k), (2, aInt m), (25, aBool (decide ((q = 0) ∧ (0 < k))))], []⟩) ?_ ?_
  ·refine ent_region ?_
   refine emm rfl ?_
   refine ent_o rfl (ok_eql rfl rfl) ?_
   refine emm rfl ?_
   refine ent_guardXDt rfl rfl rfl rfl (fun hg22 => ?_) (fun hg22 => ?_)
   ·refine emm rfl ?_
    refine ent_guardXT rfl rfl rfl rfl (decide_eq_true hg22) ?_
    refine ent_o rfl (ok_gtr rfl rfl) ?_
    refine ent_o rfl (ok_pickT rfl (decide_eq_true hg22) rfl) ?_
    refine ent_nil ?_
    exact ent_rep ⟨rfl, rfl, rfl, slot_bool (dq_Q ((and_iff_right hg22).trans Iff.rfl)), trivial⟩ rfl
   ·refine ent_guardXF rfl rfl rfl rfl (decide_eq_false hg22) ?_
    refine ent_o rfl (ok_pickF rfl (decide_eq_false hg22) rfl) ?_
    refine ent_nil ?_
    exact ent_rep ⟨rfl, rfl, rfl, slot_bool (dq_F rfl (fun h => hg22 h.1)), trivial⟩ rfl
  refine ent_k K5 ?_
  refine ent_condD rfl (fun h25 => ?_) (fun h25 => ?_)
  ·omega
  ·refine esp K4 ?_
   refine esk rfl ?_
   refine ent_seq fun _ K7 => ?_
   refine esk rfl ?_
   refine ent_block ?_
   refine ent_loop (fun (j : Int) => (⟨[(0, aInt q), (1, aInt k), (2, aInt m), (8, aInt (q ^ j.toNat)), (9, aInt j)], []⟩ : St)) (fun (j : Int) => (0 ≤ j) ∧ (j ≤ k) ∧ (q ^ j.toNat ≤ m)) (fun (j : Int) => (k - j).toNat) 0 ⟨(by first | rfl | assumption | omega | (simp_all; done) | grind), (by first | rfl | assumption | omega | (simp_all; done) | grind), (by simpa using hm)⟩ (ent_rep ⟨rfl, rfl, rfl, slot_av (av_int (show 1 = q ^ (0 : Int).toNat by simp)), slot_av (av_int (show 0 = (0 : Int) by first | rfl | assumption | omega | (simp_all; done) | grind)), trivial⟩ rfl) ?_
   rintro j ⟨h0, h1, h2⟩
   show Ent _ ⟨_, []⟩ _
   refine ent_seq fun _ K9 => ?_
   refine ent_seq fun _ K10 => ?_
   refine ent_cut (⟨[(0, aInt q), (1, aInt k), (2, aInt m), (8, aInt (q ^ j.toNat)), (9, aInt j), (32, aBool (decide ((j < k) ∧ (1 < q))))], []⟩) ?_ ?_
   ·refine ent_region ?_
    refine emm rfl ?_
    refine ent_o rfl (ok_lss rfl rfl) ?_
    refine emm rfl ?_
    refine ent_guardXDt rfl rfl rfl rfl (fun hg29 => ?_) (fun hg29 => ?_)
    ·refine emm rfl ?_
     refine ent_guardXT rfl rfl rfl rfl (decide_eq_true hg29) ?_
     refine ent_o rfl (ok_gtr rfl rfl) ?_
     refine ent_o rfl (ok_pickT rfl (decide_eq_true hg29) rfl) ?_
     refine ent_nil ?_
     exact ent_rep ⟨rfl, rfl, rfl, rfl, rfl, slot_bool (dq_Q ((and_iff_right hg29).trans Iff.rfl)), trivial⟩ rfl
    ·refine ent_guardXF rfl rfl rfl rfl (decide_eq_false hg29) ?_
     refine ent_o rfl (ok_pickF rfl (decide_eq_false hg29) rfl) ?_
     refine ent_nil ?_
     exact ent_rep ⟨rfl, rfl, rfl, rfl, rfl, slot_bool (dq_F rfl (fun h => hg29 h.1)), trivial⟩ rfl
   refine ent_k K10 ?_
   refine ent_condD rfl (fun h32 => ?_) (fun h32 => ?_)
   ·have hs := pow_succ_toNat q j h0
    have hp := pow_pos_of q hq j.toNat
    have hpk := pow_mono_of q hq (show (j + 1).toNat ≤ k.toNat by omega)
    have hmm : 0 ≤ q ^ j.toNat * q ∧ q ^ j.toNat * q ≤ 1000000 * 65536 := ⟨Int.mul_nonneg (by omega) (by omega), Int.mul_le_mul (by omega) hq2 (by omega) (by omega)⟩
    refine esp K9 ?_
    refine ent_seq fun _ K11 => ?_
    refine ent_block ?_
    refine ent_seq fun _ K12 => ?_
    refine esr rfl fun _ K13 => ?_
    refine ent_o rfl (ok_quo rfl rfl (by omega) (by omega) (by omega)) ?_
    refine ent_o rfl (ok_gtr rfl rfl) ?_
    refine enk K13 ?_
    refine ent_condD rfl (fun h39 => ?_) (fun h39 => ?_)
    ·have hlt : m < q ^ j.toNat * q := (Int.ediv_lt_iff_lt_mul (by omega)).1 h39
     refine esk rfl ?_
     refine ent_ret ?_
     exact retR2 (.inr rfl) Try.results56 (resr_tmp (res_cv rfl (cv_int (by unfold expF; rw [if_neg (by omega)])))) (resr_tmp (res_cv rfl (cv_int (by unfold expE; rw [if_neg (by omega)]))))
    ·have hle : q ^ j.toNat * q ≤ m := (Int.le_ediv_iff_mul_le (by omega)).1 (by omega)
     refine esp K12 ?_
     refine ent_region ?_
     refine emm rfl ?_
     refine ent_o rfl (ok_mul rfl rfl (by omega) (by omega)) ?_
     refine emm rfl ?_
     refine enk K11 ?_
     refine ent_region ?_
     refine emm rfl ?_
     refine ent_o rfl (ok_add rfl rfl (by omega) (by omega)) ?_
     refine emm rfl ?_
     refine ent_nil ?_
     refine ent_again (s := (j)) (j + 1) ⟨(by first | rfl | assumption | omega | (simp_all; done) | grind), (by first | rfl | assumption | omega | (simp_all; done) | grind), (by rw [hs]; exact hle)⟩ (by first | omega | (dsimp only; omega)) (ent_rep ⟨rfl, rfl, rfl, slot_av (av_int (show (q ^ j.toNat) * q = q ^ (j + 1).toNat by rw [hs])), rfl, trivial⟩ rfl)
   ·refine ent_exit ?_
    refine ent_k K7 ?_
    refine ent_seq fun _ K15 => ?_
    refine esr rfl fun _ K16 => ?_
    refine ent_o rfl (ok_gtr rfl rfl) ?_
    refine enk K16 ?_
    refine ent_condD rfl (fun h45 => ?_) (fun h45 => ?_)
    ·omega
    ·refine esp K15 ?_
     refine esk rfl ?_
     refine ent_ret ?_
     exact retR2 (.inr rfl) Try.results56 (resr_tmp (res_cv rfl (cv_int (by unfold expF; rw [show k = j by omega, if_pos h2])))) (resr_tmp (res_cv rfl (cv_int (by unfold expE; rw [show k = j by omega, if_pos h2]))))

theorem rspCheck_ok (f : Fld) (m : Mat)  : Ctr Try.prog 59 [aFld f, aMat m] (aInt (spcE f m)) := by
 refine ctr_of Try.call59 Try.func59 rfl rfl ?_
 intro w O
 refine ent_lenC 0 2 rfl rfl (fun hlen0_2 => ?_)
 refine ent_lenC 1 1 rfl rfl (fun hlen1_1 => ?_)
 refine esr rfl fun _ K1 => ?_
 refine ent_boxS rfl rfl (AllOne.mem ⟨(one_int _), (one_int _), one_sl, trivial⟩) (fun b2_1 => ?_)
 refine ent_boxS rfl rfl (AllOne.mem ⟨(one_int _), one_sl, trivial⟩) (fun b3_2 => ?_)
 refine emm rfl ?_
 refine enk K1 ?_
 refine esr rfl fun _ K2 => ?_
 refine ent_o rfl (ok_loadBS (k := 1) ti24 rfl rfl rfl) ?_
 refine ent_o rfl (ok_loadBS (k := 0) ti83 rfl rfl rfl) ?_
 refine ent_o rfl (ok_call (rMCheck_ok f m) rfl) ?_
 refine emm rfl ?_
 refine enk K2 ?_
 refine ent_seq fun _ K3 => ?_
 refine esr rfl fun _ K4 => ?_
 refine ent_o rfl (ok_neq rfl rfl) ?_
 refine enk K4 ?_
 refine ent_condD rfl (fun h12 => ?_) (fun h12 => ?_)
 ·refine esk rfl ?_
  refine ent_ret ?_
  exact retR1 (.inr rfl) Try.results59 (resr_tmp (res_cv rfl (cv_int (by unfold spcE; rw [if_neg h12]))))
 ·have hme := Classical.not_not.1 h12
  have hF := (mErr_zero.1 hme).1
  have hgm := mat_good (mErr_zero.1 hme).2
  have hsz := mat_size (mErr_zero.1 hme).2
  have hcm : (canM f m).rows = canR (elim f m.rows [] m.cols.toNat) := by rw [canM_ok hme]; rfl
  refine esp K3 ?_
  refine esr rfl fun _ K6 => ?_
  refine ent_o rfl (ok_loadBS (k := 1) ti24 rfl rfl rfl) ?_
  refine ent_o rfl (ok_fieldAddrEx Try.runUnderlying83 rfl Try.sizeOf25 (by decide) rfl) ?_
  refine ent_o rfl (ok_loadB (k := 0) Try.isAgg25 rfl rfl rfl) ?_
  refine ent_o rfl (ok_fieldAddrEx Try.runUnderlying83 rfl Try.sizeOf3 (by decide) rfl) ?_
  refine ent_o rfl (ok_loadB (k := 0) Try.isAgg3 rfl rfl rfl) ?_
  refine ent_o rfl (ok_call (rCanon_ok f m.rows m.cols m.cols.toNat hF hgm (by first | rfl | assumption | omega | (simp_all; done) | grind) (by first | rfl | assumption | omega | (simp_all; done) | grind) (by first | rfl | assumption | omega | (simp_all; done) | grind) (by first | rfl | assumption | omega | (simp_all; done) | grind)) rfl) ?_
  refine emm rfl ?_
  refine ent_o rfl (ok_extract rfl rfl) ?_
  refine ent_o rfl (ok_extract rfl rfl) ?_
  refine emm rfl ?_
  refine enk K6 ?_
  refine ent_seq fun _ K7 => ?_
  refine esr rfl fun _ K8 => ?_
  refine ent_o rfl (ok_fieldAddrEx Try.runUnderlying83 rfl Try.sizeOf25 (by decide) rfl) ?_
  refine ent_o rfl (ok_loadB (k := 0) Try.isAgg25 rfl rfl rfl) ?_
  refine ent_o rfl (ok_call (SameRows_ok (canR (elim f m.rows [] m.cols.toNat)) m.rows) rfl) ?_
  refine ent_o rfl (ok_notD rfl) ?_
  refine enk K8 ?_
  refine ent_condD rfl (fun h27 => ?_) (fun h27 => ?_)
  ·refine esk rfl ?_
   refine ent_ret ?_
   exact retR1 (.inr rfl) Try.results59 (resr_tmp (res_cv rfl (cv_int (by unfold spcE; rw [if_pos hme, hcm, if_neg h27]))))
  ·refine esp K7 ?_
   refine esk rfl ?_
   refine ent_ret ?_
   exact retR1 (.inr rfl) Try.results59 (resr_tmp (res_cv rfl (cv_int (by unfold spcE; rw [if_pos hme, hcm, if_pos (Classical.not_not.1 h27)]))))

theorem rcCheck_ok (c : Cod)  : Ctr Try.prog 21 [aCod c] (aInt (codE c)) := by
 refine ctr_of Try.call21 Try.func21 rfl rfl ?_
 intro w O
 refine ent_lenC 0 2 rfl rfl (fun hlen0_2 => ?_)
 refine ent_lenC 0 4 rfl rfl (fun hlen0_4 => ?_)
 refine esr rfl fun _ K1 => ?_
 refine ent_boxS rfl rfl (AllOne.mem ⟨(one_int _), (one_int _), one_sl, (one_int _), one_sl, trivial⟩) (fun b1_1 => ?_)
 refine emm rfl ?_
 refine enk K1 ?_
 refine esr rfl fun _ K2 => ?_
 refine ent_o rfl (ok_fieldAddrEx Try.runUnderlying27 rfl Try.sizeOf24 (by decide) rfl) ?_
 refine ent_o rfl (ok_loadBS (k := 0) ti24 rfl rfl rfl) ?_
 refine ent_o rfl (ok_call (rCheck_ok c.F) rfl) ?_
 refine emm rfl ?_
 refine enk K2 ?_
 refine ent_seq fun _ K3 => ?_
 refine esr rfl fun _ K4 => ?_
 refine ent_o rfl (ok_neq rfl rfl) ?_
 refine enk K4 ?_
 refine ent_condD rfl (fun h8 => ?_) (fun h8 => ?_)
 ·have hF : ¬ FOk c.F := fun h => h8 (fErr_zero.2 h)
  have h1 := fErr_no hF
  refine esk rfl ?_
  refine ent_ret ?_
  exact retR1 (.inr rfl) Try.results21 (resr_tmp (res_cv rfl (cv_int (by rw [h1]; exact codE_no hF))))
 ·have hF := fErr_zero.1 (Classical.not_not.1 h8)
  refine esp K3 ?_
  refine ent_seq fun _ K6 => ?_
  refine ent_seq fun _ K7 => ?_
  refine ent_cut (⟨[(1, aEx (.pointer (some ⟨b1_1, 0, none⟩))), (17, aBool (decide ((c.N < 1) ∨ (64 < c.N))))], [oBox b1_1 27 [aInt c.F.P, aInt c.F.M, aSl 1 false aInt c.F.mod, aInt c.N, aSl 1 false aInts c.Gen]]⟩) ?_ ?_
  ·refine ent_region ?_
   refine ent_o rfl (ok_fieldAddrEx Try.runUnderlying27 rfl Try.sizeOf3 (by decide) rfl) ?_
   refine ent_o rfl (ok_loadB (k := 0) Try.isAgg3 rfl rfl rfl) ?_
   refine ent_o rfl (ok_lss rfl rfl) ?_
   refine emm rfl ?_
   refine ent_guardXDf rfl rfl rfl rfl (fun hg13 => ?_) (fun hg13 => ?_)
   ·refine ent_o rfl (ok_fieldAddrEx Try.runUnderlying27 rfl Try.sizeOf3 (by decide) rfl) ?_
    refine ent_guardXT rfl rfl rfl rfl (decide_eq_false hg13) ?_
    refine ent_o rfl (ok_loadB (k := 0) Try.isAgg3 rfl rfl rfl) ?_
    refine ent_guardXT rfl rfl rfl rfl (decide_eq_false hg13) ?_
    refine ent_o rfl (ok_gtr rfl rfl) ?_
    refine ent_o rfl (ok_pickF rfl (decide_eq_false hg13) rfl) ?_
    refine ent_nil ?_
    exact ent_rep ⟨rfl, slot_bool (dq_Q ((or_iff_right hg13).trans Iff.rfl)), trivial⟩ rfl
   ·refine ent_guardXF rfl rfl rfl rfl (decide_eq_true hg13) ?_
    refine ent_guardXF rfl rfl rfl rfl (decide_eq_true hg13) ?_
    refine ent_o rfl (ok_pickT rfl (decide_eq_true hg13) rfl) ?_
    refine ent_nil ?_
    exact ent_rep ⟨rfl, slot_bool (dq_T rfl (Or.inl hg13)), trivial⟩ rfl
  refine ent_k K7 ?_
  refine ent_condD rfl (fun h17 => ?_) (fun h17 => ?_)
  ·refine esk rfl ?_
   refine ent_ret ?_
   exact retR1 (.inr rfl) Try.results21 (resr_tmp (res_cv rfl (cv_int (by unfold codE; rw [if_pos hF, if_pos h17]))))
  ·refine esp K6 ?_
   refine esr rfl fun _ K9 => ?_
   refine ent_o rfl (ok_fieldAddrEx Try.runUnderlying27 rfl Try.sizeOf24 (by decide) rfl) ?_
   refine ent_o rfl (ok_loadBS (k := 0) ti24 rfl rfl rfl) ?_
   refine ent_o rfl (ok_fieldAddrEx Try.runUnderlying27 rfl Try.sizeOf3 (by decide) rfl) ?_
   refine ent_o rfl (ok_loadB (k := 0) Try.isAgg3 rfl rfl rfl) ?_
   refine ent_o rfl (ok_fieldAddrEx Try.runUnderlying27 rfl Try.sizeOf25 (by decide) rfl) ?_
   refine ent_o rfl (ok_loadB (k := 0) Try.isAgg25 rfl rfl rfl) ?_
   refine ent_o rfl (ok_build st83 (As := [aInt 0, aEx (.slice none 0 0)]) z83 (⟨0, 1, rfl, .inl ⟨rfl, _, rfl, (one_int _), rfl, ⟨1, 1, rfl, .inl ⟨rfl, _, rfl, one_sl, rfl, rfl⟩⟩⟩⟩)) ?_
   refine ent_o rfl (ok_callA (rspCheck_ok c.F c.m) ⟨arg_a rfl (cv_id sub_refl), arg_a rfl (cv_agg ⟨cv_int (by first | rfl | assumption | omega | (simp_all; done) | grind), cv_sl sub_refl (by first | rfl | assumption | omega | (simp_all; done) | grind), trivial⟩), trivial⟩) ?_
   refine emm rfl ?_
   refine enk K9 ?_
   refine ent_ret ?_
   exact retR1 (.inr rfl) Try.results21 (resr_tmp (res_cv rfl (cv_int (by unfold codE; rw [if_pos hF, if_neg h17]))))

theorem rSize_ok (c : Cod)  : Ctr Try.prog 19 [aCod c] (aTup [aInt (sizV c), aInt (sizE c)]) := by
 refine ctr_of Try.call19 Try.func19 rfl rfl ?_
 intro w O
 refine ent_lenC 0 2 rfl rfl (fun hlen0_2 => ?_)
 refine ent_lenC 0 4 rfl rfl (fun hlen0_4 => ?_)
 refine esr rfl fun _ K1 => ?_
 refine ent_boxS rfl rfl (AllOne.mem ⟨(one_int _), (one_int _), one_sl, (one_int _), one_sl, trivial⟩) (fun b1_1 => ?_)
 refine emm rfl ?_
 refine enk K1 ?_
 refine esr rfl fun _ K2 => ?_
 refine ent_o rfl (ok_loadBS (k := 0) ti27 rfl rfl rfl) ?_
 refine ent_o rfl (ok_call (rcCheck_ok c) rfl) ?_
 refine emm rfl ?_
 refine enk K2 ?_
 refine ent_seq fun _ K3 => ?_
 refine esr rfl fun _ K4 => ?_
 refine ent_o rfl (ok_neq rfl rfl) ?_
 refine enk K4 ?_
 refine ent_condD rfl (fun h8 => ?_) (fun h8 => ?_)
 ·have hsz := sizE_code h8
  refine esk rfl ?_
  refine ent_ret ?_
  exact retR2 (.inr rfl) Try.results19 (resr_tmp (res_cv rfl (cv_int (by first | (rw [sizV_no (by rw [hsz]; exact h8)]; done) | exact sizV_exp hsx)))) (resr_tmp (res_cv rfl (cv_int (by first | exact hsz.symm | exact hsx.symm))))
 ·have hk := codE_zero.1 (Classical.not_not.1 h8)
  have hqb := hk.fld.1.bd
  have hln := hk.len
  have hsx := sizE_exp (Classical.not_not.1 h8)
  refine esp K3 ?_
  refine ent_seq fun _ K6 => ?_
  refine ent_draw 11 mixed (by kernel_rfl) (by kernel_rfl) (by kernel_rfl) ?_
  refine dw_o rfl (ok_fieldAddrEx Try.runUnderlying27 rfl Try.sizeOf24 (by decide) rfl) ?_
  refine dw_o rfl (ok_loadBS (k := 0) ti24 rfl rfl rfl) ?_
  refine dw_o rfl (ok_call (rOrder_ok c.F) rfl) ?_
  refine dw_o rfl (ok_fieldAddrEx Try.runUnderlying27 rfl Try.sizeOf25 (by decide) rfl) ?_
  refine dw_o rfl (ok_loadB (k := 0) Try.isAgg25 rfl rfl rfl) ?_
  refine dw_o rfl (ok_len rfl Try.runUnderlying25 rfl) ?_
  refine dw_o rfl (ok_call (rExp_ok c.F.q (↑c.Gen.length : Int) 65536 (by first | rfl | assumption | omega | (simp_all; done) | grind) (by first | rfl | assumption | omega | (simp_all; done) | grind) (by first | rfl | assumption | omega | (simp_all; done) | grind) (by first | rfl | assumption | omega | (simp_all; done) | grind) (by first | rfl | assumption | omega | (simp_all; done) | grind) (by first | rfl | assumption | omega | (simp_all; done) | grind)) rfl) ?_
  refine dw_o rfl (ok_extract rfl rfl) ?_
  refine dw_o rfl (ok_extract rfl rfl) ?_
  refine dw_o rfl (ok_assign rfl) ?_
  refine dw_o rfl (ok_assign rfl) ?_
  refine dw_nil ?_
  refine enk K6 ?_
  refine ent_ret ?_
  exact retR2 (.inr rfl) Try.results19 (resr_tmp (res_cv rfl (cv_int (by first | (rw [sizV_no (by rw [hsz]; exact h8)]; done) | exact sizV_exp hsx)))) (resr_tmp (res_cv rfl (cv_int (by first | exact hsz.symm | exact hsx.symm))))

theorem rAt_ok (c : Cod) (n : Int) (hk : COk c) (h0 : 0 ≤ n) (h1 : n ≤ 9223372036854775807) : Ctr Try.prog 61 [aCod c, aInt n] (aSl 1 false aInt (wdF c.F c.N c.Gen n)) := by
 have hq2 := hk.q2
 have hln := hk.len
 have hn1 := hk.n1
 have hn64 := hk.n64
 refine ctr_of Try.call61 Try.func61 rfl rfl ?_
 intro w O
 refine ent_lenC 0 2 rfl rfl (fun hlen0_2 => ?_)
 refine ent_lenC 0 4 rfl rfl (fun hlen0_4 => ?_)
 refine esr rfl fun _ K1 => ?_
 refine ent_boxS rfl rfl (AllOne.mem ⟨(one_int _), (one_int _), one_sl, (one_int _), one_sl, trivial⟩) (fun b2_1 => ?_)
 refine emm rfl ?_
 refine enk K1 ?_
 refine esr rfl fun _ K2 => ?_
 refine ent_o rfl (ok_fieldAddrEx Try.runUnderlying27 rfl Try.sizeOf24 (by decide) rfl) ?_
 refine ent_o rfl (ok_loadBS (k := 0) ti24 rfl rfl rfl) ?_
 refine ent_o rfl (ok_call (rOrder_ok c.F) rfl) ?_
 refine emm rfl ?_
 refine enk K2 ?_
 refine esr rfl fun _ K3 => ?_
 refine ent_o rfl (ok_fieldAddrEx Try.runUnderlying27 rfl Try.sizeOf25 (by decide) rfl) ?_
 refine ent_o rfl (ok_loadB (k := 0) Try.isAgg25 rfl rfl rfl) ?_
 refine ent_o rfl (ok_len rfl Try.runUnderlying25 rfl) ?_
 refine ent_make aInt 0 rfl vt22 rfl rfl (by omega) (by omega) (by omega) (fun _ _ => rfl) (AllV.mem ⟨rfl, trivial⟩) (fun b14_2 => ?_)
 refine emm rfl ?_
 refine enk K3 ?_
 refine ent_seq fun _ K4 => ?_
 refine esr rfl fun _ K5 => ?_
 refine ent_o rfl (ok_lenEx rfl Try.runUnderlying22 rfl) ?_
 refine ent_o rfl (ok_sub rfl rfl (by omega) (by omega)) ?_
 refine emm rfl ?_
 refine enk K5 ?_
 refine ent_block ?_
 refine ent_loop (fun (i : Int) => (⟨[(1, aInt (n / c.F.q ^ (c.Gen.length - 1 - i).toNat)), (2, aEx (.pointer (some ⟨b2_1, 0, none⟩))), (5, aInt c.F.q), (6, aEx (vec (some b14_2) (((↑c.Gen.length : Int)).toNat) (((↑c.Gen.length : Int)).toNat))), (7, aInt i)], [oVec (some b14_2) (((↑c.Gen.length : Int)).toNat) 3 1 false aInt (atL c.F.q c.Gen.length i n), oBox b2_1 27 [aInt c.F.P, aInt c.F.M, aSl 1 false aInt c.F.mod, aInt c.N, aSl 1 false aInts c.Gen]]⟩ : St)) (fun (i : Int) => (-1 ≤ i) ∧ (i < c.Gen.length)) (fun (i : Int) => (i + 1).toNat) ((↑(((↑c.Gen.length : Int)).toNat) : Int) - 1) ⟨(by first | rfl | assumption | omega | (simp_all; done) | grind), (by omega)⟩ (ent_rep ⟨slot_av (av_int (show n = n / c.F.q ^ (c.Gen.length - 1 - ((↑(((↑c.Gen.length : Int)).toNat) : Int) - 1)).toNat by simp)), rfl, rfl, rfl, rfl, trivial⟩ (own_cons (own_vec (show atL c.F.q c.Gen.length ((↑(((↑c.Gen.length : Int)).toNat) : Int) - 1) n = List.replicate (((↑c.Gen.length : Int)).toNat) 0 by rw [show ((((c.Gen.length : Int)).toNat : Nat) : Int) = c.Gen.length by omega]; exact atL_none _ _ _)) (rfl))) ?_
 rintro i ⟨i0, i1⟩
 show Ent _ ⟨_, [_, _]⟩ _
 have hal := length_atL (q := c.F.q) (v := n) i0 i1
 have hp1 := pow_pos_of c.F.q hq2 (c.Gen.length - 1 - i).toNat
 have hcu : 0 ≤ n / c.F.q ^ (c.Gen.length - 1 - i).toNat ∧ n / c.F.q ^ (c.Gen.length - 1 - i).toNat ≤ n := ⟨Int.ediv_nonneg h0 (by omega), Int.ediv_le_self _ h0⟩
 refine ent_seq fun _ K6 => ?_
 refine esr rfl fun _ K7 => ?_
 refine ent_o rfl (ok_geq rfl rfl) ?_
 refine enk K7 ?_
 refine ent_condD rfl (fun h19 => ?_) (fun h19 => ?_)
 ·refine esp K6 ?_
  refine ent_seq fun _ K8 => ?_
  refine ent_block ?_
  refine esr rfl fun _ K9 => ?_
  refine ent_o rfl (ok_rem rfl rfl (by omega) (by omega)) ?_
  refine ent_o rfl (ok_indexV sl22 rfl rfl (by omega) (by omega)) ?_
  refine ent_storeV (k := 0) (z := (n / c.F.q ^ (c.Gen.length - 1 - i).toNat) % c.F.q) ti3 rfl rfl rfl (elem_one (one_int _)) (by omega) (by omega) ?_
  refine enk K9 ?_
  refine ent_region ?_
  refine emm rfl ?_
  refine ent_o rfl (ok_quo rfl rfl (by omega) (by omega) (by omega)) ?_
  refine emm rfl ?_
  refine enk K8 ?_
  refine ent_region ?_
  refine emm rfl ?_
  refine ent_o rfl (ok_sub rfl rfl (by omega) (by omega)) ?_
  refine emm rfl ?_
  refine ent_nil ?_
  refine ent_again (s := (i)) (i - 1) ⟨(by first | rfl | assumption | omega | (simp_all; done) | grind), (by first | rfl | assumption | omega | (simp_all; done) | grind)⟩ (by first | omega | (dsimp only; omega)) (ent_rep ⟨slot_av (av_int (show (n / c.F.q ^ (c.Gen.length - 1 - i).toNat) / c.F.q = n / c.F.q ^ (c.Gen.length - 1 - (i - 1)).toNat by exact cur_step (by omega) h19 i1)), rfl, rfl, rfl, rfl, trivial⟩ (own_cons (own_vec (show atL c.F.q c.Gen.length (i - 1) n = List.set (atL c.F.q c.Gen.length i n) (i).toNat ((n / c.F.q ^ (c.Gen.length - 1 - i).toNat) % c.F.q) by exact (atL_set (by omega) h19 i1).symm)) (rfl)))
 ·refine ent_exit ?_
  refine ent_k K4 ?_
  refine ent_seq fun _ K10 => ?_
  refine ent_give 0 6 rfl (cv_vec (k := 0) (off_erase rfl) (by first | rfl | assumption | (simp; done) | (simp_all; done) | omega) rfl) ?_
  refine ent_region ?_
  refine ent_o rfl (ok_fieldAddrEx Try.runUnderlying27 rfl Try.sizeOf24 (by decide) rfl) ?_
  refine ent_o rfl (ok_loadBS (k := 0) ti24 rfl rfl rfl) ?_
  refine emm rfl ?_
  refine ent_o rfl (ok_fieldAddrEx Try.runUnderlying27 rfl Try.sizeOf25 (by decide) rfl) ?_
  refine ent_o rfl (ok_loadB (k := 0) Try.isAgg25 rfl rfl rfl) ?_
  refine ent_o rfl (ok_fieldAddrEx Try.runUnderlying27 rfl Try.sizeOf3 (by decide) rfl) ?_
  refine ent_o rfl (ok_loadB (k := 0) Try.isAgg3 rfl rfl rfl) ?_
  refine ent_o rfl (ok_call (rCombine_ok c.F (atL c.F.q c.Gen.length i n) c.Gen c.N hk.fld.1 (by first | rfl | assumption | omega | (simp_all; done) | grind) (by first | rfl | assumption | omega | (simp_all; done) | grind) (fun i i0 i1 => hk.row i0 i1)) rfl) ?_
  refine emm rfl ?_
  refine enk K10 ?_
  refine ent_ret ?_
  exact retR1 (.inr rfl) Try.results61 (resr_tmp (res_cv rfl (cv_sl sub_x (by unfold wdF; rw [show i = -1 by omega, atL_all]))))

theorem rWords_ok (c : Cod)  : Ctr Try.prog 25 [aCod c] (aTup [aSl 1 false aInts (wdsL c), aInt (sizE c)]) := by
 refine ctr_of Try.call25 Try.func25 rfl rfl ?_
 intro w O
 refine ent_lenC 0 2 rfl rfl (fun hlen0_2 => ?_)
 refine ent_lenC 0 4 rfl rfl (fun hlen0_4 => ?_)
 refine esr rfl fun _ K1 => ?_
 refine ent_boxS rfl rfl (AllOne.mem ⟨(one_int _), (one_int _), one_sl, (one_int _), one_sl, trivial⟩) (fun b1_1 => ?_)
 refine emm rfl ?_
 refine enk K1 ?_
 refine esr rfl fun _ K2 => ?_
 refine ent_o rfl (ok_loadBS (k := 0) ti27 rfl rfl rfl) ?_
 refine ent_o rfl (ok_call (rSize_ok c) rfl) ?_
 refine emm rfl ?_
 refine ent_o rfl (ok_extract rfl rfl) ?_
 refine ent_o rfl (ok_extract rfl rfl) ?_
 refine emm rfl ?_
 refine enk K2 ?_
 refine ent_seq fun _ K3 => ?_
 refine esr rfl fun _ K4 => ?_
 refine ent_o rfl (ok_neq rfl rfl) ?_
 refine enk K4 ?_
 refine ent_condD rfl (fun h14 => ?_) (fun h14 => ?_)
 ·refine esk rfl ?_
  refine ent_ret ?_
  exact retR2 (.inr rfl) Try.results25 (resr_tmp (res_cv rfl (cv_nil (fun _ => rfl) (by exact (wdsL_no h14).symm)))) (resr_tmp (res_cv rfl (cv_int (by rfl))))
 ·have hs := Classical.not_not.1 h14
  have hk := (sizE_zero.1 hs).1
  have hsv := sizV_ok hs
  have hsq := (sizE_zero.1 hs).2
  have hp1 := pow_pos_of c.F.q hk.q2 c.Gen.length
  refine esp K3 ?_
  refine esk rfl ?_
  refine ent_seq fun _ K7 => ?_
  refine esk rfl ?_
  refine ent_block ?_
  refine ent_open 22 1 false aInts (fun _ => rfl) ?_
  refine ent_loop (fun (ss : Int × Option Nat × Nat) => match ss with | (i, rr3, cc3) => (⟨[(1, aEx (.pointer (some ⟨b1_1, 0, none⟩))), (4, aInt (sizV c)), (6, aEx (vec rr3 ((mapR (wdF c.F c.N c.Gen) i).length) cc3)), (7, aInt i)], [oVec rr3 cc3 22 1 false aInts (mapR (wdF c.F c.N c.Gen) i), oBox b1_1 27 [aInt c.F.P, aInt c.F.M, aSl 1 false aInt c.F.mod, aInt c.N, aSl 1 false aInts c.Gen]]⟩ : St)) (fun (ss : Int × Option Nat × Nat) => match ss with | (i, rr3, cc3) => (0 ≤ i) ∧ (i ≤ sizV c)) (fun (ss : Int × Option Nat × Nat) => match ss with | (i, rr3, cc3) => (sizV c - i).toNat) (0, none, 0) ⟨(by first | rfl | assumption | omega | (simp_all; done) | grind), (by omega)⟩ (ent_rep ⟨rfl, rfl, slot_av ((show aEx (vec none ([] : List _).length 0) = aEx (vec none ((mapR (wdF c.F c.N c.Gen) (0 : Int)).length) 0) from av_vec (congrArg List.length (show mapR (wdF c.F c.N c.Gen) (0 : Int) = [] by rfl).symm))), slot_av (av_int (show 0 = (0 : Int) by first | rfl | assumption | omega | (simp_all; done) | grind)), trivial⟩ (own_cons (own_vec (show mapR (wdF c.F c.N c.Gen) (0 : Int) = [] by rfl)) (rfl))) ?_
  rintro ⟨i, rr3, cc3⟩ ⟨h0, h1⟩
  show Ent _ ⟨_, [_, _]⟩ _
  have lmr := length_mapR (wdF c.F c.N c.Gen) i
  refine ent_seq fun _ K9 => ?_
  refine esr rfl fun _ K10 => ?_
  refine ent_o rfl (ok_lss rfl rfl) ?_
  refine enk K10 ?_
  refine ent_condD rfl (fun h18 => ?_) (fun h18 => ?_)
  ·refine esp K9 ?_
   refine ent_seq fun _ K11 => ?_
   refine ent_block ?_
   refine ent_region ?_
   refine emm rfl ?_
   refine ent_o rfl (ok_loadBS (k := 1) ti27 rfl rfl rfl) ?_
   refine emm rfl ?_
   refine ent_o rfl (ok_call (rAt_ok c i hk (by first | rfl | assumption | omega | (simp_all; done) | grind) (by first | rfl | assumption | omega | (simp_all; done) | grind)) rfl) ?_
   refine ent_appendL (k := 0) (enc := aInts) (y := wdF c.F c.N c.Gen i) rfl rfl vt25 rfl rfl (by first | rfl | assumption | (simp; done) | (simp_all; done) | omega) rfl ((elem_one one_sl)) (by first | omega | (simp only [List.length_append, List.length_cons, List.length_nil]; omega) | (simp; omega)) (by first | omega | (simp only [List.length_append, List.length_cons, List.length_nil]; omega) | (simp; omega)) (by decide) (fun b26_4 c26_4 => ?_)
   refine emm rfl ?_
   refine enk K11 ?_
   refine ent_region ?_
   refine emm rfl ?_
   refine ent_o rfl (ok_add rfl rfl (by omega) (by omega)) ?_
   refine emm rfl ?_
   refine ent_nil ?_
   refine ent_again (s := (i, rr3, cc3)) (i + 1, (some b26_4), c26_4) ⟨(by first | rfl | assumption | omega | (simp_all; done) | grind), (by first | rfl | assumption | omega | (simp_all; done) | grind)⟩ (by first | omega | (dsimp only; omega)) (ent_rep ⟨rfl, rfl, slot_av (av_vec (congrArg List.length (show mapR (wdF c.F c.N c.Gen) (i + 1) = (mapR (wdF c.F c.N c.Gen) i) ++ [wdF c.F c.N c.Gen i] by exact mapR_succ _ h0).symm)), rfl, trivial⟩ (own_cons (own_vec (show mapR (wdF c.F c.N c.Gen) (i + 1) = (mapR (wdF c.F c.N c.Gen) i) ++ [wdF c.F c.N c.Gen i] by exact mapR_succ _ h0)) (rfl)))
  ·refine ent_exit ?_
   refine ent_k K7 ?_
   refine esk rfl ?_
   refine ent_ret ?_
   exact retR2 (.inr rfl) Try.results25 (resr_tmp (res_cv rfl (cv_vec (k := 0) (off_x rfl) (by first | rfl | assumption | (simp; done) | (simp_all; done) | omega) (by rw [wdsL_ok hs]; unfold wds; rw [← hsv]; congr 1; omega)))) (resr_tmp (res_cv rfl (cv_int (by exact hs.symm))))

theorem rProfile_ok (ws : List (List Int)) (y : List Int) (hl : ws.length ≤ 1000000) (hy : y.length ≤ 1000000) : CtrF Try.prog 54 [aSl 1 false aInts ws, aSl 1 false aInt y] (aVec 3 1 false aInt (hisTo (y.length + 1) (fun z => dst (ix [] ws z) y) ws.length)) := by
 refine ctrF_of Try.call54 Try.func54 rfl rfl ?_
 intro w O
 refine ent_len 0 rfl (fun hlen0 => ?_)
 refine ent_len 1 rfl (fun hlen1 => ?_)
 refine esk rfl ?_
 refine esr rfl fun _ K2 => ?_
 refine ent_o rfl (ok_len rfl Try.runUnderlying22 rfl) ?_
 refine ent_o rfl (ok_add rfl rfl (by omega) (by omega)) ?_
 refine ent_make aInt 0 rfl vt22 rfl rfl (by omega) (by omega) (by omega) (fun _ _ => rfl) (AllV.mem ⟨rfl, trivial⟩) (fun b10_1 => ?_)
 refine emm rfl ?_
 refine enk K2 ?_
 refine ent_seq fun _ K3 => ?_
 refine esk rfl ?_
 refine ent_block ?_
 refine ent_loop (fun (i : Int) => (⟨[(0, aSl 1 false aInts ws), (1, aSl 1 false aInt y), (5, aEx (vec (some b10_1) (((↑y.length : Int) + 1).toNat) (((↑y.length : Int) + 1).toNat))), (6, aInt i)], [oVec (some b10_1) (((↑y.length : Int) + 1).toNat) 3 1 false aInt (hisTo (y.length + 1) (fun z => dst (ix [] ws z) y) i.toNat)]⟩ : St)) (fun (i : Int) => (0 ≤ i) ∧ (i ≤ ws.length)) (fun (i : Int) => (ws.length - i).toNat) 0 ⟨(by first | rfl | assumption | omega | (simp_all; done) | grind), (by first | rfl | assumption | omega | (simp_all; done) | grind)⟩ (ent_rep ⟨rfl, rfl, rfl, slot_av (av_int (show 0 = (0 : Int) by first | rfl | assumption | omega | (simp_all; done) | grind)), trivial⟩ (own_cons (own_vec (show hisTo (y.length + 1) (fun z => dst (ix [] ws z) y) (0 : Int).toNat = List.replicate (((↑y.length : Int) + 1).toNat) 0 by rfl)) (rfl))) ?_
 rintro i ⟨h0, h1⟩
 show Ent _ ⟨_, [_]⟩ _
 have lh := length_hisTo (y.length + 1) (fun z => dst (ix [] ws z) y) i.toNat
 have hdb := dst_bd (ix [] ws i) y
 have hhb := his_bd (n := y.length + 1) (g := fun z => dst (ix [] ws z) y) (k := i.toNat) (j := dst (ix [] ws i) y) (fun z _ _ => by have := dst_bd (ix [] ws z) y; omega) (by omega) (by omega)
 refine ent_seq fun _ K5 => ?_
 refine esr rfl fun _ K6 => ?_
 refine ent_o rfl (ok_len rfl Try.runUnderlying25 rfl) ?_
 refine ent_o rfl (ok_lss rfl rfl) ?_
 refine enk K6 ?_
 refine ent_condD rfl (fun h14 => ?_) (fun h14 => ?_)
 ·refine esp K5 ?_
  refine ent_seq fun _ K7 => ?_
  refine ent_block ?_
  refine ent_region ?_
  refine emm rfl ?_
  refine ent_o rfl (ok_index [] sl25 rfl rfl (by omega) (by omega)) ?_
  refine ent_o rfl (ok_load ti22 rfl) ?_
  refine emm rfl ?_
  refine ent_o rfl (ok_call (rDistance_ok (ix [] ws i) y) rfl) ?_
  refine ent_o rfl (ok_indexV sl22 rfl rfl (by omega) (by omega)) ?_
  refine ent_o rfl (ok_loadV (k := 0) 0 ti3 rfl rfl (by omega) (by omega)) ?_
  refine ent_o rfl (ok_add rfl rfl (by omega) (by omega)) ?_
  refine ent_o rfl (ok_indexV sl22 rfl rfl (by omega) (by omega)) ?_
  refine ent_storeV (k := 0) (z := (ix 0 (hisTo (y.length + 1) (fun z => dst (ix [] ws z) y) i.toNat) (dst (ix [] ws i) y)) + 1) ti3 rfl rfl rfl (elem_one (one_int _)) (by omega) (by omega) ?_
  refine enk K7 ?_
  refine ent_region ?_
  refine emm rfl ?_
  refine ent_o rfl (ok_add rfl rfl (by omega) (by omega)) ?_
  refine emm rfl ?_
  refine ent_nil ?_
  refine ent_again (s := (i)) (i + 1) ⟨(by first | rfl | assumption | omega | (simp_all; done) | grind), (by first | rfl | assumption | omega | (simp_all; done) | grind)⟩ (by first | omega | (dsimp only; omega)) (ent_rep ⟨rfl, rfl, rfl, rfl, trivial⟩ (own_cons (own_vec (show hisTo (y.length + 1) (fun z => dst (ix [] ws z) y) (i + 1).toNat = List.set (hisTo (y.length + 1) (fun z => dst (ix [] ws z) y) i.toNat) (dst (ix [] ws i) y).toNat ((ix 0 (hisTo (y.length + 1) (fun z => dst (ix [] ws z) y) i.toNat) (dst (ix [] ws i) y)) + 1) by rw [his_step h0])) (rfl)))
 ·refine ent_exit ?_
  refine ent_k K3 ?_
  refine esk rfl ?_
  refine ent_ret ?_
  exact retR1 (.inr rfl) Try.results54 (resr_tmp (res_cv rfl (cvF_vecV (k := 0) flat_int rfl rfl (by first | rfl | assumption | (simp; done) | (simp_all; done) | omega) (by rw [show i.toNat = ws.length by omega]))))

theorem rWeights_ok (c : Cod)  : Ctr Try.prog 17 [aCod c] (aTup [aSl 1 false aInt (wtsL c), aInt (sizE c)]) := by
 refine ctr_of Try.call17 Try.func17 rfl rfl ?_
 intro w O
 refine ent_lenC 0 2 rfl rfl (fun hlen0_2 => ?_)
 refine ent_lenC 0 4 rfl rfl (fun hlen0_4 => ?_)
 refine esr rfl fun _ K1 => ?_
 refine ent_boxS rfl rfl (AllOne.mem ⟨(one_int _), (one_int _), one_sl, (one_int _), one_sl, trivial⟩) (fun b1_1 => ?_)
 refine emm rfl ?_
 refine enk K1 ?_
 refine esr rfl fun _ K2 => ?_
 refine ent_o rfl (ok_loadBS (k := 0) ti27 rfl rfl rfl) ?_
 refine ent_o rfl (ok_call (rWords_ok c) rfl) ?_
 refine emm rfl ?_
 refine ent_o rfl (ok_extract rfl rfl) ?_
 refine ent_o rfl (ok_extract rfl rfl) ?_
 refine emm rfl ?_
 refine enk K2 ?_
 refine ent_seq fun _ K3 => ?_
 refine esr rfl fun _ K4 => ?_
 refine ent_o rfl (ok_neq rfl rfl) ?_
 refine enk K4 ?_
 refine ent_condD rfl (fun h12 => ?_) (fun h12 => ?_)
 ·refine esk rfl ?_
  refine ent_ret ?_
  exact retR2 (.inr rfl) Try.results17 (resr_tmp (res_cv rfl (cv_nil (fun _ => rfl) (by exact (wtsL_no h12).symm)))) (resr_tmp (res_cv rfl (cv_int (by rfl))))
 ·have hs := Classical.not_not.1 h12
  have hk := (sizE_zero.1 hs).1
  have hsv := sizV_ok hs
  have hsq := (sizE_zero.1 hs).2
  have hn1 := hk.n1
  have hn64 := hk.n64
  have hwl := wdsL_ok hs
  have lwd : (wdsL c).length = (c.F.q ^ c.Gen.length).toNat := by rw [hwl]; exact length_mapR _ _
  refine esp K3 ?_
  refine esr rfl fun _ K6 => ?_
  refine ent_o rfl (ok_fieldAddrEx Try.runUnderlying27 rfl Try.sizeOf3 (by decide) rfl) ?_
  refine ent_o rfl (ok_loadB (k := 0) Try.isAgg3 rfl rfl rfl) ?_
  refine ent_make aInt 0 rfl vt22 rfl rfl (by omega) (by omega) (by omega) (fun _ _ => rfl) (AllV.mem ⟨rfl, trivial⟩) (fun b17_2 => ?_)
  refine ent_o rfl (ok_callF [0] (CtrF.sl (rProfile_ok (wdsL c) (List.replicate ((c.N).toNat) 0) (by first | rfl | assumption | omega | (simp_all; done) | grind) (by first | rfl | assumption | omega | (simp_all; done) | grind))) ⟨arg_a rfl (cv_id (sub_lent _)), arg_a rfl (cv_vec (k := 0) (off_lent rfl (by decide)) (by first | rfl | assumption | (simp; done) | (simp_all; done) | omega) (by first | rfl | assumption | omega | (simp_all; done) | grind)), trivial⟩) ?_
  refine emm rfl ?_
  refine enk K6 ?_
  refine ent_ret ?_
  exact retR2 (.inr rfl) Try.results17 (resr_tmp (res_cv rfl (cv_sl sub_x (by rw [wtsL_ok hs, hwl]; exact his_ref hk)))) (resr_tmp (res_cv rfl (cv_int (by exact hs.symm))))

theorem eWeights_ok (c : Cod)  : Ctr Try.prog 16 [aCod c] (aTup [aSl 1 false aInt (wtsL c), aInt (sizE c)]) := by
 refine ctrM_of Try.call16 Try.func16 rfl rfl ?_
 intro w O
 refine ent_lenC 0 2 rfl rfl (fun hlen0_2 => ?_)
 refine ent_lenC 0 4 rfl rfl (fun hlen0_4 => ?_)
 refine esr rfl fun _ K1 => ?_
 refine ent_boxS rfl rfl (AllOne.mem ⟨(one_int _), (one_int _), one_sl, (one_int _), one_sl, trivial⟩) (fun b1_1 => ?_)
 refine emm rfl ?_
 refine enk K1 ?_
 refine ent_seq fun _ K2 => ?_
 refine esr rfl fun _ K3 => ?_
 refine ent_o rfl (ok_loadBS (k := 0) ti27 rfl rfl rfl) ?_
 refine ent_o rfl (ok_call (cSize_ok c) rfl) ?_
 refine emm rfl ?_
 refine ent_o rfl (ok_extract rfl rfl) ?_
 refine ent_o rfl (ok_extract rfl rfl) ?_
 refine emm rfl ?_
 refine enk K3 ?_
 refine esr rfl fun _ K4 => ?_
 refine ent_o rfl (ok_neq rfl rfl) ?_
 refine enk K4 ?_
 refine ent_condD rfl (fun h15 => ?_) (fun h15 => ?_)
 ·refine esk rfl ?_
  refine ent_ret ?_
  refine ent_leave0 (.inr rfl) ?_
  exact retR2 (.inr rfl) Try.results16 (resr_tmp (res_cv rfl (cv_nil (fun _ => rfl) (by exact (wtsL_no h15).symm)))) (resr_tmp (res_cv rfl (cv_int (by rfl))))
 ·have hs := Classical.not_not.1 h15
  have hk := (sizE_zero.1 hs).1
  have hsv := sizV_ok hs
  have hsq := (sizE_zero.1 hs).2
  have hn1 := hk.n1
  have hn64 := hk.n64
  refine esp K2 ?_
  refine esr rfl fun _ K6 => ?_
  refine ent_o rfl (ok_fieldAddrEx Try.runUnderlying27 rfl Try.sizeOf3 (by decide) rfl) ?_
  refine ent_o rfl (ok_loadB (k := 0) Try.isAgg3 rfl rfl rfl) ?_
  refine ent_o rfl (ok_add rfl rfl (by omega) (by omega)) ?_
  refine ent_make aInt 0 rfl vt22 rfl rfl (by omega) (by omega) (by omega) (fun _ _ => rfl) (AllV.mem ⟨rfl, trivial⟩) (fun b20_2 => ?_)
  refine ent_alloc (z := (.slice none 0 0)) [aEx (.slice none 0 0)] rfl zv22 rfl zc22 (fun b6_3 => ?_)
  refine ent_storeB (k := 0) Try.sizeOf22 rfl rfl rfl (one_ex rfl) rfl ?_
  refine enk K6 ?_
  refine ent_seq fun _ K7 => ?_
  refine esr rfl fun _ K8 => ?_
  refine ent_o rfl (ok_loadBS (k := 2) ti27 rfl rfl rfl) ?_
  refine ent_o rfl (ok_call (Walk_ok c) rfl) ?_
  refine enk K8 ?_
  refine ent_block ?_
  refine ent_rangeFn (p1 := 23) (p2 := 24) [(6, aEx (.pointer (some ⟨b6_3, 0, none⟩))), (22, aClo 79 [aAt 5 true (aCod c)])] (fun (ii : Int) => [(6, aEx (.pointer (some ⟨b6_3, 0, none⟩))), (8, aSl 1 false aInt (wdF c.F c.N c.Gen ii))]) (fun (xs : List Int) => ([oBox b6_3 22 [aEx (vec (some b20_2) ((c.N + 1).toNat) ((c.N + 1).toNat))], oVec (some b20_2) ((c.N + 1).toNat) 3 1 false aInt xs, oBox b1_1 27 [aInt c.F.P, aInt c.F.M, aSl 1 false aInt c.F.mod, aInt c.N, aSl 1 false aInts c.Gen]] : List Own)) (fun (ii : Int) => fun (xs : List Int) => (xs = hisTo (c.N + 1) (fun i => wt (wdF c.F c.N c.Gen i)) ii.toNat)) (c.F.q ^ c.Gen.length) (fun (ii : Int) => aSl 1 false aInt (wdF c.F c.N c.Gen ii)) (List.replicate ((c.N + 1).toNat) 0) rfl rfl rfl rfl (fun l T hY => Walk1_ok c l T _ _ hk hsq rfl hY) (ent_rep ⟨rfl, rfl, trivial⟩ rfl) ?_ ?_ ?_
  ·rintro l ii xs hi0 hi1 hx w' X' M' KK hKK
   show Ent _ ⟨_ :: _, [_, _, _]⟩ _
   refine entI_region (fun _ _ h => h) rfl ?_
   refine emm rfl ?_
   refine ent_nil ?_
   exact ent_kk hKK (ent_rep ⟨rfl, rfl, trivial⟩ rfl)
  ·rintro l ii xs hi0 hi1 hx w' X' M'
   show Ent _ ⟨_, [_, _, _]⟩ _
   have lxs : xs.length = (c.N + 1).toNat := by rw [hx]; exact length_hisTo _ _ _
   have hwb := hk.wt_le ii
   have hhb := his_bd (n := c.N + 1) (g := fun i => wt (wdF c.F c.N c.Gen i)) (k := ii.toNat) (j := wt (wdF c.F c.N c.Gen ii)) (fun i _ _ => hk.wt_le i) hwb.1 hwb.2
   rw [← hx] at hhb
   refine entI_block ?_
   refine entI_draw 7 mixed rfl (by kernel_rfl) (by kernel_rfl) (by kernel_rfl) ?_
   refine dw_o rfl (ok_loadB (k := 0) Try.isAgg22 rfl rfl rfl) ?_
   refine dw_o rfl (ok_move rfl) ?_
   refine dw_o rfl (ok_call (weight_ok (wdF c.F c.N c.Gen ii)) rfl) ?_
   refine dw_o rfl (ok_indexV sl22 rfl rfl (by omega) (by omega)) ?_
   refine dw_o rfl (ok_loadV (k := 1) 0 ti3 rfl rfl (by omega) (by omega)) ?_
   refine dw_o rfl (ok_add rfl rfl (by omega) (by omega)) ?_
   refine dw_o rfl (ok_indexV sl22 rfl rfl (by omega) (by omega)) ?_
   refine dw_nil ?_
   refine entL_list (fun _ _ h => h) rfl ?_
   refine ent_storeV (k := 1) (z := (ix 0 xs (wt (wdF c.F c.N c.Gen ii))) + 1) ti3 rfl rfl rfl (elem_one (one_int _)) (by omega) (by omega) ?_
   refine ent_nil ?_
   exact ent_roundEnd (List.set xs (wt (wdF c.F c.N c.Gen ii)).toNat ((ix 0 xs (wt (wdF c.F c.N c.Gen ii))) + 1)) (by rw [hx, his_step hi0]) (ent_rep trivial rfl)
  rintro D22 xs hx
  show Ent _ ⟨_, [_, _, _, _]⟩ _
  refine ent_k K7 ?_
  refine esr rfl fun _ K9 => ?_
  refine ent_o rfl (ok_loadB (k := 1) Try.isAgg22 rfl rfl rfl) ?_
  refine emm rfl ?_
  refine enk K9 ?_
  refine ent_ret ?_
  refine ent_leaveM (.inr rfl) ?_
  exact retR2 (.inr rfl) Try.results16 (resr_tmp (res_cv rfl (cv_vec (k := 1) (off_x rfl) (by first | rfl | assumption | (simp; done) | (simp_all; done) | omega) (by rw [wtsL_ok hs]; exact hx)))) (resr_tmp (res_cv rfl (cv_int (by exact hs.symm))))
end Go.Proofs.Ytbofipdmoocflaa

