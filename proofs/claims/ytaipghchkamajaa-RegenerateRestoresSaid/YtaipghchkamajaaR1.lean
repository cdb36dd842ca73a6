/-
  Walks of functions of the program and the reference.
-/
import Derived.Test.YtaipghchkamajaaProg
import Derived.Test.YtaipghchkamajaaTab
import Derived.Test.YtaipghchkamajaaPlainJ1
import Derived.Test.YtaipghchkamajaaPlainJ2
import Derived.Test.YtaipghchkamajaaCzLib
import Derived.Test.YtaipghchkamajaaA2
import Derived.Test.YtaipghchkamajaaA4
import Derived.Test.YtaipghchkamajaaA5
import Derived.Test.YtaipghchkamajaaA6
import Derived.Test.YtaipghchkamajaaA7
import Derived.Test.YtaipghchkamajaaA9
import Derived.Test.YtaipghchkamajaaA10
import Derived.Test.YtaipghchkamajaaB1
import Derived.Test.YtaipghchkamajaaC11
import Derived.Test.YtaipghchkamajaaC12
import Derived.Test.YtaipghchkamajaaC13
import Derived.Test.YtaipghchkamajaaC14
import Derived.Test.YtaipghchkamajaaC16
import Derived.Test.YtaipghchkamajaaC18
import Derived.Test.YtaipghchkamajaaC19
import Derived.Test.YtaipghchkamajaaC22
open Go Go.Cw
namespace Go.Proofs.Ytaipghchkamajaa
set_option maxRecDepth 100000
set_option linter.unusedVariables false
set_option linter.unusedSimpArgs false
theorem at_ok (r : Rgn) (l : List Int) (hl : ∀ i ∈ l, 0 ≤ i ∧ i < r.Points.length) (hm : l.length ≤ 1000) : Ctr Try.prog 74 [aRgn r, aSl 1 false aInt l] (aSl 1 false aInt (pickL r.Points l)) := by
 refine ctr_of Try.call74 Try.func74 rfl rfl ?_
 intro w O
 refine ent_lenC 0 2 rfl rfl (fun hlen0_2 => ?_)
 refine ent_lenC 0 6 rfl rfl (fun hlen0_6 => ?_)
 refine ent_len 1 rfl (fun hlen1 => ?_)
 refine esr rfl fun _ K1 => ?_
 refine ent_boxS rfl rfl (AllOne.mem ⟨(one_int _), (one_int _), one_sl, (one_int _), (one_int _), (one_int _), one_sl, trivial⟩) (fun b2_1 => ?_)
 refine emm rfl ?_
 refine enk K1 ?_
 refine esk rfl ?_
 refine ent_seq fun _ K3 => ?_
 refine esr rfl fun _ K4 => ?_
 refine ent_o rfl (ok_len rfl Try.runUnderlying29 rfl) ?_
 refine emm rfl ?_
 refine enk K4 ?_
 refine ent_block ?_
 refine ent_open 3 1 false aInt (fun _ => rfl) ?_
 refine ent_loop (fun (ss : Int × Option Nat × Nat) => match ss with | (i, rr3, cc3) => (⟨[(2, aEx (.pointer (some ⟨b2_1, 0, none⟩))), (5, aEx (vec rr3 (((pickL r.Points l).take i.toNat).length) cc3)), (8, aSl 1 false aInt l), (9, aInt (↑l.length : Int)), (10, aInt i)], [oVec rr3 cc3 3 1 false aInt ((pickL r.Points l).take i.toNat), oBox b2_1 53 [aInt r.F.P, aInt r.F.M, aSl 1 false aInt r.F.mod, aInt r.Kind, aInt r.K, aInt r.D, aSl 1 false aInt r.Points]]⟩ : St)) (fun (ss : Int × Option Nat × Nat) => match ss with | (i, rr3, cc3) => (0 ≤ i) ∧ (i ≤ l.length)) (fun (ss : Int × Option Nat × Nat) => match ss with | (i, rr3, cc3) => (l.length - i).toNat) (0, none, 0) ⟨(by first | rfl | assumption | omega | (simp_all; done) | grind), (by first | rfl | assumption | omega | (simp_all; done) | grind)⟩ (ent_rep ⟨rfl, slot_av ((show aEx (vec none ([] : List _).length 0) = aEx (vec none (((pickL r.Points l).take (0 : Int).toNat).length) 0) from av_vec (congrArg List.length (show (pickL r.Points l).take (0 : Int).toNat = [] by rfl).symm))), rfl, rfl, slot_av (av_int (show 0 = (0 : Int) by first | rfl | assumption | omega | (simp_all; done) | grind)), trivial⟩ (own_cons (own_vec (show (pickL r.Points l).take (0 : Int).toNat = [] by rfl)) (rfl))) ?_
 rintro ⟨i, rr3, cc3⟩ ⟨h0, h1⟩
 show Ent _ ⟨_, [_, _]⟩ _
 have ltp : ((pickL r.Points l).take i.toNat).length = i.toNat := by rw [List.length_take]; simp [pickL]; omega
 refine esr rfl fun _ K5 => ?_
 refine ent_o rfl (ok_lss rfl rfl) ?_
 refine enk K5 ?_
 refine ent_seq fun _ K6 => ?_
 refine ent_condD rfl (fun h11 => ?_) (fun h11 => ?_)
 ·have hp := hl _ (ix_mem 0 l h0 h11)
  refine esp K6 ?_
  refine ent_seq fun _ K7 => ?_
  refine ent_block ?_
  refine esr rfl fun _ K8 => ?_
  refine ent_o rfl (ok_index 0 sl29 rfl rfl (by first | omega | (simp; omega)) (by first | omega | (simp; omega))) ?_
  refine ent_o rfl (ok_load ti3 rfl) ?_
  refine emm rfl ?_
  refine enk K8 ?_
  refine ent_region ?_
  refine emm rfl ?_
  refine ent_o rfl (ok_fieldAddrEx Try.runUnderlying53 rfl Try.sizeOf29 (by decide) rfl) ?_
  refine ent_o rfl (ok_loadB (k := 1) Try.isAgg29 rfl rfl rfl) ?_
  refine emm rfl ?_
  refine ent_o rfl (ok_index 0 sl29 rfl rfl (by first | omega | (simp; omega)) (by first | omega | (simp; omega))) ?_
  refine ent_o rfl (ok_load ti3 rfl) ?_
  refine ent_appendL (k := 0) (enc := aInt) (y := ix 0 r.Points (ix 0 l i)) rfl rfl vt29 rfl rfl (by first | rfl | assumption | (simp; done) | (simp_all; done) | omega) rfl ((elem_one (one_int _))) (by first | omega | (simp only [List.length_append, List.length_cons, List.length_nil]; omega) | (simp; omega)) (by first | omega | (simp only [List.length_append, List.length_cons, List.length_nil]; omega) | (simp; omega)) (by decide) (fun b21_4 c21_4 => ?_)
  refine emm rfl ?_
  refine enk K7 ?_
  refine ent_region ?_
  refine ent_o rfl (ok_add rfl rfl (by first | omega | (simp; omega)) (by first | omega | (simp; omega))) ?_
  refine emm rfl ?_
  refine ent_nil ?_
  refine ent_again (s := (i, rr3, cc3)) (i + 1, (some b21_4), c21_4) ⟨(by first | rfl | assumption | omega | (simp_all; done) | grind), (by first | rfl | assumption | omega | (simp_all; done) | grind)⟩ (by first | omega | (dsimp only; omega)) (ent_rep ⟨rfl, slot_av (av_vec (congrArg List.length (show (pickL r.Points l).take (i + 1).toNat = ((pickL r.Points l).take i.toNat) ++ [ix 0 r.Points (ix 0 l i)] by rw [take_succ_ix 0 (pickL r.Points l) h0 (by simp [pickL]; omega), ix_pickL h0 h11]).symm)), rfl, rfl, rfl, trivial⟩ (own_cons (own_vec (show (pickL r.Points l).take (i + 1).toNat = ((pickL r.Points l).take i.toNat) ++ [ix 0 r.Points (ix 0 l i)] by rw [take_succ_ix 0 (pickL r.Points l) h0 (by simp [pickL]; omega), ix_pickL h0 h11])) (rfl)))
 ·refine ent_exit ?_
  refine ent_k K3 ?_
  refine esk rfl ?_
  refine ent_ret ?_
  exact retR1 (.inr rfl) Try.results74 (resr_tmp (res_cv rfl (cv_vec (k := 0) (off_x rfl) (by first | rfl | assumption | (simp; done) | (simp_all; done) | omega) (by rw [List.take_of_length_le (by simp [pickL]; omega)]))))

theorem rgRows_ok (f : Fld) (xs : List Int) (n : Int) (hF : FOk f) (hn0 : 0 ≤ n) (hn1 : n ≤ 64) (hm : xs.length ≤ 1000) : Ctr Try.prog 66 [aGF f, aSl 1 false aInt xs, aInt n] (aMat (⟨n, vdm f xs n⟩ : Mat)) := by
 refine ctr_of Try.call66 Try.func66 rfl rfl ?_
 intro w O
 refine ent_lenP 0 4 rfl rfl (fun hlen0_4 => ?_)
 refine ent_lenP 0 5 rfl rfl (fun hlen0_5 => ?_)
 refine ent_len 1 rfl (fun hlen1 => ?_)
 refine esr rfl fun _ K1 => ?_
 refine ent_alloc (z := .agg #[.int .i64 0, .slice none 0 0]) [aInt 0, aEx (.slice none 0 0)] rfl zv107 rfl zc107 (fun b6_1 => ?_)
 refine enk K1 ?_
 refine esr rfl fun _ K2 => ?_
 refine ent_o rfl (ok_build st107 (As := [aInt 0, aEx (.slice none 0 0)]) z107 (⟨0, 1, rfl, .inl ⟨rfl, _, rfl, (one_int _), rfl, rfl⟩⟩)) ?_
 refine ent_alloc (z := .agg #[.int .i64 0, .slice none 0 0]) [aInt 0, aEx (.slice none 0 0)] rfl zv107 rfl zc107 (fun b7_2 => ?_)
 refine ent_storeBS (k := 0) Try.sizeOf107 rfl rfl rfl (AllOne.mem ⟨(one_int _), (one_ex rfl), trivial⟩) rfl rfl ?_
 show Ent _ ⟨_, [_, _]⟩ _
 refine enk K2 ?_
 refine ent_seq fun _ K3 => ?_
 refine esr rfl fun _ K4 => ?_
 refine ent_o rfl (ok_len rfl Try.runUnderlying29 rfl) ?_
 refine emm rfl ?_
 refine enk K4 ?_
 refine ent_block ?_
 refine ent_open 29 1 false aInts (fun _ => rfl) ?_
 refine ent_loop (fun (ss : Int × Option Nat × Nat) => match ss with | (i, rr4, cc4) => (⟨[(0, aGF f), (2, aInt n), (6, aEx (.pointer (some ⟨b6_1, 0, none⟩))), (7, aEx (.pointer (some ⟨b7_2, 0, none⟩))), (12, aSl 1 false aInt xs), (13, aInt (↑xs.length : Int)), (14, aInt i)], [oVec rr4 cc4 29 1 false aInts (mapT (fun x => powsF f x n) xs i), oBox b7_2 107 [aInt n, aEx (vec rr4 ((mapT (fun x => powsF f x n) xs i).length) cc4)], oBox b6_1 107 [aInt 0, aEx (.slice none 0 0)]]⟩ : St)) (fun (ss : Int × Option Nat × Nat) => match ss with | (i, rr4, cc4) => (0 ≤ i) ∧ (i ≤ xs.length)) (fun (ss : Int × Option Nat × Nat) => match ss with | (i, rr4, cc4) => (xs.length - i).toNat) (0, none, 0) ⟨(by first | rfl | assumption | omega | (simp_all; done) | grind), (by first | rfl | assumption | omega | (simp_all; done) | grind)⟩ (ent_rep ⟨rfl, rfl, rfl, rfl, rfl, rfl, slot_av (av_int (show 0 = (0 : Int) by first | rfl | assumption | omega | (simp_all; done) | grind)), trivial⟩ (own_cons (own_vec (show mapT (fun x => powsF f x n) xs (0 : Int) = [] by first | rfl | simp [mapT_zero])) (own_cons (own_box (av_cons rfl (av_cons ((by first | rfl | simp [mapT_zero])) (rfl)))) (rfl)))) ?_
 rintro ⟨i, rr4, cc4⟩ ⟨k0, k1⟩
 show Ent _ ⟨_, [_, _, _]⟩ _
 have lf := length_mapT (fun x => powsF f x n) xs (i := i) (by omega)
 refine esr rfl fun _ K5 => ?_
 refine ent_o rfl (ok_lss rfl rfl) ?_
 refine enk K5 ?_
 refine ent_seq fun _ K6 => ?_
 refine ent_condD rfl (fun h15 => ?_) (fun h15 => ?_)
 ·refine esp K6 ?_
  refine ent_seq fun _ K7 => ?_
  refine ent_block ?_
  refine esr rfl fun _ K8 => ?_
  refine ent_o rfl (ok_index 0 sl29 rfl rfl (by omega) (by omega)) ?_
  refine ent_o rfl (ok_load ti3 rfl) ?_
  refine emm rfl ?_
  refine enk K8 ?_
  refine ent_draw 7 mixed (by kernel_rfl) (by kernel_rfl) (by kernel_rfl) ?_
  refine dw_o rfl (ok_fieldAddrEx Try.runUnderlying107 rfl Try.sizeOf65 (by decide) rfl) ?_
  refine dw_o rfl (ok_loadB (k := 1) Try.isAgg65 rfl rfl rfl) ?_
  refine dw_o rfl (ok_move rfl) ?_
  refine dw_o rfl (ok_move rfl) ?_
  refine dw_o rfl (ok_move rfl) ?_
  refine dw_o rfl (ok_call (CtrF.ctr (CtrF.sl (RgPowers_ok f (ix 0 xs i) n (by first | rfl | assumption | omega | (simp_all; done) | grind) (by first | rfl | assumption | omega | (simp_all; done) | grind) (by first | rfl | assumption | omega | (simp_all; done) | grind)))) rfl) ?_
  refine dw_o rfl (ok_build1 (enc := aInts) (y := powsF f (ix 0 xs i) n) vt65 rfl (elem_one one_sl) (by decide)) ?_
  refine dw_nil ?_
  refine ent_appendS (k := 0) rfl vt65 rfl rfl (by first | rfl | assumption | (simp; done) | (simp_all; done) | omega) rfl (cv_id sub_refl) (by first | omega | (simp only [List.length_append, List.length_cons, List.length_nil]; omega) | (simp; omega)) (by first | omega | (simp only [List.length_append, List.length_cons, List.length_nil]; omega) | (simp; omega)) (fun r25_4 cr25_4 => ?_)
  refine ent_o rfl (ok_fieldAddrEx Try.runUnderlying107 rfl Try.sizeOf65 (by decide) rfl) ?_
  refine ent_storeB (k := 1) Try.sizeOf65 rfl rfl rfl (one_ex rfl) rfl ?_
  refine enk K7 ?_
  refine ent_region ?_
  refine ent_o rfl (ok_add rfl rfl (by omega) (by omega)) ?_
  refine emm rfl ?_
  refine ent_nil ?_
  refine ent_again (s := (i, rr4, cc4)) (i + 1, r25_4, cr25_4) ⟨(by first | rfl | assumption | omega | (simp_all; done) | grind), (by first | rfl | assumption | omega | (simp_all; done) | grind)⟩ (by first | omega | (dsimp only; omega)) (ent_rep ⟨rfl, rfl, rfl, rfl, rfl, rfl, rfl, trivial⟩ (own_cons (own_vec (show mapT (fun x => powsF f x n) xs (i + 1) = (mapT (fun x => powsF f x n) xs i) ++ [powsF f (ix 0 xs i) n] by exact mapT_succ 0 _ xs k0 h15)) (own_cons (own_box (av_cons rfl (av_cons (av_vec (congrArg List.length (show mapT (fun x => powsF f x n) xs (i + 1) = (mapT (fun x => powsF f x n) xs i) ++ [powsF f (ix 0 xs i) n] by exact mapT_succ 0 _ xs k0 h15))) (rfl)))) (rfl))))
 ·refine ent_exit ?_
  refine ent_k K3 ?_
  refine esr rfl fun _ K9 => ?_
  refine ent_o rfl (ok_loadBS (k := 1) ti107 rfl rfl rfl) ?_
  refine ent_storeBS (k := 2) Try.sizeOf107 rfl rfl rfl (AllOne.mem ⟨(one_int _), (one_ex rfl), trivial⟩) rfl rfl ?_
  show Ent _ ⟨_, [_, _, _]⟩ _
  refine enk K9 ?_
  refine ent_ret ?_
  exact retR1 (.inr rfl) Try.results66 (resr_cell (k := 2) ti107 rfl rfl rfl (cv_agg ⟨cv_int (by first | rfl | (rw [mapT_all _ _ (by omega)]; rfl)), cv_vec (k := 0) (off_x rfl) (by first | rfl | assumption | (simp; done) | (simp_all; done) | omega) (by first | rfl | (rw [mapT_all _ _ (by omega)]; rfl)), trivial⟩))

theorem rNodes_ok (r : Rgn) (l : List Int) (m but : Int)  : Ctr Try.prog 44 [aRgn r, aSl 1 false aInt l, aInt m, aInt but] (aInt (nodErr r.Points.length m but l)) := by
 refine ctr_of Try.call44 Try.func44 rfl rfl ?_
 intro w O
 refine ent_lenC 0 2 rfl rfl (fun hlen0_2 => ?_)
 refine ent_lenC 0 6 rfl rfl (fun hlen0_6 => ?_)
 refine ent_len 1 rfl (fun hlen1 => ?_)
 refine esr rfl fun _ K1 => ?_
 refine ent_boxS rfl rfl (AllOne.mem ⟨(one_int _), (one_int _), one_sl, (one_int _), (one_int _), (one_int _), one_sl, trivial⟩) (fun b4_1 => ?_)
 refine emm rfl ?_
 refine enk K1 ?_
 refine ent_seq fun _ K2 => ?_
 refine esr rfl fun _ K3 => ?_
 refine ent_o rfl (ok_len rfl Try.runUnderlying29 rfl) ?_
 refine emm rfl ?_
 refine ent_o rfl (ok_neq rfl rfl) ?_
 refine enk K3 ?_
 refine ent_condD rfl (fun h15 => ?_) (fun h15 => ?_)
 ·refine esk rfl ?_
  refine ent_ret ?_
  exact retR1 (.inr rfl) Try.results44 (resr_tmp (res_cv rfl (cv_int (by exact (if_pos h15).symm))))
 ·have hlm : (l.length : Int) = m := Classical.not_not.1 h15
  refine esp K2 ?_
  refine ent_seq fun _ K5 => ?_
  refine esk rfl ?_
  refine ent_block ?_
  refine ent_loop (fun (i : Int) => (⟨[(1, aSl 1 false aInt l), (2, aInt m), (3, aInt but), (4, aEx (.pointer (some ⟨b4_1, 0, none⟩))), (9, aInt i)], [oBox b4_1 53 [aInt r.F.P, aInt r.F.M, aSl 1 false aInt r.F.mod, aInt r.Kind, aInt r.K, aInt r.D, aSl 1 false aInt r.Points]]⟩ : St)) (fun (i : Int) => (0 ≤ i) ∧ (i ≤ l.length) ∧ (¬ badIn r.Points.length but (l.take i.toNat))) (fun (i : Int) => (l.length - i).toNat) 0 ⟨(by first | rfl | assumption | omega | (simp_all; done) | grind), (by first | rfl | assumption | omega | (simp_all; done) | grind), (by simp [badIn])⟩ (ent_rep ⟨rfl, rfl, rfl, rfl, slot_av (av_int (show 0 = (0 : Int) by first | rfl | assumption | omega | (simp_all; done) | grind)), trivial⟩ rfl) ?_
  rintro i ⟨h0, h1, hn⟩
  show Ent _ ⟨_, [_]⟩ _
  refine ent_seq fun _ K7 => ?_
  refine esr rfl fun _ K8 => ?_
  refine ent_o rfl (ok_lss rfl rfl) ?_
  refine enk K8 ?_
  refine ent_condD rfl (fun h18 => ?_) (fun h18 => ?_)
  ·refine esp K7 ?_
   refine ent_seq fun _ K9 => ?_
   refine ent_block ?_
   refine ent_seq fun _ K10 => ?_
   refine ent_cut (⟨[(1, aSl 1 false aInt l), (2, aInt m), (3, aInt but), (4, aEx (.pointer (some ⟨b4_1, 0, none⟩))), (9, aInt i), (43, aBool (decide ((((ix 0 l i) < 0) ∨ ((↑r.Points.length : Int) ≤ (ix 0 l i))) ∨ ((ix 0 l i) = but))))], [oBox b4_1 53 [aInt r.F.P, aInt r.F.M, aSl 1 false aInt r.F.mod, aInt r.Kind, aInt r.K, aInt r.D, aSl 1 false aInt r.Points]]⟩) ?_ ?_
   ·refine ent_draw 23 mixed (by kernel_rfl) (by kernel_rfl) (by kernel_rfl) ?_
    refine dw_o rfl (ok_move rfl) ?_
    refine dw_o rfl (ok_move rfl) ?_
    refine dw_o rfl (ok_index 0 sl29 rfl rfl (by omega) (by omega)) ?_
    refine dw_o rfl (ok_load ti3 rfl) ?_
    refine dw_o rfl (ok_lss rfl rfl) ?_
    refine dw_o rfl (ok_move rfl) ?_
    refine dw_guardDf rfl rfl rfl rfl (fun hg26 => ?_) (fun hg26 => ?_)
    ·refine dw_o rfl (ok_move rfl) ?_
     refine dw_guardT rfl rfl rfl rfl (decide_eq_false hg26) ?_
     refine dw_o rfl (ok_move rfl) ?_
     refine dw_guardT rfl rfl rfl rfl (decide_eq_false hg26) ?_
     refine dw_o rfl (ok_index 0 sl29 rfl rfl (by omega) (by omega)) ?_
     refine dw_guardT rfl rfl rfl rfl (decide_eq_false hg26) ?_
     refine dw_o rfl (ok_load ti3 rfl) ?_
     refine dw_guardT rfl rfl rfl rfl (decide_eq_false hg26) ?_
     refine dw_o rfl (ok_fieldAddrEx Try.runUnderlying53 rfl Try.sizeOf29 (by decide) rfl) ?_
     refine dw_guardT rfl rfl rfl rfl (decide_eq_false hg26) ?_
     refine dw_o rfl (ok_loadB (k := 0) Try.isAgg29 rfl rfl rfl) ?_
     refine dw_guardT rfl rfl rfl rfl (decide_eq_false hg26) ?_
     refine dw_o rfl (ok_len rfl Try.runUnderlying29 rfl) ?_
     refine dw_guardT rfl rfl rfl rfl (decide_eq_false hg26) ?_
     refine dw_o rfl (ok_geq rfl rfl) ?_
     refine dw_o rfl (ok_pickF rfl (decide_eq_false hg26) rfl) ?_
     refine dw_o rfl (ok_move rfl) ?_
     refine dw_guardDf rfl rfl rfl rfl (fun hg36 => ?_) (fun hg36 => ?_)
     ·refine dw_o rfl (ok_move rfl) ?_
      refine dw_guardT rfl rfl rfl rfl (decide_eq_false hg36) ?_
      refine dw_o rfl (ok_move rfl) ?_
      refine dw_guardT rfl rfl rfl rfl (decide_eq_false hg36) ?_
      refine dw_o rfl (ok_index 0 sl29 rfl rfl (by omega) (by omega)) ?_
      refine dw_guardT rfl rfl rfl rfl (decide_eq_false hg36) ?_
      refine dw_o rfl (ok_load ti3 rfl) ?_
      refine dw_guardT rfl rfl rfl rfl (decide_eq_false hg36) ?_
      refine dw_o rfl (ok_move rfl) ?_
      refine dw_guardT rfl rfl rfl rfl (decide_eq_false hg36) ?_
      refine dw_o rfl (ok_eql rfl rfl) ?_
      refine dw_o rfl (ok_pickF rfl (decide_eq_false hg36) rfl) ?_
      refine dw_nil ?_
      refine ent_nil ?_
      exact ent_rep ⟨rfl, rfl, rfl, rfl, rfl, slot_bool (dq_Q ((or_iff_right (fun h => h.elim hg26 hg36)).trans Iff.rfl)), trivial⟩ rfl
     ·refine dw_guardF rfl rfl rfl rfl (decide_eq_true hg36) ?_
      refine dw_guardF rfl rfl rfl rfl (decide_eq_true hg36) ?_
      refine dw_guardF rfl rfl rfl rfl (decide_eq_true hg36) ?_
      refine dw_guardF rfl rfl rfl rfl (decide_eq_true hg36) ?_
      refine dw_guardF rfl rfl rfl rfl (decide_eq_true hg36) ?_
      refine dw_o rfl (ok_pickT rfl (decide_eq_true hg36) rfl) ?_
      refine dw_nil ?_
      refine ent_nil ?_
      exact ent_rep ⟨rfl, rfl, rfl, rfl, rfl, slot_bool (dq_T rfl (Or.inl (Or.inr hg36))), trivial⟩ rfl
    ·refine dw_guardF rfl rfl rfl rfl (decide_eq_true hg26) ?_
     refine dw_guardF rfl rfl rfl rfl (decide_eq_true hg26) ?_
     refine dw_guardF rfl rfl rfl rfl (decide_eq_true hg26) ?_
     refine dw_guardF rfl rfl rfl rfl (decide_eq_true hg26) ?_
     refine dw_guardF rfl rfl rfl rfl (decide_eq_true hg26) ?_
     refine dw_guardF rfl rfl rfl rfl (decide_eq_true hg26) ?_
     refine dw_guardF rfl rfl rfl rfl (decide_eq_true hg26) ?_
     refine dw_o rfl (ok_pickT rfl (decide_eq_true hg26) rfl) ?_
     refine dw_o rfl (ok_move rfl) ?_
     refine dw_guardF rfl rfl rfl rfl rfl ?_
     refine dw_guardF rfl rfl rfl rfl rfl ?_
     refine dw_guardF rfl rfl rfl rfl rfl ?_
     refine dw_guardF rfl rfl rfl rfl rfl ?_
     refine dw_guardF rfl rfl rfl rfl rfl ?_
     refine dw_guardF rfl rfl rfl rfl rfl ?_
     refine dw_o rfl (ok_pickT rfl rfl rfl) ?_
     refine dw_nil ?_
     refine ent_nil ?_
     exact ent_rep ⟨rfl, rfl, rfl, rfl, rfl, slot_bool (dq_T rfl (Or.inl (Or.inl hg26))), trivial⟩ rfl
   refine ent_k K10 ?_
   refine ent_condD rfl (fun h43 => ?_) (fun h43 => ?_)
   ·refine esk rfl ?_
    refine ent_ret ?_
    exact retR1 (.inr rfl) Try.results44 (resr_tmp (res_cv rfl (cv_int (by rw [nodErr, if_neg h15, lstErr, if_pos (badIn_at h0 (by omega) h43)]))))
   ·refine esp K9 ?_
    refine ent_region ?_
    refine emm rfl ?_
    refine ent_o rfl (ok_add rfl rfl (by omega) (by omega)) ?_
    refine emm rfl ?_
    refine ent_nil ?_
    refine ent_again (s := (i)) (i + 1) ⟨(by first | rfl | assumption | omega | (simp_all; done) | grind), (by first | rfl | assumption | omega | (simp_all; done) | grind), (badIn_succ h0 (by omega) hn h43)⟩ (by first | omega | (dsimp only; omega)) (ent_rep ⟨rfl, rfl, rfl, rfl, rfl, trivial⟩ rfl)
  ·refine ent_exit ?_
   refine ent_k K5 ?_
   refine ent_seq fun _ K12 => ?_
   refine esk rfl ?_
   refine ent_block ?_
   refine ent_loop (fun (i : Int) => (⟨[(1, aSl 1 false aInt l), (2, aInt m), (10, aInt i)], [oBox b4_1 53 [aInt r.F.P, aInt r.F.M, aSl 1 false aInt r.F.mod, aInt r.Kind, aInt r.K, aInt r.D, aSl 1 false aInt r.Points]]⟩ : St)) (fun (i : Int) => (0 ≤ i) ∧ (i ≤ l.length) ∧ ((l.take i.toNat).Nodup)) (fun (i : Int) => (l.length - i).toNat) 0 ⟨(by first | rfl | assumption | omega | (simp_all; done) | grind), (by first | rfl | assumption | omega | (simp_all; done) | grind), (by simp)⟩ (ent_rep ⟨rfl, rfl, slot_av (av_int (show 0 = (0 : Int) by first | rfl | assumption | omega | (simp_all; done) | grind)), trivial⟩ rfl) ?_
   rintro i ⟨k0, k1, kn⟩
   show Ent _ ⟨_, [_]⟩ _
   refine ent_seq fun _ K14 => ?_
   refine esr rfl fun _ K15 => ?_
   refine ent_o rfl (ok_lss rfl rfl) ?_
   refine enk K15 ?_
   refine ent_condD rfl (fun h46 => ?_) (fun h46 => ?_)
   ·refine esp K14 ?_
    refine ent_seq fun _ K16 => ?_
    refine ent_block ?_
    refine esk rfl ?_
    refine ent_block ?_
    refine ent_loop (fun (j : Int) => (⟨[(1, aSl 1 false aInt l), (2, aInt m), (10, aInt i), (11, aInt j)], [oBox b4_1 53 [aInt r.F.P, aInt r.F.M, aSl 1 false aInt r.F.mod, aInt r.Kind, aInt r.K, aInt r.D, aSl 1 false aInt r.Points]]⟩ : St)) (fun (j : Int) => (0 ≤ j) ∧ (j ≤ i) ∧ (∀ q : Nat, (q : Int) < j → ix 0 l i ≠ ix 0 l q)) (fun (j : Int) => (i - j).toNat) 0 ⟨(by first | rfl | assumption | omega | (simp_all; done) | grind), (by first | rfl | assumption | omega | (simp_all; done) | grind), (fun q hq => by omega)⟩ (ent_rep ⟨rfl, rfl, rfl, slot_av (av_int (show 0 = (0 : Int) by first | rfl | assumption | omega | (simp_all; done) | grind)), trivial⟩ rfl) ?_
    rintro j ⟨j0, j1, jn⟩
    show Ent _ ⟨_, [_]⟩ _
    refine ent_seq fun _ K18 => ?_
    refine esr rfl fun _ K19 => ?_
    refine ent_o rfl (ok_lss rfl rfl) ?_
    refine enk K19 ?_
    refine ent_condD rfl (fun h51 => ?_) (fun h51 => ?_)
    ·refine esp K18 ?_
     refine ent_seq fun _ K20 => ?_
     refine ent_block ?_
     refine ent_seq fun _ K21 => ?_
     refine ent_draw 9 mixed (by kernel_rfl) (by kernel_rfl) (by kernel_rfl) ?_
     refine dw_o rfl (ok_move rfl) ?_
     refine dw_o rfl (ok_move rfl) ?_
     refine dw_o rfl (ok_index 0 sl29 rfl rfl (by omega) (by omega)) ?_
     refine dw_o rfl (ok_load ti3 rfl) ?_
     refine dw_o rfl (ok_move rfl) ?_
     refine dw_o rfl (ok_move rfl) ?_
     refine dw_o rfl (ok_index 0 sl29 rfl rfl (by omega) (by omega)) ?_
     refine dw_o rfl (ok_load ti3 rfl) ?_
     refine dw_o rfl (ok_eql rfl rfl) ?_
     refine dw_nil ?_
     refine enk K21 ?_
     refine ent_condD rfl (fun h62 => ?_) (fun h62 => ?_)
     ·refine esk rfl ?_
      refine ent_ret ?_
      exact retR1 (.inr rfl) Try.results44 (resr_tmp (res_cv rfl (cv_int (by rw [List.take_of_length_le (by omega)] at hn; rw [nodErr, if_neg h15, lstErr, if_neg hn, if_neg (nodup_of_take (n := (i + 1).toNat) (fun h => ((nodup_take_succ l k0 (by omega)).1 h).2 (by rw [show ix 0 l i = l.getD j.toNat 0 from h62]; exact getD_mem_take 0 l _ _ (by omega) (by omega))))]))))
     ·refine esp K20 ?_
      refine ent_region ?_
      refine emm rfl ?_
      refine ent_o rfl (ok_add rfl rfl (by omega) (by omega)) ?_
      refine emm rfl ?_
      refine ent_nil ?_
      refine ent_again (s := (j)) (j + 1) ⟨(by first | rfl | assumption | omega | (simp_all; done) | grind), (by first | rfl | assumption | omega | (simp_all; done) | grind), (fun q hq => by by_cases hqj : (q : Int) = j; (rw [hqj]; exact h62); exact jn q (by omega))⟩ (by first | omega | (dsimp only; omega)) (ent_rep ⟨rfl, rfl, rfl, rfl, trivial⟩ rfl)
    ·refine ent_exit ?_
     refine ent_k K16 ?_
     refine ent_region ?_
     refine emm rfl ?_
     refine ent_o rfl (ok_add rfl rfl (by omega) (by omega)) ?_
     refine emm rfl ?_
     refine ent_nil ?_
     refine ent_again (s := (i)) (i + 1) ⟨(by first | rfl | assumption | omega | (simp_all; done) | grind), (by first | rfl | assumption | omega | (simp_all; done) | grind), ((nodup_take_succ l k0 (by omega)).2 ⟨kn, fun hm => by obtain ⟨q, q1, q2, q3⟩ := mem_take_getD 0 l _ _ hm; exact jn q (by omega) q3.symm⟩)⟩ (by first | omega | (dsimp only; omega)) (ent_rep ⟨rfl, rfl, rfl, trivial⟩ rfl)
   ·refine ent_exit ?_
    refine ent_k K12 ?_
    refine esk rfl ?_
    refine ent_ret ?_
    exact retR1 (.inr rfl) Try.results44 (resr_tmp (res_cv rfl (cv_int (by rw [List.take_of_length_le (by omega)] at hn kn; rw [nodErr, if_neg h15, lstErr, if_neg hn, if_pos kn]))))

theorem Repair_ok (r : Rgn) (x : Int) (hs sy : List Int) (hk1 : -9223372036854775808 ≤ r.K) (hk2 : r.K ≤ 9223372036854775807) (hd1 : -9223372036854775808 ≤ r.D) (hd2 : r.D ≤ 9223372036854775807) : Ctr Try.prog 41 [aRgn r, aInt x, aSl 1 false aInt hs, aSl 1 false aInt sy] (aTup [aSl 1 false aInt (repV r x hs sy), aInt (repErr r x hs sy)]) := by
 refine ctr_of Try.call41 Try.func41 rfl rfl ?_
 intro w O
 refine ent_lenC 0 2 rfl rfl (fun hlen0_2 => ?_)
 refine ent_lenC 0 6 rfl rfl (fun hlen0_6 => ?_)
 refine ent_len 2 rfl (fun hlen2 => ?_)
 refine ent_len 3 rfl (fun hlen3 => ?_)
 refine esr rfl fun _ K1 => ?_
 refine ent_boxS rfl rfl (AllOne.mem ⟨(one_int _), (one_int _), one_sl, (one_int _), (one_int _), (one_int _), one_sl, trivial⟩) (fun b4_1 => ?_)
 refine emm rfl ?_
 refine enk K1 ?_
 refine ent_seq fun _ K2 => ?_
 refine esr rfl fun _ K3 => ?_
 refine ent_o rfl (ok_loadBS (k := 0) ti53 rfl rfl rfl) ?_
 refine ent_o rfl (ok_call (RgCheck_ok r (by first | rfl | assumption | omega | (simp_all; done) | grind) (by first | rfl | assumption | omega | (simp_all; done) | grind) (by first | rfl | assumption | omega | (simp_all; done) | grind) (by first | rfl | assumption | omega | (simp_all; done) | grind)) rfl) ?_
 refine emm rfl ?_
 refine enk K3 ?_
 refine esr rfl fun _ K4 => ?_
 refine ent_o rfl (ok_neq rfl rfl) ?_
 refine enk K4 ?_
 refine ent_condD rfl (fun h26 => ?_) (fun h26 => ?_)
 ·have hqe : repErr r x hs sy = rgErr r := repErr_1 h26
  have hq0 : repErr r x hs sy ≠ 0 := by rw [hqe]; exact h26
  refine esk rfl ?_
  refine ent_ret ?_
  exact retR2 (.inr rfl) Try.results41 (resr_tmp (res_cv rfl (cv_nil (fun _ => rfl) (by first | exact (repV_no hq0).symm | (rw [repV_ok hqk, repU_0 (by omega)]; rfl) | (rw [repV_ok hqk, repU_1 (by omega), mixL_all _ _ (by first | omega | (rw [length_repW]; omega)) (by first | omega | (rw [length_repW]; omega))]; exact hre))))) (resr_tmp (res_cv rfl (cv_int (by first | exact hqe.symm | exact hqk.symm | (rw [hqk]; omega)))))
 ·have e0 := Classical.not_not.1 h26
  have RO := rgErr_zero.1 e0
  have hlen := RO.len
  have hF := RO.fld
  have hS := hF.1
  refine esp K2 ?_
  refine ent_seq fun _ K6 => ?_
  refine ent_seq fun _ K7 => ?_
  refine ent_cut (⟨[(1, aInt x), (2, aSl 1 false aInt hs), (3, aSl 1 false aInt sy), (4, aEx (.pointer (some ⟨b4_1, 0, none⟩))), (36, aBool (decide ((x < 0) ∨ ((↑r.Points.length : Int) ≤ x))))], [oBox b4_1 53 [aInt r.F.P, aInt r.F.M, aSl 1 false aInt r.F.mod, aInt r.Kind, aInt r.K, aInt r.D, aSl 1 false aInt r.Points]]⟩) ?_ ?_
  ·refine ent_region ?_
   refine emm rfl ?_
   refine ent_o rfl (ok_lss rfl rfl) ?_
   refine emm rfl ?_
   refine ent_guardXDf rfl rfl rfl rfl (fun hg30 => ?_) (fun hg30 => ?_)
   ·refine emm rfl ?_
    refine ent_guardXT rfl rfl rfl rfl (decide_eq_false hg30) ?_
    refine ent_o rfl (ok_fieldAddrEx Try.runUnderlying53 rfl Try.sizeOf29 (by decide) rfl) ?_
    refine ent_guardXT rfl rfl rfl rfl (decide_eq_false hg30) ?_
    refine ent_o rfl (ok_loadB (k := 0) Try.isAgg29 rfl rfl rfl) ?_
    refine ent_guardXT rfl rfl rfl rfl (decide_eq_false hg30) ?_
    refine ent_o rfl (ok_len rfl Try.runUnderlying29 rfl) ?_
    refine ent_guardXT rfl rfl rfl rfl (decide_eq_false hg30) ?_
    refine ent_o rfl (ok_geq rfl rfl) ?_
    refine ent_o rfl (ok_pickF rfl (decide_eq_false hg30) rfl) ?_
    refine ent_nil ?_
    exact ent_rep ⟨rfl, rfl, rfl, rfl, slot_bool (dq_Q ((or_iff_right hg30).trans Iff.rfl)), trivial⟩ rfl
   ·refine ent_guardXF rfl rfl rfl rfl (decide_eq_true hg30) ?_
    refine ent_guardXF rfl rfl rfl rfl (decide_eq_true hg30) ?_
    refine ent_guardXF rfl rfl rfl rfl (decide_eq_true hg30) ?_
    refine ent_guardXF rfl rfl rfl rfl (decide_eq_true hg30) ?_
    refine ent_o rfl (ok_pickT rfl (decide_eq_true hg30) rfl) ?_
    refine ent_nil ?_
    exact ent_rep ⟨rfl, rfl, rfl, rfl, slot_bool (dq_T rfl (Or.inl hg30)), trivial⟩ rfl
  refine ent_k K7 ?_
  refine ent_condD rfl (fun h36 => ?_) (fun h36 => ?_)
  ·have hqe : repErr r x hs sy = 6 := repErr_6 e0 h36
   have hq0 : repErr r x hs sy ≠ 0 := by rw [hqe]; decide
   refine esk rfl ?_
   refine ent_ret ?_
   exact retR2 (.inr rfl) Try.results41 (resr_tmp (res_cv rfl (cv_nil (fun _ => rfl) (by first | exact (repV_no hq0).symm | (rw [repV_ok hqk, repU_0 (by omega)]; rfl) | (rw [repV_ok hqk, repU_1 (by omega), mixL_all _ _ (by first | omega | (rw [length_repW]; omega)) (by first | omega | (rw [length_repW]; omega))]; exact hre))))) (resr_tmp (res_cv rfl (cv_int (by first | exact hqe.symm | exact hqk.symm | (rw [hqk]; omega)))))
  ·refine esp K6 ?_
   refine ent_seq fun _ K9 => ?_
   refine esr rfl fun _ K10 => ?_
   refine ent_o rfl (ok_fieldAddrEx Try.runUnderlying53 rfl Try.sizeOf3 (by decide) rfl) ?_
   refine ent_o rfl (ok_loadB (k := 0) Try.isAgg3 rfl rfl rfl) ?_
   refine ent_o rfl (ok_fieldAddrEx Try.runUnderlying53 rfl Try.sizeOf29 (by decide) rfl) ?_
   refine ent_o rfl (ok_loadB (k := 0) Try.isAgg29 rfl rfl rfl) ?_
   refine ent_o rfl (ok_len rfl Try.runUnderlying29 rfl) ?_
   refine emm rfl ?_
   refine ent_o rfl (ok_call (nodes_ok hs r.D (↑r.Points.length : Int) x) rfl) ?_
   refine emm rfl ?_
   refine enk K10 ?_
   refine esr rfl fun _ K11 => ?_
   refine ent_o rfl (ok_neq rfl rfl) ?_
   refine enk K11 ?_
   refine ent_condD rfl (fun h46 => ?_) (fun h46 => ?_)
   ·have hqe : repErr r x hs sy = nodErr r.Points.length r.D x hs := repErr_n e0 h36 h46
    have hq0 : repErr r x hs sy ≠ 0 := by rw [hqe]; exact h46
    refine esk rfl ?_
    refine ent_ret ?_
    exact retR2 (.inr rfl) Try.results41 (resr_tmp (res_cv rfl (cv_nil (fun _ => rfl) (by first | exact (repV_no hq0).symm | (rw [repV_ok hqk, repU_0 (by omega)]; rfl) | (rw [repV_ok hqk, repU_1 (by omega), mixL_all _ _ (by first | omega | (rw [length_repW]; omega)) (by first | omega | (rw [length_repW]; omega))]; exact hre))))) (resr_tmp (res_cv rfl (cv_int (by first | exact hqe.symm | exact hqk.symm | (rw [hqk]; omega)))))
   ·have e1 : nodErr r.Points.length r.D x hs = 0 := Classical.not_not.1 h46
    have hqf : repErr r x hs sy = lenErr r.F sy r.D := repErr_l e0 h36 e1
    refine esp K9 ?_
    refine esr rfl fun _ K13 => ?_
    refine ent_o rfl (ok_fieldAddrEx Try.runUnderlying53 rfl Try.sizeOf51 (by decide) rfl) ?_
    refine ent_o rfl (ok_loadBS (k := 0) ti51 rfl rfl rfl) ?_
    refine ent_o rfl (ok_call (CtrF.ctr (New_ok r.F hF)) rfl) ?_
    refine emm rfl ?_
    refine ent_o rfl (ok_extract rfl rfl) ?_
    refine ent_o rfl (ok_extract rfl rfl) ?_
    refine emm rfl ?_
    refine enk K13 ?_
    refine ent_seq fun _ K14 => ?_
    refine esr rfl fun _ K15 => ?_
    refine ent_o rfl (ok_fieldAddrEx Try.runUnderlying53 rfl Try.sizeOf3 (by decide) rfl) ?_
    refine ent_o rfl (ok_loadB (k := 0) Try.isAgg3 rfl rfl rfl) ?_
    refine ent_o rfl (ok_call (elements_ok r.F sy r.D) rfl) ?_
    refine emm rfl ?_
    refine enk K15 ?_
    refine esr rfl fun _ K16 => ?_
    refine ent_o rfl (ok_neq rfl rfl) ?_
    refine enk K16 ?_
    refine ent_condD rfl (fun h60 => ?_) (fun h60 => ?_)
    ·have hqe := hqf
     have hq0 : repErr r x hs sy ≠ 0 := by rw [hqf]; exact h60
     refine esk rfl ?_
     refine ent_ret ?_
     exact retR2 (.inr rfl) Try.results41 (resr_tmp (res_cv rfl (cv_nil (fun _ => rfl) (by first | exact (repV_no hq0).symm | (rw [repV_ok hqk, repU_0 (by omega)]; rfl) | (rw [repV_ok hqk, repU_1 (by omega), mixL_all _ _ (by first | omega | (rw [length_repW]; omega)) (by first | omega | (rw [length_repW]; omega))]; exact hre))))) (resr_tmp (res_cv rfl (cv_int (by first | exact hqe.symm | exact hqk.symm | (rw [hqk]; omega)))))
    ·have hqk : repErr r x hs sy = 0 := by rw [hqf]; exact Classical.not_not.1 h60
     have hR := rep_facts e0 e1 (Classical.not_not.1 h60)
     have hRd := hR.d
     have hRl := hR.hl
     have hRs := hR.sol
     have hRz : ((solV r.F (⟨r.D, vdm r.F (pickL r.Points hs) r.D⟩ : Mat) sy).length : Int) = r.D := hR.zl
     have hRk := hR.k
     refine esp K14 ?_
     refine ent_seq fun _ K18 => ?_
     refine ent_draw 16 mixed (by kernel_rfl) (by kernel_rfl) (by kernel_rfl) ?_
     refine dw_o rfl (ok_fieldAddrEx Try.runUnderlying53 rfl Try.sizeOf51 (by decide) rfl) ?_
     refine dw_o rfl (ok_loadBS (k := 0) ti51 rfl rfl rfl) ?_
     refine dw_o rfl (ok_move rfl) ?_
     refine dw_o rfl (ok_loadBS (k := 0) ti53 rfl rfl rfl) ?_
     refine dw_o rfl (ok_move rfl) ?_
     refine dw_o rfl (ok_call (at_ok r hs hR.hi (by omega)) rfl) ?_
     refine dw_o rfl (ok_fieldAddrEx Try.runUnderlying53 rfl Try.sizeOf3 (by decide) rfl) ?_
     refine dw_o rfl (ok_loadB (k := 0) Try.isAgg3 rfl rfl rfl) ?_
     refine dw_o rfl (ok_call (rgRows_ok r.F (pickL r.Points hs) r.D (by first | rfl | assumption | omega | (simp_all; done) | grind) (by first | rfl | assumption | omega | (simp_all; done) | grind) (by first | rfl | assumption | omega | (simp_all; done) | grind) (by simp [pickL]; omega)) rfl) ?_
     refine dw_o rfl (ok_move rfl) ?_
     refine dw_o rfl (ok_call (mSolve_ok r.F (⟨r.D, vdm r.F (pickL r.Points hs) r.D⟩ : Mat) sy) rfl) ?_
     refine dw_o rfl (ok_move rfl) ?_
     refine dw_o rfl (ok_extract rfl rfl) ?_
     refine dw_o rfl (ok_extract rfl rfl) ?_
     refine dw_o rfl (ok_assign rfl) ?_
     refine dw_o rfl (ok_assign rfl) ?_
     refine dw_nil ?_
     refine enk K18 ?_
     refine ent_seq fun _ K19 => ?_
     refine ent_seq fun _ K20 => ?_
     refine ent_cut (⟨[(1, aInt x), (4, aEx (.pointer (some ⟨b4_1, 0, none⟩))), (12, aGF r.F), (15, aSl 1 false aInt (solV r.F (⟨r.D, vdm r.F (pickL r.Points hs) r.D⟩ : Mat) sy)), (16, aInt (solE r.F (⟨r.D, vdm r.F (pickL r.Points hs) r.D⟩ : Mat) sy)), (82, aBool (decide (((solE r.F (⟨r.D, vdm r.F (pickL r.Points hs) r.D⟩ : Mat) sy) ≠ 0) ∨ (r.Kind = 0))))], [oBox b4_1 53 [aInt r.F.P, aInt r.F.M, aSl 1 false aInt r.F.mod, aInt r.Kind, aInt r.K, aInt r.D, aSl 1 false aInt r.Points]]⟩) ?_ ?_
     ·refine ent_region ?_
      refine emm rfl ?_
      refine ent_o rfl (ok_neq rfl rfl) ?_
      refine emm rfl ?_
      refine ent_guardXDf rfl rfl rfl rfl (fun hg78 => ?_) (fun hg78 => ?_)
      ·refine ent_o rfl (ok_fieldAddrEx Try.runUnderlying53 rfl Try.sizeOf3 (by decide) rfl) ?_
       refine ent_guardXT rfl rfl rfl rfl (decide_eq_false hg78) ?_
       refine ent_o rfl (ok_loadB (k := 0) Try.isAgg3 rfl rfl rfl) ?_
       refine ent_guardXT rfl rfl rfl rfl (decide_eq_false hg78) ?_
       refine ent_o rfl (ok_eql rfl rfl) ?_
       refine ent_o rfl (ok_pickF rfl (decide_eq_false hg78) rfl) ?_
       refine ent_nil ?_
       exact ent_rep ⟨rfl, rfl, rfl, rfl, rfl, slot_bool (dq_Q ((or_iff_right hg78).trans Iff.rfl)), trivial⟩ rfl
      ·refine ent_guardXF rfl rfl rfl rfl (decide_eq_true hg78) ?_
       refine ent_guardXF rfl rfl rfl rfl (decide_eq_true hg78) ?_
       refine ent_o rfl (ok_pickT rfl (decide_eq_true hg78) rfl) ?_
       refine ent_nil ?_
       exact ent_rep ⟨rfl, rfl, rfl, rfl, rfl, slot_bool (dq_T rfl (Or.inl hg78)), trivial⟩ rfl
     refine ent_k K20 ?_
     refine ent_condD rfl (fun h82 => ?_) (fun h82 => ?_)
     ·refine esk rfl ?_
      refine ent_ret ?_
      exact retR2 (.inr rfl) Try.results41 (resr_tmp (res_cv rfl (cv_sl sub_x (by first | exact (repV_no hq0).symm | (rw [repV_ok hqk, repU_0 (by omega)]; rfl) | (rw [repV_ok hqk, repU_1 (by omega), mixL_all _ _ (by first | omega | (rw [length_repW]; omega)) (by first | omega | (rw [length_repW]; omega))]; exact hre))))) (resr_tmp (res_cv rfl (cv_int (by first | exact hqe.symm | exact hqk.symm | (rw [hqk]; omega)))))
     ·have hk3 := hRk (by omega)
      have hld : (List.drop (rgA r).toNat (solV r.F (⟨r.D, vdm r.F (pickL r.Points hs) r.D⟩ : Mat) sy)).length = (rgA r).toNat := by rw [List.length_drop]; omega
      have hlw : (scaleF r.F (powF r.F (ix 0 r.Points x) (rgA r)) (List.drop (rgA r).toNat (solV r.F (⟨r.D, vdm r.F (pickL r.Points hs) r.D⟩ : Mat) sy))).length = (rgA r).toNat := by rw [length_scaleF]; exact hld
      have hRzz := hR.zl
      have hre := rep_eq hF (a := (rgA r).toNat) (powF r.F (ix 0 r.Points x) (rgA r)) (by omega) hR.zr
      refine esp K19 ?_
      refine esr rfl fun _ K22 => ?_
      refine ent_o rfl (ok_loadBS (k := 0) ti53 rfl rfl rfl) ?_
      refine ent_o rfl (ok_call (sizes_ok r (by first | rfl | assumption | omega | (simp_all; done) | grind)) rfl) ?_
      refine emm rfl ?_
      refine ent_o rfl (ok_extract rfl rfl) ?_
      refine ent_o rfl (ok_extract rfl rfl) ?_
      refine emm rfl ?_
      refine enk K22 ?_
      refine esr rfl fun _ K23 => ?_
      refine ent_o rfl (ok_fieldAddrEx Try.runUnderlying53 rfl Try.sizeOf29 (by decide) rfl) ?_
      refine ent_o rfl (ok_loadB (k := 0) Try.isAgg29 rfl rfl rfl) ?_
      refine emm rfl ?_
      refine ent_o rfl (ok_index 0 sl29 rfl rfl (by first | omega | (simp; omega)) (by first | omega | (simp; omega))) ?_
      refine ent_o rfl (ok_load ti3 rfl) ?_
      refine emm rfl ?_
      refine ent_o rfl (ok_call (Pow_ok r.F (ix 0 r.Points x) (rgA r) (by first | rfl | assumption | omega | (simp_all; done) | grind) (by first | rfl | assumption | omega | (simp_all; done) | grind) (by first | rfl | assumption | omega | (simp_all; done) | grind)) rfl) ?_
      refine emm rfl ?_
      refine ent_o rfl (ok_extract rfl rfl) ?_
      refine ent_o rfl (ok_extract rfl rfl) ?_
      refine emm rfl ?_
      refine enk K23 ?_
      refine esr rfl fun _ K24 => ?_
      refine ent_o rfl (ok_sliceFrom sl29 rfl rfl (by first | omega | (simp; omega)) (by first | omega | (simp; omega))) ?_
      refine ent_callV [] rfl (Scale_ok r.F (powF r.F (ix 0 r.Points x) (rgA r)) (List.drop (rgA r).toNat (solV r.F (⟨r.D, vdm r.F (pickL r.Points hs) r.D⟩ : Mat) sy)) (by first | rfl | assumption | omega | (simp_all; done) | grind) (by first | rfl | assumption | omega | (simp_all; done) | grind)) (ArgsA.ok ⟨arg_a rfl (cv_id (sub_lent _)), arg_a rfl (cv_id (sub_lent _)), arg_a rfl (cv_id (sub_lent _)), trivial⟩) (fun r106 c106 => ?_)
      refine ent_rsome 0 rfl (by omega) (fun b106_2 hb106_2 => ?_)
      subst hb106_2
      refine emm rfl ?_
      refine enk K24 ?_
      refine ent_seq fun _ K25 => ?_
      refine esr rfl fun _ K26 => ?_
      refine ent_o rfl (ok_lenEx rfl Try.runUnderlying29 rfl) ?_
      refine emm rfl ?_
      refine enk K26 ?_
      refine ent_block ?_
      refine ent_loop (fun (i : Int) => (⟨[(12, aGF r.F), (15, aSl 1 false aInt (solV r.F (⟨r.D, vdm r.F (pickL r.Points hs) r.D⟩ : Mat) sy)), (21, aEx (vec (some b106_2) ((scaleF r.F (powF r.F (ix 0 r.Points x) (rgA r)) (List.drop (rgA r).toNat (solV r.F (⟨r.D, vdm r.F (pickL r.Points hs) r.D⟩ : Mat) sy))).length) c106)), (108, aInt (↑((scaleF r.F (powF r.F (ix 0 r.Points x) (rgA r)) (List.drop (rgA r).toNat (solV r.F (⟨r.D, vdm r.F (pickL r.Points hs) r.D⟩ : Mat) sy))).length) : Int)), (109, aInt i)], [oVec (some b106_2) c106 3 1 false aInt (mixL (repW r.F (scaleF r.F (powF r.F (ix 0 r.Points x) (rgA r)) (List.drop (rgA r).toNat (solV r.F (⟨r.D, vdm r.F (pickL r.Points hs) r.D⟩ : Mat) sy))) (solV r.F (⟨r.D, vdm r.F (pickL r.Points hs) r.D⟩ : Mat) sy)) (scaleF r.F (powF r.F (ix 0 r.Points x) (rgA r)) (List.drop (rgA r).toNat (solV r.F (⟨r.D, vdm r.F (pickL r.Points hs) r.D⟩ : Mat) sy))) i), oBox b4_1 53 [aInt r.F.P, aInt r.F.M, aSl 1 false aInt r.F.mod, aInt r.Kind, aInt r.K, aInt r.D, aSl 1 false aInt r.Points]]⟩ : St)) (fun (i : Int) => (0 ≤ i) ∧ (i ≤ (scaleF r.F (powF r.F (ix 0 r.Points x) (rgA r)) (List.drop (rgA r).toNat (solV r.F (⟨r.D, vdm r.F (pickL r.Points hs) r.D⟩ : Mat) sy))).length)) (fun (i : Int) => ((scaleF r.F (powF r.F (ix 0 r.Points x) (rgA r)) (List.drop (rgA r).toNat (solV r.F (⟨r.D, vdm r.F (pickL r.Points hs) r.D⟩ : Mat) sy))).length - i).toNat) 0 ⟨(by first | rfl | assumption | omega | (simp_all; done) | grind), (by first | rfl | assumption | omega | (simp_all; done) | grind)⟩ (ent_rep ⟨rfl, rfl, rfl, rfl, slot_av (av_int (show 0 = (0 : Int) by first | rfl | assumption | omega | (simp_all; done) | grind)), trivial⟩ (own_cons (own_vec (show mixL (repW r.F (scaleF r.F (powF r.F (ix 0 r.Points x) (rgA r)) (List.drop (rgA r).toNat (solV r.F (⟨r.D, vdm r.F (pickL r.Points hs) r.D⟩ : Mat) sy))) (solV r.F (⟨r.D, vdm r.F (pickL r.Points hs) r.D⟩ : Mat) sy)) (scaleF r.F (powF r.F (ix 0 r.Points x) (rgA r)) (List.drop (rgA r).toNat (solV r.F (⟨r.D, vdm r.F (pickL r.Points hs) r.D⟩ : Mat) sy))) (0 : Int) = scaleF r.F (powF r.F (ix 0 r.Points x) (rgA r)) (List.drop (rgA r).toNat (solV r.F (⟨r.D, vdm r.F (pickL r.Points hs) r.D⟩ : Mat) sy)) by exact mixL_zero _ _)) (rfl))) ?_
      rintro i ⟨k0, k1⟩
      show Ent _ ⟨_, [_, _]⟩ _
      have lm : (mixL (repW r.F (scaleF r.F (powF r.F (ix 0 r.Points x) (rgA r)) (List.drop (rgA r).toNat (solV r.F (⟨r.D, vdm r.F (pickL r.Points hs) r.D⟩ : Mat) sy))) (solV r.F (⟨r.D, vdm r.F (pickL r.Points hs) r.D⟩ : Mat) sy)) (scaleF r.F (powF r.F (ix 0 r.Points x) (rgA r)) (List.drop (rgA r).toNat (solV r.F (⟨r.D, vdm r.F (pickL r.Points hs) r.D⟩ : Mat) sy))) i).length = (scaleF r.F (powF r.F (ix 0 r.Points x) (rgA r)) (List.drop (rgA r).toNat (solV r.F (⟨r.D, vdm r.F (pickL r.Points hs) r.D⟩ : Mat) sy))).length := length_mixL _ _ (length_repW _ _ _)
      refine esr rfl fun _ K27 => ?_
      refine ent_o rfl (ok_lss rfl rfl) ?_
      refine enk K27 ?_
      refine ent_seq fun _ K28 => ?_
      refine ent_condD rfl (fun h110 => ?_) (fun h110 => ?_)
      ·refine esp K28 ?_
       refine ent_seq fun _ K29 => ?_
       refine ent_block ?_
       refine esk rfl ?_
       refine ent_draw 13 mixed (by kernel_rfl) (by kernel_rfl) (by kernel_rfl) ?_
       refine dw_o rfl (ok_move rfl) ?_
       refine dw_o rfl (ok_move rfl) ?_
       refine dw_o rfl (ok_move rfl) ?_
       refine dw_o rfl (ok_move rfl) ?_
       refine dw_o rfl (ok_move rfl) ?_
       refine dw_o rfl (ok_indexV sl29 rfl rfl (by first | omega | (simp; omega)) (by first | omega | (simp; omega))) ?_
       refine dw_o rfl (ok_loadV (k := 0) 0 ti3 rfl rfl (by first | omega | (simp; omega)) (by first | omega | (simp; omega))) ?_
       refine dw_o rfl (ok_move rfl) ?_
       refine dw_o rfl (ok_move rfl) ?_
       refine dw_o rfl (ok_index 0 sl29 rfl rfl (by first | omega | (simp; omega)) (by first | omega | (simp; omega))) ?_
       refine dw_o rfl (ok_load ti3 rfl) ?_
       refine dw_o rfl (ok_call (Add_ok r.F (ix 0 (mixL (repW r.F (scaleF r.F (powF r.F (ix 0 r.Points x) (rgA r)) (List.drop (rgA r).toNat (solV r.F (⟨r.D, vdm r.F (pickL r.Points hs) r.D⟩ : Mat) sy))) (solV r.F (⟨r.D, vdm r.F (pickL r.Points hs) r.D⟩ : Mat) sy)) (scaleF r.F (powF r.F (ix 0 r.Points x) (rgA r)) (List.drop (rgA r).toNat (solV r.F (⟨r.D, vdm r.F (pickL r.Points hs) r.D⟩ : Mat) sy))) i) i) (ix 0 (solV r.F (⟨r.D, vdm r.F (pickL r.Points hs) r.D⟩ : Mat) sy) i) (by first | rfl | assumption | omega | (simp_all; done) | grind)) rfl) ?_
       refine dw_o rfl (ok_indexV sl29 rfl rfl (by first | omega | (simp; omega)) (by first | omega | (simp; omega))) ?_
       refine dw_nil ?_
       refine ent_storeV (k := 0) (z := addF r.F (ix 0 (mixL (repW r.F (scaleF r.F (powF r.F (ix 0 r.Points x) (rgA r)) (List.drop (rgA r).toNat (solV r.F (⟨r.D, vdm r.F (pickL r.Points hs) r.D⟩ : Mat) sy))) (solV r.F (⟨r.D, vdm r.F (pickL r.Points hs) r.D⟩ : Mat) sy)) (scaleF r.F (powF r.F (ix 0 r.Points x) (rgA r)) (List.drop (rgA r).toNat (solV r.F (⟨r.D, vdm r.F (pickL r.Points hs) r.D⟩ : Mat) sy))) i) i) (ix 0 (solV r.F (⟨r.D, vdm r.F (pickL r.Points hs) r.D⟩ : Mat) sy) i)) ti3 rfl rfl rfl (elem_one (one_int _)) (by first | omega | (simp; omega)) (by first | omega | (simp; omega)) ?_
       refine enk K29 ?_
       refine ent_region ?_
       refine ent_o rfl (ok_add rfl rfl (by first | omega | (simp; omega)) (by first | omega | (simp; omega))) ?_
       refine emm rfl ?_
       refine ent_nil ?_
       refine ent_again (s := (i)) (i + 1) ⟨(by first | rfl | assumption | omega | (simp_all; done) | grind), (by first | rfl | assumption | omega | (simp_all; done) | grind)⟩ (by first | omega | (dsimp only; omega)) (ent_rep ⟨rfl, rfl, rfl, rfl, rfl, trivial⟩ (own_cons (own_vec (show mixL (repW r.F (scaleF r.F (powF r.F (ix 0 r.Points x) (rgA r)) (List.drop (rgA r).toNat (solV r.F (⟨r.D, vdm r.F (pickL r.Points hs) r.D⟩ : Mat) sy))) (solV r.F (⟨r.D, vdm r.F (pickL r.Points hs) r.D⟩ : Mat) sy)) (scaleF r.F (powF r.F (ix 0 r.Points x) (rgA r)) (List.drop (rgA r).toNat (solV r.F (⟨r.D, vdm r.F (pickL r.Points hs) r.D⟩ : Mat) sy))) (i + 1) = List.set (mixL (repW r.F (scaleF r.F (powF r.F (ix 0 r.Points x) (rgA r)) (List.drop (rgA r).toNat (solV r.F (⟨r.D, vdm r.F (pickL r.Points hs) r.D⟩ : Mat) sy))) (solV r.F (⟨r.D, vdm r.F (pickL r.Points hs) r.D⟩ : Mat) sy)) (scaleF r.F (powF r.F (ix 0 r.Points x) (rgA r)) (List.drop (rgA r).toNat (solV r.F (⟨r.D, vdm r.F (pickL r.Points hs) r.D⟩ : Mat) sy))) i) (i).toNat (addF r.F (ix 0 (mixL (repW r.F (scaleF r.F (powF r.F (ix 0 r.Points x) (rgA r)) (List.drop (rgA r).toNat (solV r.F (⟨r.D, vdm r.F (pickL r.Points hs) r.D⟩ : Mat) sy))) (solV r.F (⟨r.D, vdm r.F (pickL r.Points hs) r.D⟩ : Mat) sy)) (scaleF r.F (powF r.F (ix 0 r.Points x) (rgA r)) (List.drop (rgA r).toNat (solV r.F (⟨r.D, vdm r.F (pickL r.Points hs) r.D⟩ : Mat) sy))) i) i) (ix 0 (solV r.F (⟨r.D, vdm r.F (pickL r.Points hs) r.D⟩ : Mat) sy) i)) by rw [ix_mixL (repW r.F (scaleF r.F (powF r.F (ix 0 r.Points x) (rgA r)) (List.drop (rgA r).toNat (solV r.F (⟨r.D, vdm r.F (pickL r.Points hs) r.D⟩ : Mat) sy))) (solV r.F (⟨r.D, vdm r.F (pickL r.Points hs) r.D⟩ : Mat) sy)) (scaleF r.F (powF r.F (ix 0 r.Points x) (rgA r)) (List.drop (rgA r).toNat (solV r.F (⟨r.D, vdm r.F (pickL r.Points hs) r.D⟩ : Mat) sy))) k0 (by omega) (length_repW _ _ _)]; exact (mixL_set (repW r.F (scaleF r.F (powF r.F (ix 0 r.Points x) (rgA r)) (List.drop (rgA r).toNat (solV r.F (⟨r.D, vdm r.F (pickL r.Points hs) r.D⟩ : Mat) sy))) (solV r.F (⟨r.D, vdm r.F (pickL r.Points hs) r.D⟩ : Mat) sy)) _ k0 (by omega) (length_repW _ _ _) (ix_repW _ _ _ k0 (by omega)).symm).symm)) (rfl)))
      ·refine ent_exit ?_
       refine ent_k K25 ?_
       refine esk rfl ?_
       refine ent_ret ?_
       exact retR2 (.inr rfl) Try.results41 (resr_tmp (res_cv rfl (cv_vec (k := 0) (off_x rfl) (by first | rfl | assumption | (simp; done) | (simp_all; done) | omega) (by first | exact (repV_no hq0).symm | (rw [repV_ok hqk, repU_0 (by omega)]; rfl) | (rw [repV_ok hqk, repU_1 (by omega), mixL_all _ _ (by first | omega | (rw [length_repW]; omega)) (by first | omega | (rw [length_repW]; omega))]; exact hre))))) (resr_tmp (res_cv rfl (cv_int (by first | exact hqe.symm | exact hqk.symm | (rw [hqk]; omega)))))

end Go.Proofs.Ytaipghchkamajaa

