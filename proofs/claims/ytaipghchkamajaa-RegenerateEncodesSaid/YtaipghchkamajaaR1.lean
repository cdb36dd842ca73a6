/-
  Walks of functions of the program and the reference.
-/
import Derived.Test.YtaipghchkamajaaProg
import Derived.Test.YtaipghchkamajaaTab
import Derived.Test.YtaipghchkamajaaPlainJ1
import Derived.Test.YtaipghchkamajaaCzLib
import Derived.Test.YtaipghchkamajaaA2
import Derived.Test.YtaipghchkamajaaA4
import Derived.Test.YtaipghchkamajaaA5
import Derived.Test.YtaipghchkamajaaA6
import Derived.Test.YtaipghchkamajaaA7
import Derived.Test.YtaipghchkamajaaA9
import Derived.Test.YtaipghchkamajaaA10
import Derived.Test.YtaipghchkamajaaB1
import Derived.Test.YtaipghchkamajaaC11
import Derived.Test.YtaipghchkamajaaC12
import Derived.Test.YtaipghchkamajaaC13
import Derived.Test.YtaipghchkamajaaC14
import Derived.Test.YtaipghchkamajaaC16
import Derived.Test.YtaipghchkamajaaC18
import Derived.Test.YtaipghchkamajaaC19
import Derived.Test.YtaipghchkamajaaC22
open Go Go.Cw
namespace Go.Proofs.Ytaipghchkamajaa
set_option maxRecDepth 100000
set_option linter.unusedVariables false
set_option linter.unusedSimpArgs false

theorem rgRows_ok (f : Fld) (xs : List Int) (n : Int) (hF : FOk f) (hn0 : 0 ≤ n) (hn1 : n ≤ 64) (hm : xs.length ≤ 1000) : Ctr Try.prog 66 [aGF f, aSl 1 false aInt xs, aInt n] (aMat (⟨n, vdm f xs n⟩ : Mat)) := by
 refine ctr_of Try.call66 Try.func66 rfl rfl ?_
 intro w O
 refine ent_lenP 0 4 rfl rfl (fun hlen0_4 => ?_)
 refine ent_lenP 0 5 rfl rfl (fun hlen0_5 => ?_)
 refine ent_len 1 rfl (fun hlen1 => ?_)
 refine esr rfl fun _ K1 => ?_
 refine ent_alloc (z := .agg #[.int .i64 0, .slice none 0 0]) [aInt 0, aEx (.slice none 0 0)] rfl zv107 rfl zc107 (fun b6_1 => ?_)
 refine enk K1 ?_
 refine esr rfl fun _ K2 => ?_
 refine ent_o rfl (ok_build st107 (As := [aInt 0, aEx (.slice none 0 0)]) z107 (⟨0, 1, rfl, .inl ⟨rfl, _, rfl, (one_int _), rfl, rfl⟩⟩)) ?_
 refine ent_alloc (z := .agg #[.int .i64 0, .slice none 0 0]) [aInt 0, aEx (.slice none 0 0)] rfl zv107 rfl zc107 (fun b7_2 => ?_)
 refine ent_storeBS (k := 0) Try.sizeOf107 rfl rfl rfl (AllOne.mem ⟨(one_int _), (one_ex rfl), trivial⟩) rfl rfl ?_
 show Ent _ ⟨_, [_, _]⟩ _
 refine enk K2 ?_
 refine ent_seq fun _ K3 => ?_
 refine esr rfl fun _ K4 => ?_
 refine ent_o rfl (ok_len rfl Try.runUnderlying29 rfl) ?_
 refine emm rfl ?_
 refine enk K4 ?_
 refine ent_block ?_
 refine ent_open 29 1 false aInts (fun _ => rfl) ?_
 refine ent_loop (fun (ss : Int × Option Nat × Nat) => match ss with | (i, rr4, cc4) => (⟨[(0, aGF f), (2, aInt n), (6, aEx (.pointer (some ⟨b6_1, 0, none⟩))), (7, aEx (.pointer (some ⟨b7_2, 0, none⟩))), (12, aSl 1 false aInt xs), (13, aInt (↑xs.length : Int)), (14, aInt i)], [oVec rr4 cc4 29 1 false aInts (mapT (fun x => powsF f x n) xs i), oBox b7_2 107 [aInt n, aEx (vec rr4 ((mapT (fun x => powsF f x n) xs i).length) cc4)], oBox b6_1 107 [aInt 0, aEx (.slice none 0 0)]]⟩ : St)) (fun (ss : Int × Option Nat × Nat) => match ss with | (i, rr4, cc4) => (0 ≤ i) ∧ (i ≤ xs.length)) (fun (ss : Int × Option Nat × Nat) => match ss with | (i, rr4, cc4) => (xs.length - i).toNat) (0, none, 0) ⟨(by first | rfl | assumption | omega | (simp_all; done) | grind), (by first | rfl | assumption | omega | (simp_all; done) | grind)⟩ (ent_rep ⟨rfl, rfl, rfl, rfl, rfl, rfl, slot_av (av_int (show 0 = (0 : Int) by first | rfl | assumption | omega | (simp_all; done) | grind)), trivial⟩ (own_cons (own_vec (show mapT (fun x => powsF f x n) xs (0 : Int) = [] by first | rfl | simp [mapT_zero])) (own_cons (own_box (av_cons rfl (av_cons ((by first | rfl | simp [mapT_zero])) (rfl)))) (rfl)))) ?_
 rintro ⟨i, rr4, cc4⟩ ⟨k0, k1⟩
 show Ent _ ⟨_, [_, _, _]⟩ _
 have lf := length_mapT (fun x => powsF f x n) xs (i := i) (by omega)
 refine esr rfl fun _ K5 => ?_
 refine ent_o rfl (ok_lss rfl rfl) ?_
 refine enk K5 ?_
 refine ent_seq fun _ K6 => ?_
 refine ent_condD rfl (fun h15 => ?_) (fun h15 => ?_)
 ·refine esp K6 ?_
  refine ent_seq fun _ K7 => ?_
  refine ent_block ?_
  refine esr rfl fun _ K8 => ?_
  refine ent_o rfl (ok_index 0 sl29 rfl rfl (by omega) (by omega)) ?_
  refine ent_o rfl (ok_load ti3 rfl) ?_
  refine emm rfl ?_
  refine enk K8 ?_
  refine ent_draw 7 mixed (by kernel_rfl) (by kernel_rfl) (by kernel_rfl) ?_
  refine dw_o rfl (ok_fieldAddrEx Try.runUnderlying107 rfl Try.sizeOf65 (by decide) rfl) ?_
  refine dw_o rfl (ok_loadB (k := 1) Try.isAgg65 rfl rfl rfl) ?_
  refine dw_o rfl (ok_move rfl) ?_
  refine dw_o rfl (ok_move rfl) ?_
  refine dw_o rfl (ok_move rfl) ?_
  refine dw_o rfl (ok_call (CtrF.ctr (CtrF.sl (RgPowers_ok f (ix 0 xs i) n (by first | rfl | assumption | omega | (simp_all; done) | grind) (by first | rfl | assumption | omega | (simp_all; done) | grind) (by first | rfl | assumption | omega | (simp_all; done) | grind)))) rfl) ?_
  refine dw_o rfl (ok_build1 (enc := aInts) (y := powsF f (ix 0 xs i) n) vt65 rfl (elem_one one_sl) (by decide)) ?_
  refine dw_nil ?_
  refine ent_appendS (k := 0) rfl vt65 rfl rfl (by first | rfl | assumption | (simp; done) | (simp_all; done) | omega) rfl (cv_id sub_refl) (by first | omega | (simp only [List.length_append, List.length_cons, List.length_nil]; omega) | (simp; omega)) (by first | omega | (simp only [List.length_append, List.length_cons, List.length_nil]; omega) | (simp; omega)) (fun r25_4 cr25_4 => ?_)
  refine ent_o rfl (ok_fieldAddrEx Try.runUnderlying107 rfl Try.sizeOf65 (by decide) rfl) ?_
  refine ent_storeB (k := 1) Try.sizeOf65 rfl rfl rfl (one_ex rfl) rfl ?_
  refine enk K7 ?_
  refine ent_region ?_
  refine ent_o rfl (ok_add rfl rfl (by omega) (by omega)) ?_
  refine emm rfl ?_
  refine ent_nil ?_
  refine ent_again (s := (i, rr4, cc4)) (i + 1, r25_4, cr25_4) ⟨(by first | rfl | assumption | omega | (simp_all; done) | grind), (by first | rfl | assumption | omega | (simp_all; done) | grind)⟩ (by first | omega | (dsimp only; omega)) (ent_rep ⟨rfl, rfl, rfl, rfl, rfl, rfl, rfl, trivial⟩ (own_cons (own_vec (show mapT (fun x => powsF f x n) xs (i + 1) = (mapT (fun x => powsF f x n) xs i) ++ [powsF f (ix 0 xs i) n] by exact mapT_succ 0 _ xs k0 h15)) (own_cons (own_box (av_cons rfl (av_cons (av_vec (congrArg List.length (show mapT (fun x => powsF f x n) xs (i + 1) = (mapT (fun x => powsF f x n) xs i) ++ [powsF f (ix 0 xs i) n] by exact mapT_succ 0 _ xs k0 h15))) (rfl)))) (rfl))))
 ·refine ent_exit ?_
  refine ent_k K3 ?_
  refine esr rfl fun _ K9 => ?_
  refine ent_o rfl (ok_loadBS (k := 1) ti107 rfl rfl rfl) ?_
  refine ent_storeBS (k := 2) Try.sizeOf107 rfl rfl rfl (AllOne.mem ⟨(one_int _), (one_ex rfl), trivial⟩) rfl rfl ?_
  show Ent _ ⟨_, [_, _, _]⟩ _
  refine enk K9 ?_
  refine ent_ret ?_
  exact retR1 (.inr rfl) Try.results66 (resr_cell (k := 2) ti107 rfl rfl rfl (cv_agg ⟨cv_int (by first | rfl | (rw [mapT_all _ _ (by omega)]; rfl)), cv_vec (k := 0) (off_x rfl) (by first | rfl | assumption | (simp; done) | (simp_all; done) | omega) (by first | rfl | (rw [mapT_all _ _ (by omega)]; rfl)), trivial⟩))

end Go.Proofs.Ytaipghchkamajaa

