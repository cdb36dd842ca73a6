/-
  Facts for the law MatrixInverse.
-/
import Derived.Test.YtamhdlkfhhpdpaaProg
import Derived.Test.YtamhdlkfhhpdpaaWTab
import Derived.Test.YtamhdlkfhhpdpaaPlainOp
import Derived.Test.YtamhdlkfhhpdpaaCzLib
import Derived.Test.YtamhdlkfhhpdpaaW1
import Derived.Test.YtamhdlkfhhpdpaaW4
import Derived.Test.YtamhdlkfhhpdpaaW5
import Derived.Test.YtamhdlkfhhpdpaaW6
import Derived.Test.YtamhdlkfhhpdpaaW9
import Derived.Test.YtamhdlkfhhpdpaaW10
import Derived.Test.YtamhdlkfhhpdpaaW11
import Derived.Test.YtamhdlkfhhpdpaaW12
import Derived.Test.YtamhdlkfhhpdpaaW13
import Derived.Test.YtamhdlkfhhpdpaaW14
import Derived.Test.YtamhdlkfhhpdpaaW15
import Derived.Test.YtamhdlkfhhpdpaaW16
import Derived.Test.YtamhdlkfhhpdpaaW17
import Derived.Test.YtamhdlkfhhpdpaaW18
import Derived.Test.YtamhdlkfhhpdpaaW19
import Derived.Test.YtamhdlkfhhpdpaaW20
import Derived.Test.YtamhdlkfhhpdpaaW21
open Go Go.Cw
namespace Go.Proofs.Ytamhdlkfhhpdpaa
set_option maxRecDepth 100000
set_option linter.unusedVariables false
set_option linter.unusedSimpArgs false

theorem rUnit_ok (n : Int) (hn0 : 0 ≤ n) (hn1 : n ≤ 1000) : Ctr Try.prog 41 [aInt n] (aSl 1 false aInts (uni n)) := by
 refine ctr_of Try.call41 Try.func41 rfl rfl ?_
 intro w O
 refine esk rfl ?_
 refine esk rfl ?_
 refine ent_seq fun _ K3 => ?_
 refine esk rfl ?_
 refine ent_block ?_
 refine ent_open 22 1 false aInts (fun _ => rfl) ?_
 refine ent_loop (fun (ss : Int × Option Nat × Nat) => match ss with | (i, rr2, cc2) => (⟨[(0, aInt n), (3, aEx (vec rr2 (((uni n).take i.toNat).length) cc2)), (4, aInt i)], [oVec rr2 cc2 22 1 false aInts ((uni n).take i.toNat)]⟩ : St)) (fun (ss : Int × Option Nat × Nat) => match ss with | (i, rr2, cc2) => (0 ≤ i) ∧ (i ≤ n)) (fun (ss : Int × Option Nat × Nat) => match ss with | (i, rr2, cc2) => (n - i).toNat) (0, none, 0) ⟨(by first | rfl | assumption | omega | (simp_all; done) | grind), (by first | rfl | assumption | omega | (simp_all; done) | grind)⟩ (ent_rep ⟨rfl, slot_av ((show aEx (vec none ([] : List _).length 0) = aEx (vec none (((uni n).take (0 : Int).toNat).length) 0) from av_vec (congrArg List.length (show (uni n).take (0 : Int).toNat = [] by rfl).symm))), slot_av (av_int (show 0 = (0 : Int) by first | rfl | assumption | omega | (simp_all; done) | grind)), trivial⟩ (own_cons (own_vec (show (uni n).take (0 : Int).toNat = [] by rfl)) (rfl))) ?_
 rintro ⟨i, rr2, cc2⟩ ⟨h0, h1⟩
 show Ent _ ⟨_, [_]⟩ _
 have lu : ((uni n).take i.toNat).length = i.toNat := by rw [List.length_take, length_uni]; omega
 refine ent_seq fun _ K5 => ?_
 refine esr rfl fun _ K6 => ?_
 refine ent_o rfl (ok_lss rfl rfl) ?_
 refine enk K6 ?_
 refine ent_condD rfl (fun h8 => ?_) (fun h8 => ?_)
 ·refine esp K5 ?_
  refine ent_seq fun _ K7 => ?_
  refine ent_block ?_
  refine esr rfl fun _ K8 => ?_
  refine ent_make aInt 0 rfl vt22 rfl rfl (by first | omega | (simp; omega)) (by first | omega | (simp; omega)) (by first | omega | (simp; omega)) (fun _ _ => rfl) (AllV.mem ⟨rfl, trivial⟩) (fun b12_3 => ?_)
  refine emm rfl ?_
  refine enk K8 ?_
  refine esr rfl fun _ K9 => ?_
  refine ent_o rfl (ok_indexV sl22 rfl rfl (by first | omega | (simp; omega)) (by first | omega | (simp; omega))) ?_
  refine ent_storeV (k := 0) (z := 1) ti3 rfl rfl rfl (elem_one (one_int _)) (by first | omega | (simp; omega)) (by first | omega | (simp; omega)) ?_
  refine enk K9 ?_
  refine ent_region ?_
  refine emm rfl ?_
  refine ent_give 0 17 rfl (cv_vec (k := 0) (off_erase rfl) (by first | rfl | assumption | (simp; done) | (simp_all; done) | omega) rfl) ?_
  refine ent_appendL (k := 0) (enc := aInts) (y := List.set (List.replicate ((n).toNat) 0) (i).toNat 1) rfl rfl vt25 rfl rfl (by first | rfl | assumption | (simp; done) | (simp_all; done) | omega) rfl ((elem_one one_sl)) (by first | omega | (simp only [List.length_append, List.length_cons, List.length_nil]; omega) | (simp; omega)) (by first | omega | (simp only [List.length_append, List.length_cons, List.length_nil]; omega) | (simp; omega)) (by decide) (fun b19_4 c19_4 => ?_)
  refine emm rfl ?_
  refine enk K7 ?_
  refine ent_region ?_
  refine emm rfl ?_
  refine ent_o rfl (ok_add rfl rfl (by first | omega | (simp; omega)) (by first | omega | (simp; omega))) ?_
  refine emm rfl ?_
  refine ent_nil ?_
  refine ent_again (s := (i, rr2, cc2)) (i + 1, (some b19_4), c19_4) ⟨(by first | rfl | assumption | omega | (simp_all; done) | grind), (by first | rfl | assumption | omega | (simp_all; done) | grind)⟩ (by first | omega | (dsimp only; omega)) (ent_rep ⟨rfl, slot_av (av_vec (congrArg List.length (show (uni n).take (i + 1).toNat = ((uni n).take i.toNat) ++ [List.set (List.replicate ((n).toNat) 0) (i).toNat 1] by rw [take_succ_ix [] (uni n) h0 (by rw [length_uni]; omega), uni_row h0 h8]).symm)), rfl, trivial⟩ (own_cons (own_vec (show (uni n).take (i + 1).toNat = ((uni n).take i.toNat) ++ [List.set (List.replicate ((n).toNat) 0) (i).toNat 1] by rw [take_succ_ix [] (uni n) h0 (by rw [length_uni]; omega), uni_row h0 h8])) (rfl)))
 ·refine ent_exit ?_
  refine ent_k K3 ?_
  refine esk rfl ?_
  refine ent_ret ?_
  exact retR1 (.inr rfl) Try.results41 (resr_tmp (res_cv rfl (cv_vec (k := 0) (off_x rfl) (by first | rfl | assumption | (simp; done) | (simp_all; done) | omega) (by rw [List.take_of_length_le (by rw [length_uni]; omega)]))))

end Go.Proofs.Ytamhdlkfhhpdpaa

