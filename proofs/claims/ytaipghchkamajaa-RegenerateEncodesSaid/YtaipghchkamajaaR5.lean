/-
  Walks of functions of the program and the reference.
-/
import Derived.Test.YtaipghchkamajaaProg
import Derived.Test.YtaipghchkamajaaTab
import Derived.Test.YtaipghchkamajaaPlainJ1
import Derived.Test.YtaipghchkamajaaCzLib
import Derived.Test.YtaipghchkamajaaA2
import Derived.Test.YtaipghchkamajaaA4
import Derived.Test.YtaipghchkamajaaA5
import Derived.Test.YtaipghchkamajaaA6
import Derived.Test.YtaipghchkamajaaA7
import Derived.Test.YtaipghchkamajaaA9
import Derived.Test.YtaipghchkamajaaA10
import Derived.Test.YtaipghchkamajaaB1
import Derived.Test.YtaipghchkamajaaC11
import Derived.Test.YtaipghchkamajaaC12
import Derived.Test.YtaipghchkamajaaC13
import Derived.Test.YtaipghchkamajaaC14
import Derived.Test.YtaipghchkamajaaC16
import Derived.Test.YtaipghchkamajaaC18
import Derived.Test.YtaipghchkamajaaC19
import Derived.Test.YtaipghchkamajaaC22
import Derived.Test.YtaipghchkamajaaB2
import Derived.Test.YtaipghchkamajaaR1
import Derived.Test.YtaipghchkamajaaR3
open Go Go.Cw
namespace Go.Proofs.Ytaipghchkamajaa
set_option maxRecDepth 100000
set_option linter.unusedVariables false
set_option linter.unusedSimpArgs false
theorem rsym_ok (n : Int) (l : List Int) (hn0 : 0 ≤ n) (hn1 : n ≤ 1000) (hl : tri n n.toNat ≤ l.length) : CtrW Try.prog 98 [] [aInt n, aSl 1 false aInt l] (fun (y : Option Nat × Nat × List Hdr) => match y with | (ro, co, Hs) => Hs.length = n.toNat) (fun (y : Option Nat × Nat × List Hdr) => match y with | (ro, co, Hs) => aEx (vec ro Hs.length co)) (fun (y : Option Nat × Nat × List Hdr) => match y with | (ro, co, Hs) => [oVec ro co 29 1 false aH Hs, oRws 3 aInt [] Hs (mkM n n (symE l n n n))]) := by
 refine ctrW_of Try.call98 Try.func98 rfl rfl ?_
 intro w O
 refine ent_len 1 rfl (fun hlen1 => ?_)
 refine esk rfl ?_
 refine esk rfl ?_
 refine ent_seq fun _ K3 => ?_
 refine esk rfl ?_
 refine ent_block ?_
 refine ent_open 29 1 false aH (fun _ => rfl) ?_
 refine ent_rows0 3 aInt ?_
 refine ent_loop (fun (ss : Int × List Hdr × Option Nat × Nat) => match ss with | (k, Hs, rr2, cc2) => (⟨[(0, aInt n), (1, aSl 1 false aInt l), (5, aEx (vec rr2 ((Hs).length) cc2)), (6, aInt k)], [oRws 3 aInt [] Hs (List.replicate k.toNat (List.replicate n.toNat (0 : Int))), oVec rr2 cc2 29 1 false aH Hs]⟩ : St)) (fun (ss : Int × List Hdr × Option Nat × Nat) => match ss with | (k, Hs, rr2, cc2) => (0 ≤ k) ∧ (k ≤ n) ∧ ((Hs.length : Int) = k)) (fun (ss : Int × List Hdr × Option Nat × Nat) => match ss with | (k, Hs, rr2, cc2) => (n - k).toNat) (0, [], none, 0) ⟨(by first | rfl | assumption | omega | (simp_all; done) | grind), (by first | rfl | assumption | omega | (simp_all; done) | grind), (by first | rfl | assumption | omega | (simp_all; done) | grind)⟩ (ent_rep ⟨rfl, rfl, slot_av ((show aEx (vec none ([] : List _).length 0) = aEx (vec none (([]).length) 0) from av_vec (congrArg List.length (show [] = [] by first | rfl | assumption | omega | (simp_all; done) | grind).symm))), slot_av (av_int (show 0 = (0 : Int) by first | rfl | assumption | omega | (simp_all; done) | grind)), trivial⟩ (own_cons (own_rws rfl (show List.replicate (0 : Int).toNat (List.replicate n.toNat (0 : Int)) = [] by first | rfl | assumption | omega | (simp_all; done) | grind)) (rfl))) ?_
 rintro ⟨k, Hs, rr2, cc2⟩ ⟨q0, q1, hH⟩
 show Ent _ ⟨_, [_, _]⟩ _
 refine ent_seq fun _ K5 => ?_
 refine esr rfl fun _ K6 => ?_
 refine ent_o rfl (ok_lss rfl rfl) ?_
 refine enk K6 ?_
 refine ent_condD rfl (fun h12 => ?_) (fun h12 => ?_)
 ·refine esp K5 ?_
  refine ent_seq fun _ K7 => ?_
  refine ent_block ?_
  refine ent_region ?_
  refine emm rfl ?_
  refine ent_make aInt 0 rfl vt29 rfl rfl (by first | omega | (simp only [List.length_set, ixlen_set2 _ _ _ h0 hj0, ixlen_set2, List.length_drop, length_mkM]; omega) | (simp only [length_mkM]; omega) | (simp; omega)) (by first | omega | (simp only [List.length_set, ixlen_set2 _ _ _ h0 hj0, ixlen_set2, List.length_drop, length_mkM]; omega) | (simp only [length_mkM]; omega) | (simp; omega)) (by first | omega | (simp only [List.length_set, ixlen_set2 _ _ _ h0 hj0, ixlen_set2, List.length_drop, length_mkM]; omega) | (simp only [length_mkM]; omega) | (simp; omega)) (fun _ _ => rfl) (AllV.mem ⟨rfl, trivial⟩) (fun b17_3 => ?_)
  refine ent_appendL (k := 2) (enc := aH) (y := ⟨(some b17_3), (n).toNat, (n).toNat⟩) rfl rfl vt65 rfl rfl (by first | rfl | assumption | (simp; done) | (simp_all; done) | omega) rfl ((elem_one (one_ex rfl))) (by first | omega | (simp only [List.length_append, List.length_cons, List.length_nil]; omega) | (simp; omega)) (by first | omega | (simp only [List.length_append, List.length_cons, List.length_nil]; omega) | (simp; omega)) (by decide) (fun b19_4 c19_4 => ?_)
  refine ent_pushRow 1 0 (m := (n).toNat) rfl rfl (by decide) (by first | rfl | assumption | (simp; done) | (simp_all; done) | omega) ?_
  refine emm rfl ?_
  refine enk K7 ?_
  refine ent_region ?_
  refine emm rfl ?_
  refine ent_o rfl (ok_add rfl rfl (by first | omega | (simp only [List.length_set, ixlen_set2 _ _ _ h0 hj0, ixlen_set2, List.length_drop, length_mkM]; omega) | (simp only [length_mkM]; omega) | (simp; omega)) (by first | omega | (simp only [List.length_set, ixlen_set2 _ _ _ h0 hj0, ixlen_set2, List.length_drop, length_mkM]; omega) | (simp only [length_mkM]; omega) | (simp; omega))) ?_
  refine emm rfl ?_
  refine ent_nil ?_
  refine ent_again (s := (k, Hs, rr2, cc2)) (k + 1, Hs ++ [⟨(some b17_3), (n).toNat, (n).toNat⟩], (some b19_4), c19_4) ⟨(by first | rfl | assumption | omega | (simp_all; done) | grind), (by first | rfl | assumption | omega | (simp_all; done) | grind), (by simp; omega)⟩ (by first | omega | (dsimp only; omega)) (ent_rep ⟨rfl, rfl, slot_av (av_vec (congrArg List.length (show (Hs ++ [⟨(some b17_3), (n).toNat, (n).toNat⟩]) = Hs ++ [⟨(some b17_3), (n).toNat, (n).toNat⟩] by first | rfl | assumption | omega | (simp_all; done) | grind).symm)), rfl, trivial⟩ (own_cons (own_rws (show (Hs ++ [⟨(some b17_3), (n).toNat, (n).toNat⟩]) = Hs ++ [⟨(some b17_3), (n).toNat, (n).toNat⟩] by first | rfl | assumption | omega | (simp_all; done) | grind) (show List.replicate (k + 1).toNat (List.replicate n.toNat (0 : Int)) = (List.replicate k.toNat (List.replicate n.toNat (0 : Int))) ++ [List.replicate ((n).toNat) 0] by rw [show (k + 1).toNat = k.toNat + 1 by omega, List.replicate_succ'])) (rfl)))
 ·have hHn : Hs.length = n.toNat := by omega
  refine ent_exit ?_
  refine ent_k K3 ?_
  refine esk rfl ?_
  refine ent_seq fun _ K9 => ?_
  refine esk rfl ?_
  refine ent_block ?_
  refine ent_loop (fun (i : Int) => (⟨[(0, aInt n), (1, aSl 1 false aInt l), (5, aEx (vec rr2 ((Hs).length) cc2)), (7, aInt (tri n i.toNat)), (8, aInt i)], [oRws 3 aInt [] Hs (mkM n n (symE l n i i)), oVec rr2 cc2 29 1 false aH Hs]⟩ : St)) (fun (i : Int) => (0 ≤ i) ∧ (i ≤ n)) (fun (i : Int) => (n - i).toNat) 0 ⟨(by first | rfl | assumption | omega | (simp_all; done) | grind), (by first | rfl | assumption | omega | (simp_all; done) | grind)⟩ (ent_rep ⟨rfl, rfl, rfl, slot_av (av_int (show 0 = tri n (0 : Int).toNat by rfl)), slot_av (av_int (show 0 = (0 : Int) by first | rfl | assumption | omega | (simp_all; done) | grind)), trivial⟩ (own_cons (own_rws rfl (show mkM n n (symE l n (0 : Int) (0 : Int)) = List.replicate k.toNat (List.replicate n.toNat (0 : Int)) by rw [show k = n by omega, mkM_zero]; exact (symE_zero n l n).symm)) (rfl))) ?_
  rintro i ⟨h0, h1⟩
  show Ent _ ⟨_, [_, _]⟩ _
  refine ent_seq fun _ K11 => ?_
  refine esr rfl fun _ K12 => ?_
  refine ent_o rfl (ok_lss rfl rfl) ?_
  refine enk K12 ?_
  refine ent_condD rfl (fun h22 => ?_) (fun h22 => ?_)
  ·refine esp K11 ?_
   refine ent_seq fun _ K13 => ?_
   refine ent_block ?_
   refine esk rfl ?_
   refine ent_block ?_
   refine ent_loop (fun (j : Int) => (⟨[(0, aInt n), (1, aSl 1 false aInt l), (5, aEx (vec rr2 ((Hs).length) cc2)), (7, aInt (tri n i.toNat + (j - i))), (8, aInt i), (9, aInt j)], [oRws 3 aInt [] Hs (mkM n n (symE l n i j)), oVec rr2 cc2 29 1 false aH Hs]⟩ : St)) (fun (j : Int) => (i ≤ j) ∧ (j ≤ n)) (fun (j : Int) => (n - j).toNat) i ⟨(by first | rfl | assumption | omega | (simp_all; done) | grind), (by first | rfl | assumption | omega | (simp_all; done) | grind)⟩ (ent_rep ⟨rfl, rfl, rfl, slot_av (av_int (show tri n i.toNat = tri n i.toNat + (i - i) by omega)), rfl, rfl, trivial⟩ rfl) ?_
   rintro j ⟨j0, j1⟩
   show Ent _ ⟨_, [_, _]⟩ _
   refine ent_seq fun _ K15 => ?_
   refine esr rfl fun _ K16 => ?_
   refine ent_o rfl (ok_lss rfl rfl) ?_
   refine enk K16 ?_
   refine ent_condD rfl (fun h28 => ?_) (fun h28 => ?_)
   ·have hj0 : 0 ≤ j := by omega
    have ht := tri_lt h0 j0 h28
    have hMi := ixlen_mkM (C := n) (symE l n i j) h0 (show i < n by omega)
    have hMj := ixlen_mkM (C := n) (symE l n i j) hj0 (show j < n by omega)
    have hML := length_mkM n n (symE l n i j)
    refine esp K15 ?_
    refine ent_seq fun _ K17 => ?_
    refine ent_block ?_
    refine ent_seq fun _ K18 => ?_
    refine ent_draw 10 mixed (by kernel_rfl) (by kernel_rfl) (by kernel_rfl) ?_
    refine dw_o rfl (ok_move rfl) ?_
    refine dw_o rfl (ok_move rfl) ?_
    refine dw_o rfl (ok_indexV0 (k := 1) sl65 rfl rfl (by first | rfl | assumption | (simp; done) | (simp_all; done) | omega) rfl (by first | omega | (simp only [List.length_set, ixlen_set2 _ _ _ h0 hj0, ixlen_set2, List.length_drop, length_mkM]; omega) | (simp only [length_mkM]; omega) | (simp; omega)) (by first | omega | (simp only [List.length_set, ixlen_set2 _ _ _ h0 hj0, ixlen_set2, List.length_drop, length_mkM]; omega) | (simp only [length_mkM]; omega) | (simp; omega))) ?_
    refine dw_o rfl (ok_loadV0 (k := 1) Hdr.no ti29 rfl rfl (by first | omega | (simp only [List.length_set, ixlen_set2 _ _ _ h0 hj0, ixlen_set2, List.length_drop, length_mkM]; omega) | (simp only [length_mkM]; omega) | (simp; omega)) (by first | omega | (simp only [List.length_set, ixlen_set2 _ _ _ h0 hj0, ixlen_set2, List.length_drop, length_mkM]; omega) | (simp only [length_mkM]; omega) | (simp; omega))) ?_
    refine dw_o rfl (ok_move rfl) ?_
    refine dw_o rfl (ok_move rfl) ?_
    refine dw_o rfl (ok_move rfl) ?_
    refine dw_o rfl (ok_index 0 sl29 rfl rfl (by first | omega | (simp only [List.length_set, ixlen_set2 _ _ _ h0 hj0, ixlen_set2, List.length_drop, length_mkM]; omega) | (simp only [length_mkM]; omega) | (simp; omega)) (by first | omega | (simp only [List.length_set, ixlen_set2 _ _ _ h0 hj0, ixlen_set2, List.length_drop, length_mkM]; omega) | (simp only [length_mkM]; omega) | (simp; omega))) ?_
    refine dw_o rfl (ok_load ti3 rfl) ?_
    refine dw_o rfl (ok_indexH (k := 0) sl29 rfl rfl rfl (by first | omega | (simp only [List.length_set, ixlen_set2 _ _ _ h0 hj0, ixlen_set2, List.length_drop, length_mkM]; omega) | (simp only [length_mkM]; omega) | (simp; omega)) (by first | omega | (simp only [List.length_set, ixlen_set2 _ _ _ h0 hj0, ixlen_set2, List.length_drop, length_mkM]; omega) | (simp only [length_mkM]; omega) | (simp; omega)) (by first | exact List.not_mem_nil | (simp; done) | (simp; omega)) (by first | omega | (simp only [List.length_set, ixlen_set2 _ _ _ h0 hj0, ixlen_set2, List.length_drop, length_mkM]; omega) | (simp only [length_mkM]; omega) | (simp; omega)) (by first | omega | (simp only [List.length_set, ixlen_set2 _ _ _ h0 hj0, ixlen_set2, List.length_drop, length_mkM]; omega) | (simp only [length_mkM]; omega) | (simp; omega))) ?_
    refine dw_nil ?_
    refine ent_storeH (k := 0) (z := ix 0 l (tri n i.toNat + (j - i))) ti3 rfl rfl rfl (elem_one (one_int _)) (by first | omega | (simp only [List.length_set, ixlen_set2 _ _ _ h0 hj0, ixlen_set2, List.length_drop, length_mkM]; omega) | (simp only [length_mkM]; omega) | (simp; omega)) (by first | omega | (simp only [List.length_set, ixlen_set2 _ _ _ h0 hj0, ixlen_set2, List.length_drop, length_mkM]; omega) | (simp only [length_mkM]; omega) | (simp; omega)) (by first | omega | (simp only [List.length_set, ixlen_set2 _ _ _ h0 hj0, ixlen_set2, List.length_drop, length_mkM]; omega) | (simp only [length_mkM]; omega) | (simp; omega)) (by first | omega | (simp only [List.length_set, ixlen_set2 _ _ _ h0 hj0, ixlen_set2, List.length_drop, length_mkM]; omega) | (simp only [length_mkM]; omega) | (simp; omega)) ?_
    refine enk K18 ?_
    refine ent_seq fun _ K19 => ?_
    refine ent_draw 10 mixed (by kernel_rfl) (by kernel_rfl) (by kernel_rfl) ?_
    refine dw_o rfl (ok_move rfl) ?_
    refine dw_o rfl (ok_move rfl) ?_
    refine dw_o rfl (ok_indexV0 (k := 1) sl65 rfl rfl (by first | rfl | assumption | (simp; done) | (simp_all; done) | omega) rfl (by first | omega | (simp only [List.length_set, ixlen_set2 _ _ _ h0 hj0, ixlen_set2, List.length_drop, length_mkM]; omega) | (simp only [length_mkM]; omega) | (simp; omega)) (by first | omega | (simp only [List.length_set, ixlen_set2 _ _ _ h0 hj0, ixlen_set2, List.length_drop, length_mkM]; omega) | (simp only [length_mkM]; omega) | (simp; omega))) ?_
    refine dw_o rfl (ok_loadV0 (k := 1) Hdr.no ti29 rfl rfl (by first | omega | (simp only [List.length_set, ixlen_set2 _ _ _ h0 hj0, ixlen_set2, List.length_drop, length_mkM]; omega) | (simp only [length_mkM]; omega) | (simp; omega)) (by first | omega | (simp only [List.length_set, ixlen_set2 _ _ _ h0 hj0, ixlen_set2, List.length_drop, length_mkM]; omega) | (simp only [length_mkM]; omega) | (simp; omega))) ?_
    refine dw_o rfl (ok_move rfl) ?_
    refine dw_o rfl (ok_move rfl) ?_
    refine dw_o rfl (ok_move rfl) ?_
    refine dw_o rfl (ok_index 0 sl29 rfl rfl (by first | omega | (simp only [List.length_set, ixlen_set2 _ _ _ h0 hj0, ixlen_set2, List.length_drop, length_mkM]; omega) | (simp only [length_mkM]; omega) | (simp; omega)) (by first | omega | (simp only [List.length_set, ixlen_set2 _ _ _ h0 hj0, ixlen_set2, List.length_drop, length_mkM]; omega) | (simp only [length_mkM]; omega) | (simp; omega))) ?_
    refine dw_o rfl (ok_load ti3 rfl) ?_
    refine dw_o rfl (ok_indexH (k := 0) sl29 rfl rfl rfl (by first | omega | (simp only [List.length_set, ixlen_set2 _ _ _ h0 hj0, ixlen_set2, List.length_drop, length_mkM]; omega) | (simp only [length_mkM]; omega) | (simp; omega)) (by first | omega | (simp only [List.length_set, ixlen_set2 _ _ _ h0 hj0, ixlen_set2, List.length_drop, length_mkM]; omega) | (simp only [length_mkM]; omega) | (simp; omega)) (by first | exact List.not_mem_nil | (simp; done) | (simp; omega)) (by first | omega | (simp only [List.length_set, ixlen_set2 _ _ _ h0 hj0, ixlen_set2, List.length_drop, length_mkM]; omega) | (simp only [length_mkM]; omega) | (simp; omega)) (by first | omega | (simp only [List.length_set, ixlen_set2 _ _ _ h0 hj0, ixlen_set2, List.length_drop, length_mkM]; omega) | (simp only [length_mkM]; omega) | (simp; omega))) ?_
    refine dw_nil ?_
    refine ent_storeH (k := 0) (z := ix 0 l (tri n i.toNat + (j - i))) ti3 rfl rfl rfl (elem_one (one_int _)) (by first | omega | (simp only [List.length_set, ixlen_set2 _ _ _ h0 hj0, ixlen_set2, List.length_drop, length_mkM]; omega) | (simp only [length_mkM]; omega) | (simp; omega)) (by first | omega | (simp only [List.length_set, ixlen_set2 _ _ _ h0 hj0, ixlen_set2, List.length_drop, length_mkM]; omega) | (simp only [length_mkM]; omega) | (simp; omega)) (by first | omega | (simp only [List.length_set, ixlen_set2 _ _ _ h0 hj0, ixlen_set2, List.length_drop, length_mkM]; omega) | (simp only [length_mkM]; omega) | (simp; omega)) (by first | omega | (simp only [List.length_set, ixlen_set2 _ _ _ h0 hj0, ixlen_set2, List.length_drop, length_mkM]; omega) | (simp only [length_mkM]; omega) | (simp; omega)) ?_
    refine enk K19 ?_
    refine ent_region ?_
    refine emm rfl ?_
    refine ent_o rfl (ok_add rfl rfl (by first | omega | (simp only [List.length_set, ixlen_set2 _ _ _ h0 hj0, ixlen_set2, List.length_drop, length_mkM]; omega) | (simp only [length_mkM]; omega) | (simp; omega)) (by first | omega | (simp only [List.length_set, ixlen_set2 _ _ _ h0 hj0, ixlen_set2, List.length_drop, length_mkM]; omega) | (simp only [length_mkM]; omega) | (simp; omega))) ?_
    refine emm rfl ?_
    refine enk K17 ?_
    refine ent_region ?_
    refine emm rfl ?_
    refine ent_o rfl (ok_add rfl rfl (by first | omega | (simp only [List.length_set, ixlen_set2 _ _ _ h0 hj0, ixlen_set2, List.length_drop, length_mkM]; omega) | (simp only [length_mkM]; omega) | (simp; omega)) (by first | omega | (simp only [List.length_set, ixlen_set2 _ _ _ h0 hj0, ixlen_set2, List.length_drop, length_mkM]; omega) | (simp only [length_mkM]; omega) | (simp; omega))) ?_
    refine emm rfl ?_
    refine ent_nil ?_
    refine ent_again (s := (j)) (j + 1) ⟨(by first | rfl | assumption | omega | (simp_all; done) | grind), (by first | rfl | assumption | omega | (simp_all; done) | grind)⟩ (by first | omega | (dsimp only; omega)) (ent_rep ⟨rfl, rfl, rfl, slot_av (av_int (show (tri n i.toNat + (j - i)) + 1 = tri n i.toNat + ((j + 1) - i) by omega)), rfl, rfl, trivial⟩ (own_cons (own_rws rfl (show mkM n n (symE l n i (j + 1)) = List.set (List.set (mkM n n (symE l n i j)) (i).toNat (List.set (ix [] (mkM n n (symE l n i j)) i) (j).toNat (ix 0 l (tri n i.toNat + (j - i))))) (j).toNat (List.set (ix [] (List.set (mkM n n (symE l n i j)) (i).toNat (List.set (ix [] (mkM n n (symE l n i j)) i) (j).toNat (ix 0 l (tri n i.toNat + (j - i))))) j) (i).toNat (ix 0 l (tri n i.toNat + (j - i)))) by exact (symE_step h0 j0 h28 (by omega) rfl).symm)) (rfl)))
   ·refine ent_exit ?_
    refine ent_k K13 ?_
    refine ent_region ?_
    refine emm rfl ?_
    refine ent_o rfl (ok_add rfl rfl (by first | omega | (simp only [List.length_set, ixlen_set2 _ _ _ h0 hj0, ixlen_set2, List.length_drop, length_mkM]; omega) | (simp only [length_mkM]; omega) | (simp; omega)) (by first | omega | (simp only [List.length_set, ixlen_set2 _ _ _ h0 hj0, ixlen_set2, List.length_drop, length_mkM]; omega) | (simp only [length_mkM]; omega) | (simp; omega))) ?_
    refine emm rfl ?_
    refine ent_nil ?_
    refine ent_again (s := (i)) (i + 1) ⟨(by first | rfl | assumption | omega | (simp_all; done) | grind), (by first | rfl | assumption | omega | (simp_all; done) | grind)⟩ (by first | omega | (dsimp only; omega)) (ent_rep ⟨rfl, rfl, rfl, slot_av (av_int (show tri n i.toNat + (j - i) = tri n (i + 1).toNat by rw [show j = n by omega, tri_succ h0])), rfl, trivial⟩ (own_cons (own_rws rfl (show mkM n n (symE l n (i + 1) (i + 1)) = mkM n n (symE l n i j) by rw [show j = n by omega]; exact (symE_row n l n i).symm)) (rfl)))
  ·refine ent_exit ?_
   refine ent_k K9 ?_
   refine esk rfl ?_
   refine ent_ret ?_
   refine ent_pm 2 [0, 1] rfl (by decide) rfl ?_
   exact retW (.inr rfl) (rr2, cc2, Hs) (hHn) ((show ([oVec rr2 cc2 29 1 false aH Hs, oRws 3 aInt [] Hs (mkM n n (symE l n n n))] : List Own) = [oVec rr2 cc2 29 1 false aH Hs, oRws 3 aInt [] Hs (mkM n n (symE l n i i))] from (own_cons (rfl) (own_cons (own_rws rfl (show mkM n n (symE l n n n) = mkM n n (symE l n i i) by rw [show i = n by omega])) (rfl)))).symm) (resW1 Try.results98 (resr_tmp (res_cv rfl (cv_ex (show vec rr2 ((Hs).length) cc2 = vec rr2 Hs.length cc2 by first | rfl | (congr 1 <;> first | omega | (simp; done) | (simp; omega)) | simp_all)))))

theorem rMessage_ok (r : Rgn) (l : List Int) (R : RgOk r) (hlb : (l.length : Int) = rgB r) : Ctr Try.prog 68 [aRgn r, aSl 1 false aInt l] (aSl 1 false aInts (msgR r l)) := by
 have hE := enc_facts R hlb
 have hbb := rgB_rng R
 have hd := hE.d
 have ha := hE.a
 have hk := hE.k
 have hk0 := hE.k0
 have hk1 := hE.k1
 have hkk := hE.kk
 have hnm := length_msgR hE
 refine ctr_of Try.call68 Try.func68 rfl rfl ?_
 intro w O
 refine ent_lenC 0 2 rfl rfl (fun hlen0_2 => ?_)
 refine ent_lenC 0 6 rfl rfl (fun hlen0_6 => ?_)
 refine ent_len 1 rfl (fun hlen1 => ?_)
 refine esr rfl fun _ K1 => ?_
 refine ent_boxS rfl rfl (AllOne.mem ⟨(one_int _), (one_int _), one_sl, (one_int _), (one_int _), (one_int _), one_sl, trivial⟩) (fun b2_1 => ?_)
 refine emm rfl ?_
 refine enk K1 ?_
 refine ent_seq fun _ K2 => ?_
 refine esr rfl fun _ K3 => ?_
 refine ent_o rfl (ok_fieldAddrEx Try.runUnderlying53 rfl Try.sizeOf3 (by decide) rfl) ?_
 refine ent_o rfl (ok_loadB (k := 0) Try.isAgg3 rfl rfl rfl) ?_
 refine ent_o rfl (ok_eql rfl rfl) ?_
 refine enk K3 ?_
 refine ent_condD rfl (fun h14 => ?_) (fun h14 => ?_)
 ·have q := hk1 h14
  have hka := q.1
  have hln := q.2.2.1
  have hhalf : (l.length : Int) / 2 = tri (r.K - 1) (r.K - 1).toNat := by rw [← hka]; omega
  refine esr rfl fun _ K4 => ?_
  refine ent_o rfl (ok_len rfl Try.runUnderlying29 rfl) ?_
  refine ent_o rfl (ok_quo rfl rfl (by first | omega | (simp; omega)) (by first | omega | (simp; omega)) (by first | omega | (simp; omega))) ?_
  refine emm rfl ?_
  refine enk K4 ?_
  refine ent_seq fun _ K5 => ?_
  refine ent_drawW2 (φ := fun (y : Option Nat × Nat × List Hdr) => match y with | (ro, co, Hs) => Hs.length = (r.K - 1).toNat) (val := fun (y : Option Nat × Nat × List Hdr) => match y with | (ro, co, Hs) => vec ro Hs.length co) (Ws := fun (y : Option Nat × Nat × List Hdr) => match y with | (ro, co, Hs) => [oVec ro co 29 1 false aH Hs, oRws 3 aInt [] Hs (mkM (r.K - 1) (r.K - 1) (symE (List.take ((↑l.length : Int) / 2).toNat l) (r.K - 1) (r.K - 1) (r.K - 1)))]) 13 [] 6 24 [(18, aEx (.pointer (some ⟨b2_1, 4, none⟩))), (19, aInt r.K), (20, aInt (r.K - 1)), (21, aSl 1 false aInt l), (22, aInt ((↑l.length : Int) / 2)), (23, aSl 1 false aInt (List.take ((↑l.length : Int) / 2).toNat l)), (24, aNew w.heap.size (fun (y : Option Nat × Nat × List Hdr) => match y with | (ro, co, Hs) => Hs.length = (r.K - 1).toNat) (fun (y : Option Nat × Nat × List Hdr) => match y with | (ro, co, Hs) => aEx (vec ro Hs.length co)) (fun (y : Option Nat × Nat × List Hdr) => match y with | (ro, co, Hs) => [oVec ro co 29 1 false aH Hs, oRws 3 aInt [] Hs (mkM (r.K - 1) (r.K - 1) (symE (List.take ((↑l.length : Int) / 2).toNat l) (r.K - 1) (r.K - 1) (r.K - 1)))])), (25, aEx (.pointer (some ⟨b2_1, 4, none⟩))), (26, aInt r.K), (27, aInt (r.K - 1)), (28, aSl 1 false aInt l), (29, aInt ((↑l.length : Int) / 2)), (30, aSl 1 false aInt (List.drop ((↑l.length : Int) / 2).toNat l))] mixed (by kernel_rfl) (by kernel_rfl) (by kernel_rfl) (by kernel_rfl) (by kernel_rfl) (fun _ _ _ _ _ h => h) rfl (by kernel_rfl) (by kernel_rfl) (fun _ => by kernel_rfl) (fun _ => by kernel_rfl) (fun _ => by kernel_rfl) (rsym_ok (r.K - 1) (List.take ((↑l.length : Int) / 2).toNat l) (by omega) (by omega) (by rw [List.length_take, ← hka]; omega)) (by kernel_rfl) ⟨arg_a rfl (cv_id sub_refl), arg_a rfl (cv_id sub_refl), trivial⟩ ?_ ?_
  ·refine dwl_o rfl rfl (OpOK.eqv (ok_fieldAddrEx Try.runUnderlying53 rfl Try.sizeOf3 (by decide) rfl) rfl) ?_
   refine dwl_o rfl rfl (OpOK.eqv (ok_loadB (k := 0) Try.isAgg3 rfl rfl rfl) rfl) ?_
   refine dwl_o rfl rfl (OpOK.eqv (ok_sub rfl rfl (by first | omega | (simp; omega)) (by first | omega | (simp; omega))) rfl) ?_
   refine dwl_o rfl rfl (OpOK.eqv (ok_move rfl) rfl) ?_
   refine dwl_o rfl rfl (OpOK.eqv (ok_move rfl) rfl) ?_
   refine dwl_o rfl rfl (OpOK.eqv (ok_sliceTo sl29 rfl rfl (by first | omega | (simp; omega)) (by first | omega | (simp; omega))) rfl) ?_
   refine dwl_o rfl rfl (OpOK.eqv (ok_callW0 (rsym_ok (r.K - 1) (List.take ((↑l.length : Int) / 2).toNat l) (by omega) (by omega) (by rw [List.length_take, ← hka]; omega)) ⟨arg_a rfl (cv_id sub_refl), arg_a rfl (cv_id sub_refl), trivial⟩) rfl) ?_
   refine dwl_o rfl rfl (OpOK.eqv (ok_fieldAddrEx Try.runUnderlying53 rfl Try.sizeOf3 (by decide) rfl) rfl) ?_
   refine dwl_o rfl rfl (OpOK.eqv (ok_loadB (k := 0) Try.isAgg3 rfl rfl rfl) rfl) ?_
   refine dwl_o rfl rfl (OpOK.eqv (ok_sub rfl rfl (by first | omega | (simp; omega)) (by first | omega | (simp; omega))) rfl) ?_
   refine dwl_o rfl rfl (OpOK.eqv (ok_move rfl) rfl) ?_
   refine dwl_o rfl rfl (OpOK.eqv (ok_move rfl) rfl) ?_
   refine dwl_o rfl rfl (OpOK.eqv (ok_sliceFrom sl29 rfl rfl (by first | omega | (simp; omega)) (by first | omega | (simp; omega))) rfl) ?_
   exact dwl_nil trivial
  rintro ⟨ro_2, co_2, Hs_2⟩ h24_2
  show DWL _ _ [oVec ro_2 co_2 29 1 false aH Hs_2, oRws 3 aInt [] Hs_2 (mkM (r.K - 1) (r.K - 1) (symE (List.take ((↑l.length : Int) / 2).toNat l) (r.K - 1) (r.K - 1) (r.K - 1))), oBox b2_1 53 [aInt r.F.P, aInt r.F.M, aSl 1 false aInt r.F.mod, aInt r.Kind, aInt r.K, aInt r.D, aSl 1 false aInt r.Points]] _ [(18, aEx (.pointer (some ⟨b2_1, 4, none⟩))), (19, aInt r.K), (20, aInt (r.K - 1)), (21, aSl 1 false aInt l), (22, aInt ((↑l.length : Int) / 2)), (23, aSl 1 false aInt (List.take ((↑l.length : Int) / 2).toNat l)), (24, aEx (vec ro_2 Hs_2.length co_2)), (25, aEx (.pointer (some ⟨b2_1, 4, none⟩))), (26, aInt r.K), (27, aInt (r.K - 1)), (28, aSl 1 false aInt l), (29, aInt ((↑l.length : Int) / 2)), (30, aSl 1 false aInt (List.drop ((↑l.length : Int) / 2).toNat l))] _ _
  refine dwl_o rfl rfl (OpOK.eqv (ok_fieldAddrEx Try.runUnderlying53 rfl Try.sizeOf3 (by decide) rfl) rfl) ?_
  refine dwl_o rfl rfl (OpOK.eqv (ok_loadB (k := 2) Try.isAgg3 rfl rfl rfl) rfl) ?_
  refine dwl_o rfl rfl (OpOK.eqv (ok_sub rfl rfl (by first | omega | (simp; omega)) (by first | omega | (simp; omega))) rfl) ?_
  refine dwl_o rfl rfl (OpOK.eqv (ok_move rfl) rfl) ?_
  refine dwl_o rfl rfl (OpOK.eqv (ok_move rfl) rfl) ?_
  refine dwl_o rfl rfl (OpOK.eqv (ok_sliceTo sl29 rfl rfl (by first | omega | (simp; omega)) (by first | omega | (simp; omega))) rfl) ?_
  refine dwl_o rfl rfl (ok_move rfl) ?_
  refine dwl_o rfl rfl (OpOK.eqv (ok_fieldAddrEx Try.runUnderlying53 rfl Try.sizeOf3 (by decide) rfl) rfl) ?_
  refine dwl_o rfl rfl (OpOK.eqv (ok_loadB (k := 2) Try.isAgg3 rfl rfl rfl) rfl) ?_
  refine dwl_o rfl rfl (OpOK.eqv (ok_sub rfl rfl (by first | omega | (simp; omega)) (by first | omega | (simp; omega))) rfl) ?_
  refine dwl_o rfl rfl (OpOK.eqv (ok_move rfl) rfl) ?_
  refine dwl_o rfl rfl (OpOK.eqv (ok_move rfl) rfl) ?_
  refine dwl_o rfl rfl (OpOK.eqv (ok_sliceFrom sl29 rfl rfl (by first | omega | (simp; omega)) (by first | omega | (simp; omega))) rfl) ?_
  refine dwl_nil ?_
  refine ent_callW (rs := [oVec ro_2 co_2 29 1 false aH Hs_2, oRws 3 aInt [] Hs_2 (mkM (r.K - 1) (r.K - 1) (symE (List.take ((↑l.length : Int) / 2).toNat l) (r.K - 1) (r.K - 1) (r.K - 1))), oBox b2_1 53 [aInt r.F.P, aInt r.F.M, aSl 1 false aInt r.F.mod, aInt r.Kind, aInt r.K, aInt r.D, aSl 1 false aInt r.Points]]) [] rfl (rsym_ok (r.K - 1) (List.drop ((↑l.length : Int) / 2).toNat l) (by omega) (by omega) (by rw [List.length_drop, ← hka]; omega)) rfl rfl (.inl rfl) ⟨arg_a rfl (cv_id (sub_lent _)), arg_a rfl (cv_id (sub_lent _)), trivial⟩ ?_
  rintro ⟨ro_3, co_3, Hs_3⟩ h31_3
  show Ent _ ⟨_ :: _, [_, _, _, _, _]⟩ _
  refine ent_frzRows 2 3 rfl rfl (by decide) ?_
  refine ent_frzRows 0 1 rfl rfl (by decide) ?_
  refine ent_give 0 31 rfl (cv_vec (k := 0) (off_erase rfl) (by first | rfl | assumption | (simp; done) | (simp_all; done) | omega) rfl) ?_
  refine ent_appendS (k := 0) rfl vt65 rfl rfl (by first | rfl | assumption | (simp; done) | (simp_all; done) | omega) rfl (cv_id sub_refl) (by first | omega | (simp only [List.length_append, List.length_cons, List.length_nil]; omega) | (simp; omega)) (by first | omega | (simp only [List.length_append, List.length_cons, List.length_nil]; omega) | (simp; omega)) (fun r32_3 cr32_3 => ?_)
  refine emm rfl ?_
  refine enk K5 ?_
  refine ent_ret ?_
  exact retR1 (.inr rfl) Try.results68 (resr_tmp (res_cv rfl (cv_vec (k := 0) (off_x rfl) (by first | rfl | assumption | (simp; done) | (simp_all; done) | omega) (by first | exact (msgR_1 h14 hka hhalf).symm | exact List.take_of_length_le (by omega)))))
 ·have K0 : r.Kind = 0 := by omega
  have hkn : r.Kind ≠ 1 := h14
  have q := hk0 K0
  have htk := tri_K (K := r.K) (by omega)
  have hT : (r.K * (r.K + 1)) / 2 = tri r.K r.K.toNat := by omega
  have q4 := q.2.2.2
  have t0 := tri_nonneg (n := r.K) r.K.toNat (by omega)
  have hld : (List.drop ((r.K * (r.K + 1)) / 2).toNat l).length = l.length - ((r.K * (r.K + 1)) / 2).toNat := List.length_drop
  refine esp K2 ?_
  refine ent_seq fun _ K6 => ?_
  refine ent_drawW1 (φ := fun (y : Option Nat × Nat × List Hdr) => match y with | (ro, co, Hs) => Hs.length = r.K.toNat) (A := fun (y : Option Nat × Nat × List Hdr) => match y with | (ro, co, Hs) => aEx (vec ro Hs.length co)) (Ws := fun (y : Option Nat × Nat × List Hdr) => match y with | (ro, co, Hs) => [oVec ro co 29 1 false aH Hs, oRws 3 aInt [] Hs (mkM r.K r.K (symE (List.take ((r.K * (r.K + 1)) / 2).toNat l) r.K r.K r.K))]) 12 [] [12] 44 [] [(1, aSl 1 false aInt l), (2, aEx (.pointer (some ⟨b2_1, 0, none⟩)))] mixed (by kernel_rfl) (by kernel_rfl) (by kernel_rfl) (by kernel_rfl) (by kernel_rfl) (by kernel_rfl) (fun _ _ _ _ _ h => h) (AllPlS.mem (T := []) trivial) ⟨rfl, rfl, trivial⟩ (by kernel_rfl) (fun w => ?_) ?_
  ·refine dw_o rfl (ok_fieldAddrEx Try.runUnderlying53 rfl Try.sizeOf3 (by decide) rfl) ?_
   refine dw_o rfl (ok_loadB (k := 0) Try.isAgg3 rfl rfl rfl) ?_
   refine dw_o rfl (ok_move rfl) ?_
   refine dw_o rfl (ok_fieldAddrEx Try.runUnderlying53 rfl Try.sizeOf3 (by decide) rfl) ?_
   refine dw_o rfl (ok_loadB (k := 0) Try.isAgg3 rfl rfl rfl) ?_
   refine dw_o rfl (ok_fieldAddrEx Try.runUnderlying53 rfl Try.sizeOf3 (by decide) rfl) ?_
   refine dw_o rfl (ok_loadB (k := 0) Try.isAgg3 rfl rfl rfl) ?_
   refine dw_o rfl (ok_add rfl rfl (by first | omega | (simp; omega)) (by first | omega | (simp; omega))) ?_
   refine dw_o rfl (ok_mul rfl rfl (by first | omega | (simp; omega)) (by first | omega | (simp; omega))) ?_
   refine dw_o rfl (ok_quo rfl rfl (by first | omega | (simp; omega)) (by first | omega | (simp; omega)) (by first | omega | (simp; omega))) ?_
   refine dw_o rfl (ok_sliceTo sl29 rfl rfl (by first | omega | (simp; omega)) (by first | omega | (simp; omega))) ?_
   refine dw_o rfl (ok_callW0 (rsym_ok r.K (List.take ((r.K * (r.K + 1)) / 2).toNat l) (by omega) (by omega) (by rw [List.length_take]; omega)) ⟨arg_a rfl (cv_id sub_refl), arg_a rfl (cv_id sub_refl), trivial⟩) ?_
   exact ⟨rfl, trivial⟩
  rintro ⟨ro_5, co_5, Hs_5⟩ h44_5
  show Ent _ ⟨_ :: _, [_, _, _]⟩ _
  refine emm rfl ?_
  refine enk K6 ?_
  refine esr rfl fun _ K7 => ?_
  refine ent_frzRows 0 1 rfl rfl (by decide) ?_
  refine ent_give 0 6 rfl (cv_vec (k := 0) (off_erase rfl) (by first | rfl | assumption | (simp; done) | (simp_all; done) | omega) rfl) ?_
  refine emm rfl ?_
  refine ent_o rfl (ok_fieldAddrEx Try.runUnderlying53 rfl Try.sizeOf3 (by decide) rfl) ?_
  refine ent_o rfl (ok_loadB (k := 0) Try.isAgg3 rfl rfl rfl) ?_
  refine ent_o rfl (ok_fieldAddrEx Try.runUnderlying53 rfl Try.sizeOf3 (by decide) rfl) ?_
  refine ent_o rfl (ok_loadB (k := 0) Try.isAgg3 rfl rfl rfl) ?_
  refine ent_o rfl (ok_add rfl rfl (by first | omega | (simp; omega)) (by first | omega | (simp; omega))) ?_
  refine ent_o rfl (ok_mul rfl rfl (by first | omega | (simp; omega)) (by first | omega | (simp; omega))) ?_
  refine ent_o rfl (ok_quo rfl rfl (by first | omega | (simp; omega)) (by first | omega | (simp; omega)) (by first | omega | (simp; omega))) ?_
  refine ent_o rfl (ok_sliceFrom sl29 rfl rfl (by first | omega | (simp; omega)) (by first | omega | (simp; omega))) ?_
  refine emm rfl ?_
  refine enk K7 ?_
  refine esk rfl ?_
  refine ent_seq fun _ K9 => ?_
  refine esk rfl ?_
  refine ent_block ?_
  refine ent_open 29 1 false aInts (fun _ => rfl) ?_
  refine ent_loop (fun (ss : Int × Option Nat × Nat) => match ss with | (i, rr7, cc7) => (⟨[(2, aEx (.pointer (some ⟨b2_1, 0, none⟩))), (6, aSl 1 false aInts (mkM r.K r.K (symE (List.take ((r.K * (r.K + 1)) / 2).toNat l) r.K r.K r.K))), (7, aSl 1 false aInt (List.drop ((r.K * (r.K + 1)) / 2).toNat l)), (8, aEx (vec rr7 (((msgR r l).take i.toNat).length) cc7)), (9, aInt i)], [oVec rr7 cc7 29 1 false aInts ((msgR r l).take i.toNat), oBox b2_1 53 [aInt r.F.P, aInt r.F.M, aSl 1 false aInt r.F.mod, aInt r.Kind, aInt r.K, aInt r.D, aSl 1 false aInt r.Points]]⟩ : St)) (fun (ss : Int × Option Nat × Nat) => match ss with | (i, rr7, cc7) => (0 ≤ i) ∧ (i ≤ r.D)) (fun (ss : Int × Option Nat × Nat) => match ss with | (i, rr7, cc7) => (r.D - i).toNat) (0, none, 0) ⟨(by first | rfl | assumption | omega | (simp_all; done) | grind), (by first | rfl | assumption | omega | (simp_all; done) | grind)⟩ (ent_rep ⟨rfl, rfl, rfl, slot_av ((show aEx (vec none ([] : List _).length 0) = aEx (vec none (((msgR r l).take (0 : Int).toNat).length) 0) from av_vec (congrArg List.length (show (msgR r l).take (0 : Int).toNat = [] by rfl).symm))), slot_av (av_int (show 0 = (0 : Int) by first | rfl | assumption | omega | (simp_all; done) | grind)), trivial⟩ (own_cons (own_vec (show (msgR r l).take (0 : Int).toNat = [] by rfl)) (rfl))) ?_
  rintro ⟨i, rr7, cc7⟩ ⟨h0, h1⟩
  show Ent _ ⟨_, [_, _]⟩ _
  have ltm : ((msgR r l).take i.toNat).length = i.toNat := by rw [List.length_take]; omega
  refine ent_seq fun _ K11 => ?_
  refine esr rfl fun _ K12 => ?_
  refine ent_o rfl (ok_fieldAddrEx Try.runUnderlying53 rfl Try.sizeOf3 (by decide) rfl) ?_
  refine ent_o rfl (ok_loadB (k := 1) Try.isAgg3 rfl rfl rfl) ?_
  refine ent_o rfl (ok_lss rfl rfl) ?_
  refine enk K12 ?_
  refine ent_condD rfl (fun h57 => ?_) (fun h57 => ?_)
  ·refine esp K11 ?_
   refine ent_seq fun _ K13 => ?_
   refine ent_block ?_
   refine esr rfl fun _ K14 => ?_
   refine ent_o rfl (ok_fieldAddrEx Try.runUnderlying53 rfl Try.sizeOf3 (by decide) rfl) ?_
   refine ent_o rfl (ok_loadB (k := 1) Try.isAgg3 rfl rfl rfl) ?_
   refine ent_make aInt 0 rfl vt29 rfl rfl (by first | omega | (simp; omega)) (by first | omega | (simp; omega)) (by first | omega | (simp; omega)) (fun _ _ => rfl) (AllV.mem ⟨rfl, trivial⟩) (fun b62_8 => ?_)
   refine emm rfl ?_
   refine enk K14 ?_
   refine ent_seq fun _ K15 => ?_
   refine esk rfl ?_
   refine ent_block ?_
   refine ent_loop (fun (j : Int) => (⟨[(2, aEx (.pointer (some ⟨b2_1, 0, none⟩))), (6, aSl 1 false aInts (mkM r.K r.K (symE (List.take ((r.K * (r.K + 1)) / 2).toNat l) r.K r.K r.K))), (7, aSl 1 false aInt (List.drop ((r.K * (r.K + 1)) / 2).toNat l)), (8, aEx (vec rr7 (((msgR r l).take i.toNat).length) cc7)), (9, aInt i), (10, aEx (vec (some b62_8) ((r.D).toNat) ((r.D).toNat))), (11, aInt j)], [oVec (some b62_8) ((r.D).toNat) 3 1 false aInt (mixL (brR r l i) (List.replicate r.D.toNat 0) j), oVec rr7 cc7 29 1 false aInts ((msgR r l).take i.toNat), oBox b2_1 53 [aInt r.F.P, aInt r.F.M, aSl 1 false aInt r.F.mod, aInt r.Kind, aInt r.K, aInt r.D, aSl 1 false aInt r.Points]]⟩ : St)) (fun (j : Int) => (0 ≤ j) ∧ (j ≤ r.D)) (fun (j : Int) => (r.D - j).toNat) 0 ⟨(by first | rfl | assumption | omega | (simp_all; done) | grind), (by first | rfl | assumption | omega | (simp_all; done) | grind)⟩ (ent_rep ⟨rfl, rfl, rfl, rfl, rfl, rfl, slot_av (av_int (show 0 = (0 : Int) by first | rfl | assumption | omega | (simp_all; done) | grind)), trivial⟩ (own_cons (own_vec (show mixL (brR r l i) (List.replicate r.D.toNat 0) (0 : Int) = List.replicate ((r.D).toNat) 0 by first | exact mixL_zero _ _ | (rw [mixL_zero]; congr 1; omega))) (rfl))) ?_
   rintro j ⟨j0, j1⟩
   show Ent _ ⟨_, [_, _, _]⟩ _
   have lmx : (mixL (brR r l i) (List.replicate r.D.toNat 0) j).length = r.D.toNat := by rw [length_mixL _ _ (by simp [length_brR])]; simp
   refine ent_seq fun _ K17 => ?_
   refine esr rfl fun _ K18 => ?_
   refine ent_o rfl (ok_fieldAddrEx Try.runUnderlying53 rfl Try.sizeOf3 (by decide) rfl) ?_
   refine ent_o rfl (ok_loadB (k := 2) Try.isAgg3 rfl rfl rfl) ?_
   refine ent_o rfl (ok_lss rfl rfl) ?_
   refine enk K18 ?_
   refine ent_condD rfl (fun h66 => ?_) (fun h66 => ?_)
   ·refine esp K17 ?_
    refine ent_seq fun _ K19 => ?_
    refine ent_block ?_
    refine ent_seq fun _ K20 => ?_
    refine ent_cut (⟨[(2, aEx (.pointer (some ⟨b2_1, 0, none⟩))), (6, aSl 1 false aInts (mkM r.K r.K (symE (List.take ((r.K * (r.K + 1)) / 2).toNat l) r.K r.K r.K))), (7, aSl 1 false aInt (List.drop ((r.K * (r.K + 1)) / 2).toNat l)), (8, aEx (vec rr7 (((msgR r l).take i.toNat).length) cc7)), (9, aInt i), (10, aEx (vec (some b62_8) ((r.D).toNat) ((r.D).toNat))), (11, aInt j), (78, aBool (decide ((i < r.K) ∧ (j < r.K))))], [oVec (some b62_8) ((r.D).toNat) 3 1 false aInt (mixL (brR r l i) (List.replicate r.D.toNat 0) j), oVec rr7 cc7 29 1 false aInts ((msgR r l).take i.toNat), oBox b2_1 53 [aInt r.F.P, aInt r.F.M, aSl 1 false aInt r.F.mod, aInt r.Kind, aInt r.K, aInt r.D, aSl 1 false aInt r.Points]]⟩) ?_ ?_
    ·refine ent_region ?_
     refine emm rfl ?_
     refine ent_o rfl (ok_fieldAddrEx Try.runUnderlying53 rfl Try.sizeOf3 (by decide) rfl) ?_
     refine ent_o rfl (ok_loadB (k := 2) Try.isAgg3 rfl rfl rfl) ?_
     refine ent_o rfl (ok_lss rfl rfl) ?_
     refine emm rfl ?_
     refine ent_guardXDt rfl rfl rfl rfl (fun hg73 => ?_) (fun hg73 => ?_)
     ·refine emm rfl ?_
      refine ent_guardXT rfl rfl rfl rfl (decide_eq_true hg73) ?_
      refine ent_o rfl (ok_fieldAddrEx Try.runUnderlying53 rfl Try.sizeOf3 (by decide) rfl) ?_
      refine ent_guardXT rfl rfl rfl rfl (decide_eq_true hg73) ?_
      refine ent_o rfl (ok_loadB (k := 2) Try.isAgg3 rfl rfl rfl) ?_
      refine ent_guardXT rfl rfl rfl rfl (decide_eq_true hg73) ?_
      refine ent_o rfl (ok_lss rfl rfl) ?_
      refine ent_o rfl (ok_pickT rfl (decide_eq_true hg73) rfl) ?_
      refine ent_nil ?_
      exact ent_rep ⟨rfl, rfl, rfl, rfl, rfl, rfl, rfl, slot_bool (dq_Q ((and_iff_right hg73).trans Iff.rfl)), trivial⟩ rfl
     ·refine ent_guardXF rfl rfl rfl rfl (decide_eq_false hg73) ?_
      refine ent_guardXF rfl rfl rfl rfl (decide_eq_false hg73) ?_
      refine ent_guardXF rfl rfl rfl rfl (decide_eq_false hg73) ?_
      refine ent_o rfl (ok_pickF rfl (decide_eq_false hg73) rfl) ?_
      refine ent_nil ?_
      exact ent_rep ⟨rfl, rfl, rfl, rfl, rfl, rfl, rfl, slot_bool (dq_F rfl (fun h => hg73 h.1)), trivial⟩ rfl
    refine ent_k K20 ?_
    refine ent_condD rfl (fun h78 => ?_) (fun h78 => ?_)
    ·have hwi : (ix [] (mkM r.K r.K (symE (List.take ((r.K * (r.K + 1)) / 2).toNat l) r.K r.K r.K)) i).length = r.K.toNat := ixlen_mkM _ h0 h78.1
     have hwl := length_mkM r.K r.K (symE (List.take ((r.K * (r.K + 1)) / 2).toNat l) r.K r.K r.K)
     refine ent_region ?_
     refine emm rfl ?_
     refine ent_o rfl (ok_index [] sl65 rfl rfl (by first | omega | (simp; omega)) (by first | omega | (simp; omega))) ?_
     refine ent_o rfl (ok_load ti29 rfl) ?_
     refine emm rfl ?_
     refine ent_o rfl (ok_index 0 sl29 rfl rfl (by first | omega | (simp; omega)) (by first | omega | (simp; omega))) ?_
     refine ent_o rfl (ok_load ti3 rfl) ?_
     refine ent_o rfl (ok_indexV sl29 rfl rfl (by first | omega | (simp; omega)) (by first | omega | (simp; omega))) ?_
     refine ent_storeV (k := 0) (z := ix 0 (ix [] (mkM r.K r.K (symE (List.take ((r.K * (r.K + 1)) / 2).toNat l) r.K r.K r.K)) i) j) ti3 rfl rfl rfl (elem_one (one_int _)) (by first | omega | (simp; omega)) (by first | omega | (simp; omega)) ?_
     refine enk K19 ?_
     refine ent_region ?_
     refine emm rfl ?_
     refine ent_o rfl (ok_add rfl rfl (by first | omega | (simp; omega)) (by first | omega | (simp; omega))) ?_
     refine emm rfl ?_
     refine ent_nil ?_
     refine ent_again (s := (j)) (j + 1) ⟨(by first | rfl | assumption | omega | (simp_all; done) | grind), (by first | rfl | assumption | omega | (simp_all; done) | grind)⟩ (by first | omega | (dsimp only; omega)) (ent_rep ⟨rfl, rfl, rfl, rfl, rfl, rfl, rfl, trivial⟩ (own_cons (own_vec (show mixL (brR r l i) (List.replicate r.D.toNat 0) (j + 1) = List.set (mixL (brR r l i) (List.replicate r.D.toNat 0) j) (j).toNat (ix 0 (ix [] (mkM r.K r.K (symE (List.take ((r.K * (r.K + 1)) / 2).toNat l) r.K r.K r.K)) i) j) by first | exact (mixL_set (brR r l i) _ j0 (by first | omega | (simp; omega)) (by simp [length_brR]) (brR_11 h0 j0 h66 h78.1 h78.2 hT).symm).symm | exact (mixL_set (brR r l i) _ j0 (by first | omega | (simp; omega)) (by simp [length_brR]) (brR_10 h0 h66 h92 (by omega) hT rfl).symm).symm | exact (mixL_set (brR r l i) _ j0 (by first | omega | (simp; omega)) (by simp [length_brR]) (brR_01 h57 j0 h92 h114 hT rfl).symm).symm | exact mixL_same j0 (by rw [length_brR]; omega) (by simp [length_brR]) (brR_00 h66 j0 h92 h114))) (rfl)))
    ·refine esr rfl fun _ K21 => ?_
     refine ent_o rfl (ok_fieldAddrEx Try.runUnderlying53 rfl Try.sizeOf3 (by decide) rfl) ?_
     refine ent_o rfl (ok_loadB (k := 2) Try.isAgg3 rfl rfl rfl) ?_
     refine ent_o rfl (ok_lss rfl rfl) ?_
     refine enk K21 ?_
     refine ent_condD rfl (fun h92 => ?_) (fun h92 => ?_)
     ·have hb := brR_rng hE K0 h0 h92 (by omega) h66
      refine ent_region ?_
      refine emm rfl ?_
      refine ent_o rfl (ok_fieldAddrEx Try.runUnderlying53 rfl Try.sizeOf3 (by decide) rfl) ?_
      refine ent_o rfl (ok_loadB (k := 2) Try.isAgg3 rfl rfl rfl) ?_
      refine ent_o rfl (ok_fieldAddrEx Try.runUnderlying53 rfl Try.sizeOf3 (by decide) rfl) ?_
      refine ent_o rfl (ok_loadB (k := 2) Try.isAgg3 rfl rfl rfl) ?_
      refine ent_o rfl (ok_sub rfl rfl (by first | omega | (simp; omega)) (by first | omega | (simp; omega))) ?_
      refine ent_o rfl (ok_mul rfl rfl (by first | omega | (simp; omega)) (by first | omega | (simp; omega))) ?_
      refine emm rfl ?_
      refine ent_o rfl (ok_add rfl rfl (by first | omega | (simp; omega)) (by first | omega | (simp; omega))) ?_
      refine ent_o rfl (ok_fieldAddrEx Try.runUnderlying53 rfl Try.sizeOf3 (by decide) rfl) ?_
      refine ent_o rfl (ok_loadB (k := 2) Try.isAgg3 rfl rfl rfl) ?_
      refine ent_o rfl (ok_sub rfl rfl (by first | omega | (simp; omega)) (by first | omega | (simp; omega))) ?_
      refine ent_o rfl (ok_index 0 sl29 rfl rfl (by first | omega | (simp; omega)) (by first | omega | (simp; omega))) ?_
      refine ent_o rfl (ok_load ti3 rfl) ?_
      refine ent_o rfl (ok_indexV sl29 rfl rfl (by first | omega | (simp; omega)) (by first | omega | (simp; omega))) ?_
      refine ent_storeV (k := 0) (z := ix 0 (List.drop ((r.K * (r.K + 1)) / 2).toNat l) (((i * (r.D - r.K)) + j) - r.K)) ti3 rfl rfl rfl (elem_one (one_int _)) (by first | omega | (simp; omega)) (by first | omega | (simp; omega)) ?_
      refine enk K19 ?_
      refine ent_region ?_
      refine emm rfl ?_
      refine ent_o rfl (ok_add rfl rfl (by first | omega | (simp; omega)) (by first | omega | (simp; omega))) ?_
      refine emm rfl ?_
      refine ent_nil ?_
      refine ent_again (s := (j)) (j + 1) ⟨(by first | rfl | assumption | omega | (simp_all; done) | grind), (by first | rfl | assumption | omega | (simp_all; done) | grind)⟩ (by first | omega | (dsimp only; omega)) (ent_rep ⟨rfl, rfl, rfl, rfl, rfl, rfl, rfl, trivial⟩ (own_cons (own_vec (show mixL (brR r l i) (List.replicate r.D.toNat 0) (j + 1) = List.set (mixL (brR r l i) (List.replicate r.D.toNat 0) j) (j).toNat (ix 0 (List.drop ((r.K * (r.K + 1)) / 2).toNat l) (((i * (r.D - r.K)) + j) - r.K)) by first | exact (mixL_set (brR r l i) _ j0 (by first | omega | (simp; omega)) (by simp [length_brR]) (brR_11 h0 j0 h66 h78.1 h78.2 hT).symm).symm | exact (mixL_set (brR r l i) _ j0 (by first | omega | (simp; omega)) (by simp [length_brR]) (brR_10 h0 h66 h92 (by omega) hT rfl).symm).symm | exact (mixL_set (brR r l i) _ j0 (by first | omega | (simp; omega)) (by simp [length_brR]) (brR_01 h57 j0 h92 h114 hT rfl).symm).symm | exact mixL_same j0 (by rw [length_brR]; omega) (by simp [length_brR]) (brR_00 h66 j0 h92 h114))) (rfl)))
     ·refine esr rfl fun _ K22 => ?_
      refine ent_o rfl (ok_fieldAddrEx Try.runUnderlying53 rfl Try.sizeOf3 (by decide) rfl) ?_
      refine ent_o rfl (ok_loadB (k := 2) Try.isAgg3 rfl rfl rfl) ?_
      refine ent_o rfl (ok_lss rfl rfl) ?_
      refine enk K22 ?_
      refine ent_condD rfl (fun h114 => ?_) (fun h114 => ?_)
      ·have hb := brR_rng hE K0 j0 h114 (by omega) h57
       refine ent_region ?_
       refine emm rfl ?_
       refine ent_o rfl (ok_fieldAddrEx Try.runUnderlying53 rfl Try.sizeOf3 (by decide) rfl) ?_
       refine ent_o rfl (ok_loadB (k := 2) Try.isAgg3 rfl rfl rfl) ?_
       refine ent_o rfl (ok_fieldAddrEx Try.runUnderlying53 rfl Try.sizeOf3 (by decide) rfl) ?_
       refine ent_o rfl (ok_loadB (k := 2) Try.isAgg3 rfl rfl rfl) ?_
       refine ent_o rfl (ok_sub rfl rfl (by first | omega | (simp; omega)) (by first | omega | (simp; omega))) ?_
       refine ent_o rfl (ok_mul rfl rfl (by first | omega | (simp; omega)) (by first | omega | (simp; omega))) ?_
       refine emm rfl ?_
       refine ent_o rfl (ok_add rfl rfl (by first | omega | (simp; omega)) (by first | omega | (simp; omega))) ?_
       refine ent_o rfl (ok_fieldAddrEx Try.runUnderlying53 rfl Try.sizeOf3 (by decide) rfl) ?_
       refine ent_o rfl (ok_loadB (k := 2) Try.isAgg3 rfl rfl rfl) ?_
       refine ent_o rfl (ok_sub rfl rfl (by first | omega | (simp; omega)) (by first | omega | (simp; omega))) ?_
       refine ent_o rfl (ok_index 0 sl29 rfl rfl (by first | omega | (simp; omega)) (by first | omega | (simp; omega))) ?_
       refine ent_o rfl (ok_load ti3 rfl) ?_
       refine ent_o rfl (ok_indexV sl29 rfl rfl (by first | omega | (simp; omega)) (by first | omega | (simp; omega))) ?_
       refine ent_storeV (k := 0) (z := ix 0 (List.drop ((r.K * (r.K + 1)) / 2).toNat l) (((j * (r.D - r.K)) + i) - r.K)) ti3 rfl rfl rfl (elem_one (one_int _)) (by first | omega | (simp; omega)) (by first | omega | (simp; omega)) ?_
       refine enk K19 ?_
       refine ent_region ?_
       refine emm rfl ?_
       refine ent_o rfl (ok_add rfl rfl (by first | omega | (simp; omega)) (by first | omega | (simp; omega))) ?_
       refine emm rfl ?_
       refine ent_nil ?_
       refine ent_again (s := (j)) (j + 1) ⟨(by first | rfl | assumption | omega | (simp_all; done) | grind), (by first | rfl | assumption | omega | (simp_all; done) | grind)⟩ (by first | omega | (dsimp only; omega)) (ent_rep ⟨rfl, rfl, rfl, rfl, rfl, rfl, rfl, trivial⟩ (own_cons (own_vec (show mixL (brR r l i) (List.replicate r.D.toNat 0) (j + 1) = List.set (mixL (brR r l i) (List.replicate r.D.toNat 0) j) (j).toNat (ix 0 (List.drop ((r.K * (r.K + 1)) / 2).toNat l) (((j * (r.D - r.K)) + i) - r.K)) by first | exact (mixL_set (brR r l i) _ j0 (by first | omega | (simp; omega)) (by simp [length_brR]) (brR_11 h0 j0 h66 h78.1 h78.2 hT).symm).symm | exact (mixL_set (brR r l i) _ j0 (by first | omega | (simp; omega)) (by simp [length_brR]) (brR_10 h0 h66 h92 (by omega) hT rfl).symm).symm | exact (mixL_set (brR r l i) _ j0 (by first | omega | (simp; omega)) (by simp [length_brR]) (brR_01 h57 j0 h92 h114 hT rfl).symm).symm | exact mixL_same j0 (by rw [length_brR]; omega) (by simp [length_brR]) (brR_00 h66 j0 h92 h114))) (rfl)))
      ·refine esp K19 ?_
       refine ent_region ?_
       refine emm rfl ?_
       refine ent_o rfl (ok_add rfl rfl (by first | omega | (simp; omega)) (by first | omega | (simp; omega))) ?_
       refine emm rfl ?_
       refine ent_nil ?_
       refine ent_again (s := (j)) (j + 1) ⟨(by first | rfl | assumption | omega | (simp_all; done) | grind), (by first | rfl | assumption | omega | (simp_all; done) | grind)⟩ (by first | omega | (dsimp only; omega)) (ent_rep ⟨rfl, rfl, rfl, rfl, rfl, rfl, rfl, trivial⟩ (own_cons (own_vec (show mixL (brR r l i) (List.replicate r.D.toNat 0) (j + 1) = mixL (brR r l i) (List.replicate r.D.toNat 0) j by first | exact (mixL_set (brR r l i) _ j0 (by first | omega | (simp; omega)) (by simp [length_brR]) (brR_11 h0 j0 h66 h78.1 h78.2 hT).symm).symm | exact (mixL_set (brR r l i) _ j0 (by first | omega | (simp; omega)) (by simp [length_brR]) (brR_10 h0 h66 h92 (by omega) hT rfl).symm).symm | exact (mixL_set (brR r l i) _ j0 (by first | omega | (simp; omega)) (by simp [length_brR]) (brR_01 h57 j0 h92 h114 hT rfl).symm).symm | exact mixL_same j0 (by rw [length_brR]; omega) (by simp [length_brR]) (brR_00 h66 j0 h92 h114))) (rfl)))
   ·refine ent_exit ?_
    refine ent_k K15 ?_
    refine ent_region ?_
    refine emm rfl ?_
    refine ent_give 0 134 rfl (cv_vec (k := 0) (off_erase rfl) (by first | rfl | assumption | (simp; done) | (simp_all; done) | omega) rfl) ?_
    refine ent_appendL (k := 0) (enc := aInts) (y := mixL (brR r l i) (List.replicate r.D.toNat 0) j) rfl rfl vt65 rfl rfl (by first | rfl | assumption | (simp; done) | (simp_all; done) | omega) rfl ((elem_one one_sl)) (by first | omega | (simp only [List.length_append, List.length_cons, List.length_nil]; omega) | (simp; omega)) (by first | omega | (simp only [List.length_append, List.length_cons, List.length_nil]; omega) | (simp; omega)) (by decide) (fun b136_9 c136_9 => ?_)
    refine emm rfl ?_
    refine enk K13 ?_
    refine ent_region ?_
    refine emm rfl ?_
    refine ent_o rfl (ok_add rfl rfl (by first | omega | (simp; omega)) (by first | omega | (simp; omega))) ?_
    refine emm rfl ?_
    refine ent_nil ?_
    refine ent_again (s := (i, rr7, cc7)) (i + 1, (some b136_9), c136_9) ⟨(by first | rfl | assumption | omega | (simp_all; done) | grind), (by first | rfl | assumption | omega | (simp_all; done) | grind)⟩ (by first | omega | (dsimp only; omega)) (ent_rep ⟨rfl, rfl, rfl, slot_av (av_vec (congrArg List.length (show (msgR r l).take (i + 1).toNat = ((msgR r l).take i.toNat) ++ [mixL (brR r l i) (List.replicate r.D.toNat 0) j] by rw [msg_row hkn h0 h57, mixL_all (brR r l i) _ (by rw [length_brR]; omega) (by simp; omega)]).symm)), rfl, trivial⟩ (own_cons (own_vec (show (msgR r l).take (i + 1).toNat = ((msgR r l).take i.toNat) ++ [mixL (brR r l i) (List.replicate r.D.toNat 0) j] by rw [msg_row hkn h0 h57, mixL_all (brR r l i) _ (by rw [length_brR]; omega) (by simp; omega)])) (rfl)))
  ·refine ent_exit ?_
   refine ent_k K9 ?_
   refine esk rfl ?_
   refine ent_ret ?_
   exact retR1 (.inr rfl) Try.results68 (resr_tmp (res_cv rfl (cv_vec (k := 0) (off_x rfl) (by first | rfl | assumption | (simp; done) | (simp_all; done) | omega) (by first | exact (msgR_1 h14 hka hhalf).symm | exact List.take_of_length_le (by omega)))))

theorem rEncode_ok (r : Rgn) (l : List Int) (R : RgOk r) (hlb : (l.length : Int) = rgB r) : Ctr Try.prog 35 [aRgn r, aSl 1 false aInt l] (aSl 1 false aInts (encW r l)) := by
 have hE := enc_facts R hlb
 have hF := R.fld
 have hS := hF.1
 have hd := hE.d
 have ha := hE.a
 have hnm := length_msgR hE
 have hN := R.len
 have hel : (encW r l).length = r.Points.length := by unfold encW; rw [length_mulM, length_vdm]
 refine ctr_of Try.call35 Try.func35 rfl rfl ?_
 intro w O
 refine ent_lenC 0 2 rfl rfl (fun hlen0_2 => ?_)
 refine ent_lenC 0 6 rfl rfl (fun hlen0_6 => ?_)
 refine ent_len 1 rfl (fun hlen1 => ?_)
 refine esr rfl fun _ K1 => ?_
 refine ent_boxS rfl rfl (AllOne.mem ⟨(one_int _), (one_int _), one_sl, (one_int _), (one_int _), (one_int _), one_sl, trivial⟩) (fun b2_1 => ?_)
 refine emm rfl ?_
 refine enk K1 ?_
 refine esr rfl fun _ K2 => ?_
 refine ent_o rfl (ok_loadBS (k := 0) ti53 rfl rfl rfl) ?_
 refine emm rfl ?_
 refine ent_o rfl (ok_call (rMessage_ok r l (by first | rfl | assumption | omega | (simp_all; done) | grind) (by first | rfl | assumption | omega | (simp_all; done) | grind)) rfl) ?_
 refine emm rfl ?_
 refine enk K2 ?_
 refine esr rfl fun _ K3 => ?_
 refine ent_o rfl (ok_loadBS (k := 0) ti53 rfl rfl rfl) ?_
 refine ent_o rfl (ok_call (rSize_ok r (by first | rfl | assumption | omega | (simp_all; done) | grind)) rfl) ?_
 refine emm rfl ?_
 refine ent_o rfl (ok_extract rfl rfl) ?_
 refine ent_o rfl (ok_extract rfl rfl) ?_
 refine emm rfl ?_
 refine enk K3 ?_
 refine esk rfl ?_
 refine ent_seq fun _ K5 => ?_
 refine esk rfl ?_
 refine ent_block ?_
 refine ent_open 29 1 false aInts (fun _ => rfl) ?_
 refine ent_loop (fun (ss : Int × Option Nat × Nat) => match ss with | (i, rr3, cc3) => (⟨[(2, aEx (.pointer (some ⟨b2_1, 0, none⟩))), (5, aSl 1 false aInts (msgR r l)), (7, aInt (rgA r)), (8, aEx (vec rr3 (((encW r l).take i.toNat).length) cc3)), (9, aInt i)], [oVec rr3 cc3 29 1 false aInts ((encW r l).take i.toNat), oBox b2_1 53 [aInt r.F.P, aInt r.F.M, aSl 1 false aInt r.F.mod, aInt r.Kind, aInt r.K, aInt r.D, aSl 1 false aInt r.Points]]⟩ : St)) (fun (ss : Int × Option Nat × Nat) => match ss with | (i, rr3, cc3) => (0 ≤ i) ∧ (i ≤ r.Points.length)) (fun (ss : Int × Option Nat × Nat) => match ss with | (i, rr3, cc3) => (r.Points.length - i).toNat) (0, none, 0) ⟨(by first | rfl | assumption | omega | (simp_all; done) | grind), (by first | rfl | assumption | omega | (simp_all; done) | grind)⟩ (ent_rep ⟨rfl, rfl, rfl, slot_av ((show aEx (vec none ([] : List _).length 0) = aEx (vec none (((encW r l).take (0 : Int).toNat).length) 0) from av_vec (congrArg List.length (show (encW r l).take (0 : Int).toNat = [] by rfl).symm))), slot_av (av_int (show 0 = (0 : Int) by first | rfl | assumption | omega | (simp_all; done) | grind)), trivial⟩ (own_cons (own_vec (show (encW r l).take (0 : Int).toNat = [] by rfl)) (rfl))) ?_
 rintro ⟨i, rr3, cc3⟩ ⟨h0, h1⟩
 show Ent _ ⟨_, [_, _]⟩ _
 have lte : ((encW r l).take i.toNat).length = i.toNat := by rw [List.length_take]; omega
 refine ent_seq fun _ K7 => ?_
 refine esr rfl fun _ K8 => ?_
 refine ent_o rfl (ok_fieldAddrEx Try.runUnderlying53 rfl Try.sizeOf29 (by decide) rfl) ?_
 refine ent_o rfl (ok_loadB (k := 1) Try.isAgg29 rfl rfl rfl) ?_
 refine ent_o rfl (ok_len rfl Try.runUnderlying29 rfl) ?_
 refine ent_o rfl (ok_lss rfl rfl) ?_
 refine enk K8 ?_
 refine ent_condD rfl (fun h22 => ?_) (fun h22 => ?_)
 ·refine esp K7 ?_
  refine ent_seq fun _ K9 => ?_
  refine ent_block ?_
  refine ent_draw 10 mixed (by kernel_rfl) (by kernel_rfl) (by kernel_rfl) ?_
  refine dw_o rfl (ok_move rfl) ?_
  refine dw_o rfl (ok_fieldAddrEx Try.runUnderlying53 rfl Try.sizeOf51 (by decide) rfl) ?_
  refine dw_o rfl (ok_loadBS (k := 1) ti51 rfl rfl rfl) ?_
  refine dw_o rfl (ok_loadBS (k := 1) ti53 rfl rfl rfl) ?_
  refine dw_o rfl (ok_move rfl) ?_
  refine dw_o rfl (ok_call (CtrF.ctr (CtrF.sl (rVector_ok r i (by first | rfl | assumption | omega | (simp_all; done) | grind) (by first | rfl | assumption | omega | (simp_all; done) | grind) (by first | rfl | assumption | omega | (simp_all; done) | grind) (by first | rfl | assumption | omega | (simp_all; done) | grind) (by first | rfl | assumption | omega | (simp_all; done) | grind)))) rfl) ?_
  refine dw_o rfl (ok_move rfl) ?_
  refine dw_o rfl (ok_move rfl) ?_
  refine dw_o rfl (ok_call (rCombine_ok r.F (powsF r.F (ix 0 r.Points i) r.D) (msgR r l) (rgA r) (by first | rfl | assumption | omega | (simp_all; done) | grind) (by omega) (by omega) (fun i i0 i1 => msg_wid hE i0 i1)) rfl) ?_
  refine dw_o rfl (ok_build1 (enc := aInts) (y := comb r.F (powsF r.F (ix 0 r.Points i) r.D) (msgR r l) (rgA r)) vt65 rfl (elem_one one_sl) (by decide)) ?_
  refine dw_nil ?_
  refine ent_appendS (k := 0) rfl vt65 rfl rfl (by first | rfl | assumption | (simp; done) | (simp_all; done) | omega) rfl (cv_id sub_refl) (by first | omega | (simp only [List.length_append, List.length_cons, List.length_nil]; omega) | (simp; omega)) (by first | omega | (simp only [List.length_append, List.length_cons, List.length_nil]; omega) | (simp; omega)) (fun r35_3 cr35_3 => ?_)
  refine emm rfl ?_
  refine enk K9 ?_
  refine ent_region ?_
  refine emm rfl ?_
  refine ent_o rfl (ok_add rfl rfl (by first | omega | (simp; omega)) (by first | omega | (simp; omega))) ?_
  refine emm rfl ?_
  refine ent_nil ?_
  refine ent_again (s := (i, rr3, cc3)) (i + 1, r35_3, cr35_3) ⟨(by first | rfl | assumption | omega | (simp_all; done) | grind), (by first | rfl | assumption | omega | (simp_all; done) | grind)⟩ (by first | omega | (dsimp only; omega)) (ent_rep ⟨rfl, rfl, rfl, slot_av (av_vec (congrArg List.length (show (encW r l).take (i + 1).toNat = ((encW r l).take i.toNat) ++ [comb r.F (powsF r.F (ix 0 r.Points i) r.D) (msgR r l) (rgA r)] by exact encW_succ h0 h22).symm)), rfl, trivial⟩ (own_cons (own_vec (show (encW r l).take (i + 1).toNat = ((encW r l).take i.toNat) ++ [comb r.F (powsF r.F (ix 0 r.Points i) r.D) (msgR r l) (rgA r)] by exact encW_succ h0 h22)) (rfl)))
 ·refine ent_exit ?_
  refine ent_k K5 ?_
  refine esk rfl ?_
  refine ent_ret ?_
  exact retR1 (.inr rfl) Try.results35 (resr_tmp (res_cv rfl (cv_vec (k := 0) (off_x rfl) (by first | rfl | assumption | (simp; done) | (simp_all; done) | omega) (by exact List.take_of_length_le (by omega)))))
end Go.Proofs.Ytaipghchkamajaa

