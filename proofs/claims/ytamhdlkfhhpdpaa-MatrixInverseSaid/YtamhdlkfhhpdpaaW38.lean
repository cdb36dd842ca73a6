/-
  Facts for the law MatrixInverse.
-/
import Derived.Test.YtamhdlkfhhpdpaaProg
import Derived.Test.YtamhdlkfhhpdpaaWTab
import Derived.Test.YtamhdlkfhhpdpaaPlainDr
import Derived.Test.YtamhdlkfhhpdpaaCzLib
import Derived.Test.YtamhdlkfhhpdpaaW1
import Derived.Test.YtamhdlkfhhpdpaaW4
import Derived.Test.YtamhdlkfhhpdpaaW5
import Derived.Test.YtamhdlkfhhpdpaaW6
import Derived.Test.YtamhdlkfhhpdpaaW9
import Derived.Test.YtamhdlkfhhpdpaaW10
import Derived.Test.YtamhdlkfhhpdpaaW11
import Derived.Test.YtamhdlkfhhpdpaaW12
import Derived.Test.YtamhdlkfhhpdpaaW13
import Derived.Test.YtamhdlkfhhpdpaaW14
import Derived.Test.YtamhdlkfhhpdpaaW15
import Derived.Test.YtamhdlkfhhpdpaaW16
import Derived.Test.YtamhdlkfhhpdpaaW17
import Derived.Test.YtamhdlkfhhpdpaaW18
import Derived.Test.YtamhdlkfhhpdpaaW19
import Derived.Test.YtamhdlkfhhpdpaaW20
import Derived.Test.YtamhdlkfhhpdpaaW21
import Derived.Test.YtamhdlkfhhpdpaaW33
import Derived.Test.YtamhdlkfhhpdpaaW36
open Go Go.Cw
namespace Go.Proofs.Ytamhdlkfhhpdpaa
set_option maxRecDepth 100000
set_option linter.unusedVariables false
set_option linter.unusedSimpArgs false
theorem rdet_step (f : Fld) (n : Nat) (X : List (List Int)) (hS : Shape f) (hn : X.length = n) (hw : wide n X) (hb : n ≤ 1000) (IH : ∀ (k : Nat) (Y : List (List Int)), k < n → Y.length = k → wide k Y → Ctr Try.prog 76 [aFld f, aRows Y] (aInt (detR f k Y))) : Ctr Try.prog 76 [aFld f, aSl 1 false aInts X] (aInt (detR f n X)) := by
 refine ctr_of Try.call76 Try.func76 rfl rfl ?_
 intro w O
 refine ent_lenC 0 2 rfl rfl (fun hlen0_2 => ?_)
 refine ent_len 1 rfl (fun hlen1 => ?_)
 refine esr rfl fun _ K1 => ?_
 refine ent_boxS rfl rfl (AllOne.mem ⟨(one_int _), (one_int _), one_sl, trivial⟩) (fun b2_1 => ?_)
 refine emm rfl ?_
 refine enk K1 ?_
 refine ent_seq fun _ K2 => ?_
 refine esr rfl fun _ K3 => ?_
 refine ent_o rfl (ok_len rfl Try.runUnderlying25 rfl) ?_
 refine ent_o rfl (ok_eql rfl rfl) ?_
 refine enk K3 ?_
 refine ent_condD rfl (fun h12 => ?_) (fun h12 => ?_)
 ·have hn0 : n = 0 := by omega
  refine esk rfl ?_
  refine ent_ret ?_
  exact retR1 (.inr rfl) Try.results76 (resr_tmp (res_cv rfl (cv_int (by subst hn0; rfl))))
 ·have hn0 : n ≠ 0 := by omega
  have hr0 : (ix [] X 0).length = n := hw _ (ix_mem' (by omega) (by omega))
  refine esp K2 ?_
  refine esk rfl ?_
  refine ent_seq fun _ K6 => ?_
  refine esk rfl ?_
  refine ent_block ?_
  refine ent_loop (fun (c : Int) => (⟨[(1, aSl 1 false aInts X), (2, aEx (.pointer (some ⟨b2_1, 0, none⟩))), (5, aInt (detSum f (detR f (n - 1)) X c.toNat)), (6, aInt c)], [oBox b2_1 24 [aInt f.P, aInt f.M, aSl 1 false aInt f.mod]]⟩ : St)) (fun (c : Int) => (0 ≤ c) ∧ (c ≤ X.length)) (fun (c : Int) => (X.length - c).toNat) 0 ⟨(by first | rfl | assumption | omega | (simp_all; done) | grind), (by first | rfl | assumption | omega | (simp_all; done) | grind)⟩ (ent_rep ⟨rfl, rfl, slot_av (av_int (show 0 = detSum f (detR f (n - 1)) X (0 : Int).toNat by rfl)), slot_av (av_int (show 0 = (0 : Int) by first | rfl | assumption | omega | (simp_all; done) | grind)), trivial⟩ rfl) ?_
  rintro c ⟨h0, h1⟩
  show Ent _ ⟨_, [_]⟩ _
  refine ent_seq fun _ K8 => ?_
  refine esr rfl fun _ K9 => ?_
  refine ent_o rfl (ok_len rfl Try.runUnderlying25 rfl) ?_
  refine ent_o rfl (ok_lss rfl rfl) ?_
  refine enk K9 ?_
  refine ent_condD rfl (fun h16 => ?_) (fun h16 => ?_)
  ·refine esp K8 ?_
   refine ent_seq fun _ K10 => ?_
   refine ent_block ?_
   refine ent_seq fun _ K11 => ?_
   refine esr rfl fun _ K12 => ?_
   refine ent_o rfl (ok_index [] sl25 rfl rfl (by first | omega | (simp; omega)) (by first | omega | (simp; omega))) ?_
   refine ent_o rfl (ok_load ti22 rfl) ?_
   refine emm rfl ?_
   refine ent_o rfl (ok_index 0 sl22 rfl rfl (by first | omega | (simp; omega)) (by first | omega | (simp; omega))) ?_
   refine ent_o rfl (ok_load ti3 rfl) ?_
   refine ent_o rfl (ok_eql rfl rfl) ?_
   refine enk K12 ?_
   refine ent_condD rfl (fun h25 => ?_) (fun h25 => ?_)
   ·refine ent_exit ?_
    refine ent_k K10 ?_
    refine ent_region ?_
    refine emm rfl ?_
    refine ent_o rfl (ok_add rfl rfl (by first | omega | (simp; omega)) (by first | omega | (simp; omega))) ?_
    refine emm rfl ?_
    refine ent_nil ?_
    refine ent_again (s := (c)) (c + 1) ⟨(by first | rfl | assumption | omega | (simp_all; done) | grind), (by first | rfl | assumption | omega | (simp_all; done) | grind)⟩ (by first | omega | (dsimp only; omega)) (ent_rep ⟨rfl, rfl, slot_av (av_int (show detSum f (detR f (n - 1)) X c.toNat = detSum f (detR f (n - 1)) X (c + 1).toNat by first | exact (detSum_skip h0 h25).symm | exact detSum_skip h0 h25 | exact (detSum_odd h0 h25 h64).symm | exact detSum_odd h0 h25 h64 | exact (detSum_even h0 h25 h64).symm | exact detSum_even h0 h25 h64)), rfl, trivial⟩ rfl)
   ·refine esp K11 ?_
    refine esk rfl ?_
    refine ent_seq fun _ K14 => ?_
    refine esk rfl ?_
    refine ent_block ?_
    refine ent_open 22 1 false aInts (fun _ => rfl) ?_
    refine ent_loop (fun (ss : Int × Option Nat × Nat) => match ss with | (i, rr3, cc3) => (⟨[(1, aSl 1 false aInts X), (2, aEx (.pointer (some ⟨b2_1, 0, none⟩))), (5, aInt (detSum f (detR f (n - 1)) X c.toNat)), (6, aInt c), (7, aEx (vec rr3 (((minorL X c).take (i - 1).toNat).length) cc3)), (8, aInt i)], [oVec rr3 cc3 22 1 false aInts ((minorL X c).take (i - 1).toNat), oBox b2_1 24 [aInt f.P, aInt f.M, aSl 1 false aInt f.mod]]⟩ : St)) (fun (ss : Int × Option Nat × Nat) => match ss with | (i, rr3, cc3) => (1 ≤ i) ∧ (i ≤ X.length)) (fun (ss : Int × Option Nat × Nat) => match ss with | (i, rr3, cc3) => (X.length - i).toNat) (1, none, 0) ⟨(by first | rfl | assumption | omega | (simp_all; done) | grind), (by first | rfl | assumption | omega | (simp_all; done) | grind)⟩ (ent_rep ⟨rfl, rfl, rfl, rfl, slot_av ((show aEx (vec none ([] : List _).length 0) = aEx (vec none (((minorL X c).take ((1 : Int) - 1).toNat).length) 0) from av_vec (congrArg List.length (show (minorL X c).take ((1 : Int) - 1).toNat = [] by rfl).symm))), slot_av (av_int (show 1 = (1 : Int) by first | rfl | assumption | omega | (simp_all; done) | grind)), trivial⟩ (own_cons (own_vec (show (minorL X c).take ((1 : Int) - 1).toNat = [] by rfl)) (rfl))) ?_
    rintro ⟨i, rr3, cc3⟩ ⟨i0, i1⟩
    show Ent _ ⟨_, [_, _]⟩ _
    have ltm : ((minorL X c).take (i - 1).toNat).length = (i - 1).toNat := by rw [List.length_take, length_minorL]; omega
    refine ent_seq fun _ K16 => ?_
    refine esr rfl fun _ K17 => ?_
    refine ent_o rfl (ok_len rfl Try.runUnderlying25 rfl) ?_
    refine ent_o rfl (ok_lss rfl rfl) ?_
    refine enk K17 ?_
    refine ent_condD rfl (fun h29 => ?_) (fun h29 => ?_)
    ·have hri : (ix [] X i).length = n := hw _ (ix_mem' (by omega) h29)
     refine esp K16 ?_
     refine ent_seq fun _ K18 => ?_
     refine ent_block ?_
     refine ent_drawV1A (e := 3) (enc := aInt) (xs := List.take (c).toNat (ix [] X i)) (ys := List.drop (c + 1).toNat (ix [] X i)) (dy := 47) 16 [0] 40 [(7, aEx (vec rr3 (((minorL X c).take (i - 1).toNat).length) cc3)), (32, aEx (vec rr3 (((minorL X c).take (i - 1).toNat).length) cc3))] [(1, aSl 1 false aInts X), (2, aEx (.pointer (some ⟨b2_1, 0, none⟩))), (5, aInt (detSum f (detR f (n - 1)) X c.toNat)), (6, aInt c), (8, aInt i)] mixed (by kernel_rfl) (by kernel_rfl) (by kernel_rfl) (by kernel_rfl) (by kernel_rfl) (fun _ _ _ _ _ h => h) rfl rfl vt22 flat_int (by simp [one_int]) (AllPlS.mem ⟨pl_ex, pl_ex, trivial⟩) ⟨rfl, rfl, rfl, rfl, rfl, trivial⟩ (by kernel_rfl) read_sl (by first | omega | (simp; omega)) (by first | omega | (simp; omega)) (fun w => ?_) (fun ra_4 ca_4 r0 c0 => ?_)
     ·refine dw_o rfl (ok_move rfl) ?_
      refine dw_o rfl (ok_build0F vt22) ?_
      refine dw_o rfl (ok_move rfl) ?_
      refine dw_o rfl (ok_move rfl) ?_
      refine dw_o rfl (ok_index [] sl25 rfl rfl (by first | omega | (simp; omega)) (by first | omega | (simp; omega))) ?_
      refine dw_o rfl (ok_load ti22 rfl) ?_
      refine dw_o rfl (ok_move rfl) ?_
      refine dw_o rfl (ok_sliceTo sl22 rfl rfl (by first | omega | (simp; omega)) (by first | omega | (simp; omega))) ?_
      refine dw_o rfl (ok_append0F vt22 (fun _ => pl_ex) rfl rfl (cv_id sub_refl) (by first | omega | (simp; omega)) (by first | omega | (simp; omega))) ?_
      refine dw_o rfl (ok_move rfl) ?_
      refine dw_o rfl (ok_move rfl) ?_
      refine dw_o rfl (ok_index [] sl25 rfl rfl (by first | omega | (simp; omega)) (by first | omega | (simp; omega))) ?_
      refine dw_o rfl (ok_load ti22 rfl) ?_
      refine dw_o rfl (ok_move rfl) ?_
      refine dw_o rfl (ok_add rfl rfl (by first | omega | (simp; omega)) (by first | omega | (simp; omega))) ?_
      refine dw_o rfl (ok_sliceFrom sl22 rfl rfl (by first | omega | (simp; omega)) (by first | omega | (simp; omega))) ?_
      exact ⟨rfl, rfl, ⟨rfl, rfl, trivial⟩⟩
     refine ent_give 0 48 rfl (cv_vec (k := 0) (off_erase rfl) (by first | rfl | assumption | (simp; done) | (simp_all; done) | omega) rfl) ?_
     refine ent_appendL (k := 0) (enc := aInts) (y := (List.take (c).toNat (ix [] X i)) ++ (List.drop (c + 1).toNat (ix [] X i))) rfl rfl vt25 rfl rfl (by first | rfl | assumption | (simp; done) | (simp_all; done) | omega) rfl ((elem_one one_sl)) (by first | omega | (simp only [List.length_append, List.length_cons, List.length_nil]; omega) | (simp; omega)) (by first | omega | (simp only [List.length_append, List.length_cons, List.length_nil]; omega) | (simp; omega)) (by decide) (fun b50_5 c50_5 => ?_)
     refine emm rfl ?_
     refine enk K18 ?_
     refine ent_region ?_
     refine emm rfl ?_
     refine ent_o rfl (ok_add rfl rfl (by first | omega | (simp; omega)) (by first | omega | (simp; omega))) ?_
     refine emm rfl ?_
     refine ent_nil ?_
     refine ent_again (s := (i, rr3, cc3)) (i + 1, (some b50_5), c50_5) ⟨(by first | rfl | assumption | omega | (simp_all; done) | grind), (by first | rfl | assumption | omega | (simp_all; done) | grind)⟩ (by first | omega | (dsimp only; omega)) (ent_rep ⟨rfl, rfl, rfl, rfl, slot_av (av_vec (congrArg List.length (show (minorL X c).take ((i + 1) - 1).toNat = ((minorL X c).take (i - 1).toNat) ++ [(List.take (c).toNat (ix [] X i)) ++ (List.drop (c + 1).toNat (ix [] X i))] by exact minor_succ i0 h29).symm)), rfl, trivial⟩ (own_cons (own_vec (show (minorL X c).take ((i + 1) - 1).toNat = ((minorL X c).take (i - 1).toNat) ++ [(List.take (c).toNat (ix [] X i)) ++ (List.drop (c + 1).toNat (ix [] X i))] by exact minor_succ i0 h29)) (rfl)))
    ·have htk : (minorL X c).take (i - 1).toNat = minorL X c := List.take_of_length_le (by rw [length_minorL]; omega)
     refine ent_exit ?_
     refine ent_k K14 ?_
     refine ent_seq fun _ K19 => ?_
     rw [htk]
     refine ent_give 0 7 rfl (cv_vec (k := 0) (off_erase rfl) (by first | rfl | assumption | (simp; done) | (simp_all; done) | omega) rfl) ?_
     refine ent_draw 12 mixed (by kernel_rfl) (by kernel_rfl) (by kernel_rfl) ?_
     refine dw_o rfl (ok_loadBS (k := 0) ti24 rfl rfl rfl) ?_
     refine dw_o rfl (ok_move rfl) ?_
     refine dw_o rfl (ok_index [] sl25 rfl rfl (by first | omega | (simp; omega)) (by first | omega | (simp; omega))) ?_
     refine dw_o rfl (ok_load ti22 rfl) ?_
     refine dw_o rfl (ok_move rfl) ?_
     refine dw_o rfl (ok_index 0 sl22 rfl rfl (by first | omega | (simp; omega)) (by first | omega | (simp; omega))) ?_
     refine dw_o rfl (ok_load ti3 rfl) ?_
     refine dw_o rfl (ok_loadBS (k := 0) ti24 rfl rfl rfl) ?_
     refine dw_o rfl (ok_move rfl) ?_
     refine dw_o rfl (ok_call (IH (n - 1) (minorL X c) (by omega) (by rw [length_minorL]; omega) (minor_wid hn0 hw h0 (by omega))) rfl) ?_
     refine dw_o rfl (ok_call (rMul_ok f (ix 0 (ix [] X 0) c) (detR f (n - 1) (minorL X c)) (by first | rfl | assumption | omega | (simp_all; done) | grind)) rfl) ?_
     refine dw_o rfl (ok_assign rfl) ?_
     refine dw_nil ?_
     refine enk K19 ?_
     refine ent_seq fun _ K20 => ?_
     refine esr rfl fun _ K21 => ?_
     refine ent_o rfl (ok_rem rfl rfl (by first | omega | (simp; omega)) (by first | omega | (simp; omega))) ?_
     refine ent_o rfl (ok_eql rfl rfl) ?_
     refine enk K21 ?_
     refine ent_condD rfl (fun h64 => ?_) (fun h64 => ?_)
     ·refine ent_region ?_
      refine ent_o rfl (ok_loadBS (k := 0) ti24 rfl rfl rfl) ?_
      refine emm rfl ?_
      refine ent_o rfl (ok_call (rNeg_ok f (mulF f (ix 0 (ix [] X 0) c) (detR f (n - 1) (minorL X c))) (by first | rfl | assumption | omega | (simp_all; done) | grind)) rfl) ?_
      refine emm rfl ?_
      refine enk K20 ?_
      refine ent_region ?_
      refine ent_o rfl (ok_loadBS (k := 0) ti24 rfl rfl rfl) ?_
      refine emm rfl ?_
      refine ent_o rfl (ok_call (rAdd_ok f (detSum f (detR f (n - 1)) X c.toNat) (negF f (mulF f (ix 0 (ix [] X 0) c) (detR f (n - 1) (minorL X c)))) (by first | rfl | assumption | omega | (simp_all; done) | grind)) rfl) ?_
      refine emm rfl ?_
      refine enk K10 ?_
      refine ent_region ?_
      refine emm rfl ?_
      refine ent_o rfl (ok_add rfl rfl (by first | omega | (simp; omega)) (by first | omega | (simp; omega))) ?_
      refine emm rfl ?_
      refine ent_nil ?_
      refine ent_again (s := (c)) (c + 1) ⟨(by first | rfl | assumption | omega | (simp_all; done) | grind), (by first | rfl | assumption | omega | (simp_all; done) | grind)⟩ (by first | omega | (dsimp only; omega)) (ent_rep ⟨rfl, rfl, slot_av (av_int (show addF f (detSum f (detR f (n - 1)) X c.toNat) (negF f (mulF f (ix 0 (ix [] X 0) c) (detR f (n - 1) (minorL X c)))) = detSum f (detR f (n - 1)) X (c + 1).toNat by first | exact (detSum_skip h0 h25).symm | exact detSum_skip h0 h25 | exact (detSum_odd h0 h25 h64).symm | exact detSum_odd h0 h25 h64 | exact (detSum_even h0 h25 h64).symm | exact detSum_even h0 h25 h64)), rfl, trivial⟩ rfl)
     ·refine esp K20 ?_
      refine ent_region ?_
      refine ent_o rfl (ok_loadBS (k := 0) ti24 rfl rfl rfl) ?_
      refine emm rfl ?_
      refine ent_o rfl (ok_call (rAdd_ok f (detSum f (detR f (n - 1)) X c.toNat) (mulF f (ix 0 (ix [] X 0) c) (detR f (n - 1) (minorL X c))) (by first | rfl | assumption | omega | (simp_all; done) | grind)) rfl) ?_
      refine emm rfl ?_
      refine enk K10 ?_
      refine ent_region ?_
      refine emm rfl ?_
      refine ent_o rfl (ok_add rfl rfl (by first | omega | (simp; omega)) (by first | omega | (simp; omega))) ?_
      refine emm rfl ?_
      refine ent_nil ?_
      refine ent_again (s := (c)) (c + 1) ⟨(by first | rfl | assumption | omega | (simp_all; done) | grind), (by first | rfl | assumption | omega | (simp_all; done) | grind)⟩ (by first | omega | (dsimp only; omega)) (ent_rep ⟨rfl, rfl, slot_av (av_int (show addF f (detSum f (detR f (n - 1)) X c.toNat) (mulF f (ix 0 (ix [] X 0) c) (detR f (n - 1) (minorL X c))) = detSum f (detR f (n - 1)) X (c + 1).toNat by first | exact (detSum_skip h0 h25).symm | exact detSum_skip h0 h25 | exact (detSum_odd h0 h25 h64).symm | exact detSum_odd h0 h25 h64 | exact (detSum_even h0 h25 h64).symm | exact detSum_even h0 h25 h64)), rfl, trivial⟩ rfl)
  ·refine ent_exit ?_
   refine ent_k K6 ?_
   refine esk rfl ?_
   refine ent_ret ?_
   exact retR1 (.inr rfl) Try.results76 (resr_tmp (res_cv rfl (cv_int (by rw [detR_pos hn0, show c.toNat = X.length by omega]))))

theorem rdet_ok (f : Fld) (n : Nat) (X : List (List Int)) (hS : Shape f) (hn : X.length = n) (hw : wide n X) (hb : n ≤ 1000) : Ctr Try.prog 76 [aFld f, aRows X] (aInt (detR f n X)) := by
 induction n using Nat.strongRecOn generalizing X with
 | ind n ih => exact rdet_step f n X hS hn hw hb (fun k Y hk hl hv => ih k hk Y hl hv (by omega))

theorem rDet_ok (f : Fld) (m : Mat)  : Ctr Try.prog 38 [aFld f, aMat m] (aTup [aInt (detV f m), aInt (sqErr f m)]) := by
 refine ctr_of Try.call38 Try.func38 rfl rfl ?_
 intro w O
 refine ent_lenC 0 2 rfl rfl (fun hlen0_2 => ?_)
 refine ent_lenC 1 1 rfl rfl (fun hlen1_1 => ?_)
 refine esr rfl fun _ K1 => ?_
 refine ent_boxS rfl rfl (AllOne.mem ⟨(one_int _), (one_int _), one_sl, trivial⟩) (fun b2_1 => ?_)
 refine ent_boxS rfl rfl (AllOne.mem ⟨(one_int _), one_sl, trivial⟩) (fun b3_2 => ?_)
 refine emm rfl ?_
 refine enk K1 ?_
 refine esr rfl fun _ K2 => ?_
 refine ent_o rfl (ok_loadBS (k := 1) ti24 rfl rfl rfl) ?_
 refine ent_o rfl (ok_loadBS (k := 0) ti27 rfl rfl rfl) ?_
 refine ent_o rfl (ok_call (rsquare_ok f m) rfl) ?_
 refine emm rfl ?_
 refine enk K2 ?_
 refine ent_seq fun _ K3 => ?_
 refine esr rfl fun _ K4 => ?_
 refine ent_o rfl (ok_neq rfl rfl) ?_
 refine enk K4 ?_
 refine ent_condD rfl (fun h11 => ?_) (fun h11 => ?_)
 ·have hq0 := h11
  refine esk rfl ?_
  refine ent_ret ?_
  exact retR2 (.inr rfl) Try.results38 (resr_tmp (res_cv rfl (cv_int (by first | exact (detV_no hq0).symm | exact hdd.symm)))) (resr_tmp (res_cv rfl (cv_int (by first | rfl | exact hqk.symm))))
 ·have hqk := Classical.not_not.1 h11
  have hm0 := (sqErr_zero.1 hqk).1
  have hsq := (sqErr_zero.1 hqk).2
  have hdd := detV_detR hqk
  have hF := (mErr_zero.1 hm0).1
  have hme := (mErr_zero.1 hm0).2
  have hsz := mat_size hme
  have hgm := mat_good hme
  have hS := hF.1
  have hwd : wide m.rows.length m.rows := by have := good_wide hgm; rwa [show m.cols.toNat = m.rows.length by omega] at this
  refine esp K3 ?_
  refine esr rfl fun _ K6 => ?_
  refine ent_o rfl (ok_loadBS (k := 1) ti24 rfl rfl rfl) ?_
  refine ent_o rfl (ok_fieldAddrEx Try.runUnderlying27 rfl Try.sizeOf25 (by decide) rfl) ?_
  refine ent_o rfl (ok_loadB (k := 0) Try.isAgg25 rfl rfl rfl) ?_
  refine ent_o rfl (ok_call (rdet_ok f m.rows.length m.rows (by first | rfl | assumption | omega | (simp_all; done) | grind) rfl hwd (by omega)) rfl) ?_
  refine emm rfl ?_
  refine enk K6 ?_
  refine ent_ret ?_
  exact retR2 (.inr rfl) Try.results38 (resr_tmp (res_cv rfl (cv_int (by first | exact (detV_no hq0).symm | exact hdd.symm)))) (resr_tmp (res_cv rfl (cv_int (by first | rfl | exact hqk.symm))))

theorem rInverse_ok (f : Fld) (m : Mat)  : Ctr Try.prog 36 [aFld f, aMat m] (aTup [aMat (invM f m), aInt (invE f m)]) := by
 refine ctr_of Try.call36 Try.func36 rfl rfl ?_
 intro w O
 refine ent_lenC 0 2 rfl rfl (fun hlen0_2 => ?_)
 refine ent_lenC 1 1 rfl rfl (fun hlen1_1 => ?_)
 refine esr rfl fun _ K1 => ?_
 refine ent_boxS rfl rfl (AllOne.mem ⟨(one_int _), (one_int _), one_sl, trivial⟩) (fun b2_1 => ?_)
 refine ent_boxS rfl rfl (AllOne.mem ⟨(one_int _), one_sl, trivial⟩) (fun b3_2 => ?_)
 refine ent_alloc (z := .agg #[.int .i64 0, .slice none 0 0]) [aInt 0, aEx (.slice none 0 0)] rfl zv27 rfl zc27 (fun b4_3 => ?_)
 refine emm rfl ?_
 refine enk K1 ?_
 refine esr rfl fun _ K2 => ?_
 refine ent_o rfl (ok_loadBS (k := 2) ti24 rfl rfl rfl) ?_
 refine ent_o rfl (ok_loadBS (k := 1) ti27 rfl rfl rfl) ?_
 refine ent_o rfl (ok_call (rsquare_ok f m) rfl) ?_
 refine emm rfl ?_
 refine enk K2 ?_
 refine ent_seq fun _ K3 => ?_
 refine esr rfl fun _ K4 => ?_
 refine ent_o rfl (ok_neq rfl rfl) ?_
 refine enk K4 ?_
 refine ent_condD rfl (fun h16 => ?_) (fun h16 => ?_)
 ·have hqe : invE f m = sqErr f m := invE_no h16
  have hq0 : invE f m ≠ 0 := by rw [hqe]; exact h16
  refine esr rfl fun _ K5 => ?_
  refine ent_o rfl (ok_build st27 (As := [aInt 0, aEx (.slice none 0 0)]) z27 (rfl)) ?_
  refine emm rfl ?_
  refine ent_storeBS (k := 0) Try.sizeOf27 rfl rfl rfl (AllOne.mem ⟨(one_int _), (one_ex rfl), trivial⟩) rfl rfl ?_
  show Ent _ ⟨_, [_, _, _]⟩ _
  refine emm rfl ?_
  refine enk K5 ?_
  refine ent_ret ?_
  exact retR2 (.inr rfl) Try.results36 (resr_cell (k := 0) ti27 rfl rfl rfl (cv_agg ⟨cv_int (by first | (rw [invM_no hq0]; rfl) | (rw [inv_tra hik hm0 hsq]; done)), cv_nil (fun _ => rfl) (by first | (rw [invM_no hq0]; rfl) | (rw [inv_tra hik hm0 hsq]; done)), trivial⟩)) (resr_tmp (res_cv rfl (cv_int (by first | exact hik.symm | exact hqe.symm))))
 ·have hqk := Classical.not_not.1 h16
  have hm0 := (sqErr_zero.1 hqk).1
  have hsq := (sqErr_zero.1 hqk).2
  have hct := canP_tra hm0
  refine esp K3 ?_
  refine esr rfl fun _ K6 => ?_
  refine ent_o rfl (ok_loadBS (k := 2) ti24 rfl rfl rfl) ?_
  refine ent_o rfl (ok_loadBS (k := 1) ti27 rfl rfl rfl) ?_
  refine ent_o rfl (ok_call (rTransform_ok f m) rfl) ?_
  refine emm rfl ?_
  refine ent_o rfl (ok_extract rfl rfl) ?_
  refine ent_o rfl (ok_extract rfl rfl) ?_
  refine ent_o rfl (ok_extract rfl rfl) ?_
  refine ent_alloc (z := .agg #[.int .i64 0, .slice none 0 0]) [aInt 0, aEx (.slice none 0 0)] rfl zv27 rfl zc27 (fun b7_4 => ?_)
  refine ent_alloc (z := .agg #[.int .i64 0, .slice none 0 0]) [aInt 0, aEx (.slice none 0 0)] rfl zv27 rfl zc27 (fun b8_5 => ?_)
  refine ent_storeBS (k := 1) Try.sizeOf27 rfl rfl rfl (AllOne.mem ⟨(one_int _), one_sl, trivial⟩) rfl rfl ?_
  show Ent _ ⟨_, [_, _, _, _, _]⟩ _
  refine ent_storeBS (k := 0) Try.sizeOf27 rfl rfl rfl (AllOne.mem ⟨(one_int _), one_sl, trivial⟩) rfl rfl ?_
  show Ent _ ⟨_, [_, _, _, _, _]⟩ _
  refine emm rfl ?_
  refine enk K6 ?_
  refine esr rfl fun _ K7 => ?_
  refine ent_o rfl (ok_loadBS (k := 4) ti24 rfl rfl rfl) ?_
  refine ent_o rfl (ok_loadBS (k := 3) ti27 rfl rfl rfl) ?_
  refine ent_o rfl (ok_call (rRank_ok f m) rfl) ?_
  refine emm rfl ?_
  refine ent_o rfl (ok_extract rfl rfl) ?_
  refine ent_o rfl (ok_extract rfl rfl) ?_
  refine emm rfl ?_
  refine enk K7 ?_
  refine ent_seq fun _ K8 => ?_
  refine esr rfl fun _ K9 => ?_
  refine ent_o rfl (ok_fieldAddrEx Try.runUnderlying27 rfl Try.sizeOf3 (by decide) rfl) ?_
  refine ent_o rfl (ok_loadB (k := 3) Try.isAgg3 rfl rfl rfl) ?_
  refine ent_o rfl (ok_lss rfl rfl) ?_
  refine enk K9 ?_
  refine ent_condD rfl (fun h35 => ?_) (fun h35 => ?_)
  ·have hqe : invE f m = 9 := invE_rank hqk (by rw [← hct]; exact h35)
   have hq0 : invE f m ≠ 0 := by rw [hqe]; decide
   refine esr rfl fun _ K10 => ?_
   refine ent_o rfl (ok_build st27 (As := [aInt 0, aEx (.slice none 0 0)]) z27 (rfl)) ?_
   refine ent_storeBS (k := 2) Try.sizeOf27 rfl rfl rfl (AllOne.mem ⟨(one_int _), (one_ex rfl), trivial⟩) rfl rfl ?_
   show Ent _ ⟨_, [_, _, _, _, _]⟩ _
   refine emm rfl ?_
   refine enk K10 ?_
   refine ent_ret ?_
   exact retR2 (.inr rfl) Try.results36 (resr_cell (k := 2) ti27 rfl rfl rfl (cv_agg ⟨cv_int (by first | (rw [invM_no hq0]; rfl) | (rw [inv_tra hik hm0 hsq]; done)), cv_nil (fun _ => rfl) (by first | (rw [invM_no hq0]; rfl) | (rw [inv_tra hik hm0 hsq]; done)), trivial⟩)) (resr_tmp (res_cv rfl (cv_int (by first | exact hik.symm | exact hqe.symm))))
  ·have hik : invE f m = 0 := invE_ok hqk (by rw [← hct]; exact h35)
   refine esp K8 ?_
   refine esr rfl fun _ K11 => ?_
   refine ent_o rfl (ok_loadBS (k := 1) ti27 rfl rfl rfl) ?_
   refine ent_storeBS (k := 2) Try.sizeOf27 rfl rfl rfl (AllOne.mem ⟨(one_int _), one_sl, trivial⟩) rfl rfl ?_
   show Ent _ ⟨_, [_, _, _, _, _]⟩ _
   refine emm rfl ?_
   refine enk K11 ?_
   refine ent_ret ?_
   exact retR2 (.inr rfl) Try.results36 (resr_cell (k := 2) ti27 rfl rfl rfl (cv_agg ⟨cv_int (by first | (rw [invM_no hq0]; rfl) | (rw [inv_tra hik hm0 hsq]; done)), cv_sl sub_x (by first | (rw [invM_no hq0]; rfl) | (rw [inv_tra hik hm0 hsq]; done)), trivial⟩)) (resr_tmp (res_cv rfl (cv_int (by first | exact hik.symm | exact hqe.symm))))
end Go.Proofs.Ytamhdlkfhhpdpaa

