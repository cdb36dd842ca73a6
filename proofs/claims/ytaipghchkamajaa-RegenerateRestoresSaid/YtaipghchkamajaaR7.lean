/-
  Facts for the law RegenerateRestores.
-/
import Derived.Test.YtaipghchkamajaaProg
import Derived.Test.YtaipghchkamajaaTab
import Derived.Test.YtaipghchkamajaaPlainJ1
import Derived.Test.YtaipghchkamajaaPlainJ2
import Derived.Test.YtaipghchkamajaaCzLib
import Derived.Test.YtaipghchkamajaaA2
import Derived.Test.YtaipghchkamajaaA4
import Derived.Test.YtaipghchkamajaaA5
import Derived.Test.YtaipghchkamajaaA6
import Derived.Test.YtaipghchkamajaaA7
import Derived.Test.YtaipghchkamajaaA9
import Derived.Test.YtaipghchkamajaaA10
import Derived.Test.YtaipghchkamajaaB1
import Derived.Test.YtaipghchkamajaaC11
import Derived.Test.YtaipghchkamajaaC12
import Derived.Test.YtaipghchkamajaaC13
import Derived.Test.YtaipghchkamajaaC14
import Derived.Test.YtaipghchkamajaaC16
import Derived.Test.YtaipghchkamajaaC18
import Derived.Test.YtaipghchkamajaaC19
import Derived.Test.YtaipghchkamajaaC22
import Derived.Test.YtaipghchkamajaaB2
import Derived.Test.YtaipghchkamajaaR1
import Derived.Test.YtaipghchkamajaaR3
import Derived.Test.YtaipghchkamajaaR4
open Go Go.Cw
namespace Go.Proofs.Ytaipghchkamajaa
set_option maxRecDepth 100000
set_option linter.unusedVariables false
set_option linter.unusedSimpArgs false
theorem RegenerateRestores_ok (r : Rgn) (l : List Int) (x : Int) (hs : List Int) (hk1 : -9223372036854775808 ≤ r.K) (hk2 : r.K ≤ 9223372036854775807) (hd1 : -9223372036854775808 ≤ r.D) (hd2 : r.D ≤ 9223372036854775807) : Ctr Try.prog 13 [aRgn r, aSl 1 false aInt l, aInt x, aSl 1 false aInt hs] (aBool true) := by
 refine ctr_of Try.call13 Try.func13 rfl rfl ?_
 intro w O
 refine ent_lenC 0 2 rfl rfl (fun hlen0_2 => ?_)
 refine ent_lenC 0 6 rfl rfl (fun hlen0_6 => ?_)
 refine ent_len 1 rfl (fun hlen1 => ?_)
 refine ent_len 3 rfl (fun hlen3 => ?_)
 refine esr rfl fun _ K1 => ?_
 refine ent_boxS rfl rfl (AllOne.mem ⟨(one_int _), (one_int _), one_sl, (one_int _), (one_int _), (one_int _), one_sl, trivial⟩) (fun b4_1 => ?_)
 refine emm rfl ?_
 refine enk K1 ?_
 refine ent_seq fun _ K2 => ?_
 refine ent_seq fun _ K3 => ?_
 refine ent_cut (⟨[(1, aSl 1 false aInt l), (2, aInt x), (3, aSl 1 false aInt hs), (4, aEx (.pointer (some ⟨b4_1, 0, none⟩))), (41, aBool (decide ((((¬ ((r.Points.length : Int) ≤ 12 ∧ rgErr r = 0)) ∨ (x < 0)) ∨ ((↑r.Points.length : Int) ≤ x)) ∨ ((nodErr r.Points.length r.D x hs) ≠ 0))))], [oBox b4_1 53 [aInt r.F.P, aInt r.F.M, aSl 1 false aInt r.F.mod, aInt r.Kind, aInt r.K, aInt r.D, aSl 1 false aInt r.Points]]⟩) ?_ ?_
 ·refine ent_region ?_
  refine ent_o rfl (ok_loadBS (k := 0) ti53 rfl rfl rfl) ?_
  refine ent_o rfl (ok_call (small_ok r (by first | rfl | assumption | omega | (simp_all; done) | grind) (by first | rfl | assumption | omega | (simp_all; done) | grind) (by first | rfl | assumption | omega | (simp_all; done) | grind) (by first | rfl | assumption | omega | (simp_all; done) | grind)) rfl) ?_
  refine ent_o rfl (ok_notD rfl) ?_
  refine emm rfl ?_
  refine ent_guardXDf rfl rfl rfl rfl (fun hg22 => ?_) (fun hg22 => ?_)
  ·refine emm rfl ?_
   refine ent_guardXT rfl rfl rfl rfl (decide_eq_false hg22) ?_
   refine ent_o rfl (ok_lss rfl rfl) ?_
   refine ent_o rfl (ok_pickF rfl (decide_eq_false hg22) rfl) ?_
   refine emm rfl ?_
   refine ent_guardXDf rfl rfl rfl rfl (fun hg26 => ?_) (fun hg26 => ?_)
   ·refine emm rfl ?_
    refine ent_guardXT rfl rfl rfl rfl (decide_eq_false hg26) ?_
    refine ent_o rfl (ok_fieldAddrEx Try.runUnderlying53 rfl Try.sizeOf29 (by decide) rfl) ?_
    refine ent_guardXT rfl rfl rfl rfl (decide_eq_false hg26) ?_
    refine ent_o rfl (ok_loadB (k := 0) Try.isAgg29 rfl rfl rfl) ?_
    refine ent_guardXT rfl rfl rfl rfl (decide_eq_false hg26) ?_
    refine ent_o rfl (ok_len rfl Try.runUnderlying29 rfl) ?_
    refine ent_guardXT rfl rfl rfl rfl (decide_eq_false hg26) ?_
    refine ent_o rfl (ok_geq rfl rfl) ?_
    refine ent_o rfl (ok_pickF rfl (decide_eq_false hg26) rfl) ?_
    refine emm rfl ?_
    refine ent_guardXDf rfl rfl rfl rfl (fun hg33 => ?_) (fun hg33 => ?_)
    ·refine ent_o rfl (ok_loadBS (k := 0) ti53 rfl rfl rfl) ?_
     refine ent_guardXT rfl rfl rfl rfl (decide_eq_false hg33) ?_
     refine emm rfl ?_
     refine ent_guardXT rfl rfl rfl rfl (decide_eq_false hg33) ?_
     refine ent_o rfl (ok_fieldAddrEx Try.runUnderlying53 rfl Try.sizeOf3 (by decide) rfl) ?_
     refine ent_guardXT rfl rfl rfl rfl (decide_eq_false hg33) ?_
     refine ent_o rfl (ok_loadB (k := 0) Try.isAgg3 rfl rfl rfl) ?_
     refine ent_guardXT rfl rfl rfl rfl (decide_eq_false hg33) ?_
     refine emm rfl ?_
     refine ent_guardXT rfl rfl rfl rfl (decide_eq_false hg33) ?_
     refine ent_o rfl (ok_call (rNodes_ok r hs r.D x) rfl) ?_
     refine ent_guardXT rfl rfl rfl rfl (decide_eq_false hg33) ?_
     refine ent_o rfl (ok_neq rfl rfl) ?_
     refine ent_o rfl (ok_pickF rfl (decide_eq_false hg33) rfl) ?_
     refine ent_nil ?_
     exact ent_rep ⟨rfl, rfl, rfl, rfl, slot_bool (dq_Q ((or_iff_right (fun h => h.elim (fun h => h.elim hg22 hg26) hg33)).trans Iff.rfl)), trivial⟩ rfl
    ·refine ent_guardXF rfl rfl rfl rfl (decide_eq_true hg33) ?_
     refine ent_guardXF rfl rfl rfl rfl (decide_eq_true hg33) ?_
     refine ent_guardXF rfl rfl rfl rfl (decide_eq_true hg33) ?_
     refine ent_guardXF rfl rfl rfl rfl (decide_eq_true hg33) ?_
     refine ent_guardXF rfl rfl rfl rfl (decide_eq_true hg33) ?_
     refine ent_guardXF rfl rfl rfl rfl (decide_eq_true hg33) ?_
     refine ent_o rfl (ok_pickT rfl (decide_eq_true hg33) rfl) ?_
     refine ent_nil ?_
     exact ent_rep ⟨rfl, rfl, rfl, rfl, slot_bool (dq_T rfl (Or.inl (Or.inr hg33))), trivial⟩ rfl
   ·refine ent_guardXF rfl rfl rfl rfl (decide_eq_true hg26) ?_
    refine ent_guardXF rfl rfl rfl rfl (decide_eq_true hg26) ?_
    refine ent_guardXF rfl rfl rfl rfl (decide_eq_true hg26) ?_
    refine ent_guardXF rfl rfl rfl rfl (decide_eq_true hg26) ?_
    refine ent_o rfl (ok_pickT rfl (decide_eq_true hg26) rfl) ?_
    refine emm rfl ?_
    refine ent_guardXF rfl rfl rfl rfl rfl ?_
    refine ent_guardXF rfl rfl rfl rfl rfl ?_
    refine ent_guardXF rfl rfl rfl rfl rfl ?_
    refine ent_guardXF rfl rfl rfl rfl rfl ?_
    refine ent_guardXF rfl rfl rfl rfl rfl ?_
    refine ent_guardXF rfl rfl rfl rfl rfl ?_
    refine ent_guardXF rfl rfl rfl rfl rfl ?_
    refine ent_o rfl (ok_pickT rfl rfl rfl) ?_
    refine ent_nil ?_
    exact ent_rep ⟨rfl, rfl, rfl, rfl, slot_bool (dq_T rfl (Or.inl (Or.inl (Or.inr hg26)))), trivial⟩ rfl
  ·refine ent_guardXF rfl rfl rfl rfl (decide_eq_true hg22) ?_
   refine ent_o rfl (ok_pickT rfl (decide_eq_true hg22) rfl) ?_
   refine emm rfl ?_
   refine ent_guardXF rfl rfl rfl rfl rfl ?_
   refine ent_guardXF rfl rfl rfl rfl rfl ?_
   refine ent_guardXF rfl rfl rfl rfl rfl ?_
   refine ent_guardXF rfl rfl rfl rfl rfl ?_
   refine ent_guardXF rfl rfl rfl rfl rfl ?_
   refine ent_o rfl (ok_pickT rfl rfl rfl) ?_
   refine emm rfl ?_
   refine ent_guardXF rfl rfl rfl rfl rfl ?_
   refine ent_guardXF rfl rfl rfl rfl rfl ?_
   refine ent_guardXF rfl rfl rfl rfl rfl ?_
   refine ent_guardXF rfl rfl rfl rfl rfl ?_
   refine ent_guardXF rfl rfl rfl rfl rfl ?_
   refine ent_guardXF rfl rfl rfl rfl rfl ?_
   refine ent_guardXF rfl rfl rfl rfl rfl ?_
   refine ent_o rfl (ok_pickT rfl rfl rfl) ?_
   refine ent_nil ?_
   exact ent_rep ⟨rfl, rfl, rfl, rfl, slot_bool (dq_T rfl (Or.inl (Or.inl (Or.inl hg22)))), trivial⟩ rfl
 refine ent_k K3 ?_
 refine ent_condD rfl (fun h41 => ?_) (fun h41 => ?_)
 ·refine esk rfl ?_
  refine ent_ret ?_
  exact retR1 (.inr rfl) Try.results13 (resr_tmp (res_cv rfl (cv_bool (by first | rfl | exact decide_eq_true ⟨⟨v1, v3⟩, v2⟩ | simp [v1, v2, v3]))))
 ·have hsm : (r.Points.length : Int) ≤ 12 ∧ rgErr r = 0 := Classical.byContradiction fun h => h41 (.inl (.inl (.inl h)))
  have hx0 : 0 ≤ x := Classical.byContradiction fun h => h41 (.inl (.inl (.inr (by omega))))
  have hx1 : x < r.Points.length := Classical.byContradiction fun h => h41 (.inl (.inr (by omega)))
  have hnd : nodErr r.Points.length r.D x hs = 0 := Classical.byContradiction fun h => h41 (.inr h)
  have R := rgErr_zero.1 hsm.2
  have hF := R.fld
  have hS := hF.1
  have hbr := rgB_rng R
  have lf := length_fileL r l
  have of := file_out hS l
  have e1 := file_err R l
  have lf2 : ((fileL r l).length : Int) = rgB r := by omega
  have q1 := encR_ok e1
  have l1 : ((encR r (fileL r l)).length : Int) = r.Points.length := by rw [q1]; exact enc_len lf2 lf2
  have hRF := res_facts R lf2 of hx0 hx1 hnd
  have hn3 := nodErr_zero hnd
  have hlh := (rgA_le R).2.1
  refine esp K2 ?_
  refine ent_seq fun _ K5 => ?_
  refine ent_draw 10 mixed (by kernel_rfl) (by kernel_rfl) (by kernel_rfl) ?_
  refine dw_o rfl (ok_loadBS (k := 0) ti53 rfl rfl rfl) ?_
  refine dw_o rfl (ok_loadBS (k := 0) ti53 rfl rfl rfl) ?_
  refine dw_o rfl (ok_move rfl) ?_
  refine dw_o rfl (ok_call (CtrF.ctr (CtrF.sl (file_ok r l (by first | rfl | assumption | omega | (simp_all; done) | grind)))) rfl) ?_
  refine dw_o rfl (ok_call (Encode_ok r (fileL r l) (by first | rfl | assumption | omega | (simp_all; done) | grind) (by first | rfl | assumption | omega | (simp_all; done) | grind) (by first | rfl | assumption | omega | (simp_all; done) | grind) (by first | rfl | assumption | omega | (simp_all; done) | grind)) rfl) ?_
  refine dw_o rfl (ok_move rfl) ?_
  refine dw_o rfl (ok_extract rfl rfl) ?_
  refine dw_o rfl (ok_extract rfl rfl) ?_
  refine dw_o rfl (ok_assign rfl) ?_
  refine dw_o rfl (ok_assign rfl) ?_
  refine dw_nil ?_
  refine enk K5 ?_
  refine ent_seq fun _ K6 => ?_
  refine ent_seq fun _ K7 => ?_
  refine ent_cut (⟨[(2, aInt x), (3, aSl 1 false aInt hs), (4, aEx (.pointer (some ⟨b4_1, 0, none⟩))), (9, aSl 1 false aInts (encR r (fileL r l))), (59, aBool (decide (((encErr r (fileL r l)) ≠ 0) ∨ ((↑(encR r (fileL r l)).length : Int) ≠ (↑r.Points.length : Int)))))], [oBox b4_1 53 [aInt r.F.P, aInt r.F.M, aSl 1 false aInt r.F.mod, aInt r.Kind, aInt r.K, aInt r.D, aSl 1 false aInt r.Points]]⟩) ?_ ?_
  ·refine ent_region ?_
   refine emm rfl ?_
   refine ent_o rfl (ok_neq rfl rfl) ?_
   refine emm rfl ?_
   refine ent_guardXDf rfl rfl rfl rfl (fun hg52 => ?_) (fun hg52 => ?_)
   ·refine emm rfl ?_
    refine ent_guardXT rfl rfl rfl rfl (decide_eq_false hg52) ?_
    refine ent_o rfl (ok_len rfl Try.runUnderlying65 rfl) ?_
    refine ent_guardXT rfl rfl rfl rfl (decide_eq_false hg52) ?_
    refine ent_o rfl (ok_fieldAddrEx Try.runUnderlying53 rfl Try.sizeOf29 (by decide) rfl) ?_
    refine ent_guardXT rfl rfl rfl rfl (decide_eq_false hg52) ?_
    refine ent_o rfl (ok_loadB (k := 0) Try.isAgg29 rfl rfl rfl) ?_
    refine ent_guardXT rfl rfl rfl rfl (decide_eq_false hg52) ?_
    refine ent_o rfl (ok_len rfl Try.runUnderlying29 rfl) ?_
    refine ent_guardXT rfl rfl rfl rfl (decide_eq_false hg52) ?_
    refine ent_o rfl (ok_neq rfl rfl) ?_
    refine ent_o rfl (ok_pickF rfl (decide_eq_false hg52) rfl) ?_
    refine ent_nil ?_
    exact ent_rep ⟨rfl, rfl, rfl, rfl, slot_bool (dq_Q ((or_iff_right hg52).trans Iff.rfl)), trivial⟩ rfl
   ·refine ent_guardXF rfl rfl rfl rfl (decide_eq_true hg52) ?_
    refine ent_guardXF rfl rfl rfl rfl (decide_eq_true hg52) ?_
    refine ent_guardXF rfl rfl rfl rfl (decide_eq_true hg52) ?_
    refine ent_guardXF rfl rfl rfl rfl (decide_eq_true hg52) ?_
    refine ent_guardXF rfl rfl rfl rfl (decide_eq_true hg52) ?_
    refine ent_o rfl (ok_pickT rfl (decide_eq_true hg52) rfl) ?_
    refine ent_nil ?_
    exact ent_rep ⟨rfl, rfl, rfl, rfl, slot_bool (dq_T rfl (Or.inl hg52)), trivial⟩ rfl
  refine ent_k K7 ?_
  refine ent_condD rfl (fun h59 => ?_) (fun h59 => ?_)
  ·omega
  ·refine esp K6 ?_
   refine esk rfl ?_
   refine ent_seq fun _ K9 => ?_
   refine esk rfl ?_
   refine ent_block ?_
   refine ent_open 3 1 false aInt (fun _ => rfl) ?_
   refine ent_loop (fun (ss : Int × Option Nat × Nat) => match ss with | (i, rr3, cc3) => (⟨[(2, aInt x), (3, aSl 1 false aInt hs), (4, aEx (.pointer (some ⟨b4_1, 0, none⟩))), (9, aSl 1 false aInts (encR r (fileL r l))), (11, aEx (vec rr3 (((resS r (fileL r l) x hs).take i.toNat).length) cc3)), (12, aInt i)], [oVec rr3 cc3 3 1 false aInt ((resS r (fileL r l) x hs).take i.toNat), oBox b4_1 53 [aInt r.F.P, aInt r.F.M, aSl 1 false aInt r.F.mod, aInt r.Kind, aInt r.K, aInt r.D, aSl 1 false aInt r.Points]]⟩ : St)) (fun (ss : Int × Option Nat × Nat) => match ss with | (i, rr3, cc3) => (0 ≤ i) ∧ (i ≤ hs.length)) (fun (ss : Int × Option Nat × Nat) => match ss with | (i, rr3, cc3) => (hs.length - i).toNat) (0, none, 0) ⟨(by first | rfl | assumption | omega | (simp_all; done) | grind), (by first | rfl | assumption | omega | (simp_all; done) | grind)⟩ (ent_rep ⟨rfl, rfl, rfl, rfl, slot_av ((show aEx (vec none ([] : List _).length 0) = aEx (vec none (((resS r (fileL r l) x hs).take (0 : Int).toNat).length) 0) from av_vec (congrArg List.length (show (resS r (fileL r l) x hs).take (0 : Int).toNat = [] by rfl).symm))), slot_av (av_int (show 0 = (0 : Int) by first | rfl | assumption | omega | (simp_all; done) | grind)), trivial⟩ (own_cons (own_vec (show (resS r (fileL r l) x hs).take (0 : Int).toNat = [] by rfl)) (rfl))) ?_
   rintro ⟨i, rr3, cc3⟩ ⟨h0, h1⟩
   show Ent _ ⟨_, [_, _]⟩ _
   have ltp : ((resS r (fileL r l) x hs).take i.toNat).length = i.toNat := by rw [List.length_take, length_resS]; omega
   refine ent_seq fun _ K11 => ?_
   refine esr rfl fun _ K12 => ?_
   refine ent_o rfl (ok_len rfl Try.runUnderlying29 rfl) ?_
   refine ent_o rfl (ok_lss rfl rfl) ?_
   refine enk K12 ?_
   refine ent_condD rfl (fun h63 => ?_) (fun h63 => ?_)
   ·have hp := hn3.2.1 _ (ix_mem 0 hs h0 h63)
    have hz := help_zero R lf2 of hx0 hx1 hp.1 hp.2.1
    have hz1 : helpErr r x (ix [] (encR r (fileL r l)) (ix 0 hs i)) = 0 := by rw [q1]; exact hz.1
    refine esp K11 ?_
    refine ent_seq fun _ K13 => ?_
    refine ent_block ?_
    refine ent_seq fun _ K14 => ?_
    refine ent_draw 15 mixed (by kernel_rfl) (by kernel_rfl) (by kernel_rfl) ?_
    refine dw_o rfl (ok_loadBS (k := 1) ti53 rfl rfl rfl) ?_
    refine dw_o rfl (ok_move rfl) ?_
    refine dw_o rfl (ok_move rfl) ?_
    refine dw_o rfl (ok_move rfl) ?_
    refine dw_o rfl (ok_move rfl) ?_
    refine dw_o rfl (ok_index 0 sl29 rfl rfl (by first | omega | (simp; omega)) (by first | omega | (simp; omega))) ?_
    refine dw_o rfl (ok_load ti3 rfl) ?_
    refine dw_o rfl (ok_index [] sl65 rfl rfl (by first | omega | (simp; omega)) (by first | omega | (simp; omega))) ?_
    refine dw_o rfl (ok_load ti29 rfl) ?_
    refine dw_o rfl (ok_call (Help_ok r x (ix [] (encR r (fileL r l)) (ix 0 hs i)) (by first | rfl | assumption | omega | (simp_all; done) | grind) (by first | rfl | assumption | omega | (simp_all; done) | grind) (by first | rfl | assumption | omega | (simp_all; done) | grind) (by first | rfl | assumption | omega | (simp_all; done) | grind)) rfl) ?_
    refine dw_o rfl (ok_move rfl) ?_
    refine dw_o rfl (ok_extract rfl rfl) ?_
    refine dw_o rfl (ok_extract rfl rfl) ?_
    refine dw_o rfl (ok_assign rfl) ?_
    refine dw_o rfl (ok_assign rfl) ?_
    refine dw_nil ?_
    refine enk K14 ?_
    refine ent_seq fun _ K15 => ?_
    refine esr rfl fun _ K16 => ?_
    refine ent_o rfl (ok_neq rfl rfl) ?_
    refine enk K16 ?_
    refine ent_condD rfl (fun h80 => ?_) (fun h80 => ?_)
    ·exact absurd hz1 h80
    ·refine esp K15 ?_
     refine ent_region ?_
     refine emm rfl ?_
     refine ent_appendL (k := 0) (enc := aInt) (y := helpF r x (ix [] (encR r (fileL r l)) (ix 0 hs i))) rfl rfl vt29 rfl rfl (by first | rfl | assumption | (simp; done) | (simp_all; done) | omega) rfl ((elem_one (one_int _))) (by first | omega | (simp only [List.length_append, List.length_cons, List.length_nil]; omega) | (simp; omega)) (by first | omega | (simp only [List.length_append, List.length_cons, List.length_nil]; omega) | (simp; omega)) (by decide) (fun b84_4 c84_4 => ?_)
     refine emm rfl ?_
     refine enk K13 ?_
     refine ent_region ?_
     refine emm rfl ?_
     refine ent_o rfl (ok_add rfl rfl (by first | omega | (simp; omega)) (by first | omega | (simp; omega))) ?_
     refine emm rfl ?_
     refine ent_nil ?_
     refine ent_again (s := (i, rr3, cc3)) (i + 1, (some b84_4), c84_4) ⟨(by first | rfl | assumption | omega | (simp_all; done) | grind), (by first | rfl | assumption | omega | (simp_all; done) | grind)⟩ (by first | omega | (dsimp only; omega)) (ent_rep ⟨rfl, rfl, rfl, rfl, slot_av (av_vec (congrArg List.length (show (resS r (fileL r l) x hs).take (i + 1).toNat = ((resS r (fileL r l) x hs).take i.toNat) ++ [helpF r x (ix [] (encR r (fileL r l)) (ix 0 hs i))] by rw [q1]; exact resS_succ h0 h63).symm)), rfl, trivial⟩ (own_cons (own_vec (show (resS r (fileL r l) x hs).take (i + 1).toNat = ((resS r (fileL r l) x hs).take i.toNat) ++ [helpF r x (ix [] (encR r (fileL r l)) (ix 0 hs i))] by rw [q1]; exact resS_succ h0 h63)) (rfl)))
   ·have htk : (resS r (fileL r l) x hs).take i.toNat = resS r (fileL r l) x hs := List.take_of_length_le (by rw [length_resS]; omega)
    have v1 := hRF.e
    have v2 : repV r x hs (resS r (fileL r l) x hs) = ix [] (encR r (fileL r l)) x := by rw [q1]; exact hRF.v
    have v3 : ((repV r x hs (resS r (fileL r l) x hs)).length : Int) = rgA r := by rw [hRF.v]; exact hRF.l
    refine ent_exit ?_
    refine ent_k K9 ?_
    refine ent_seq fun _ K17 => ?_
    rw [htk]
    refine ent_region ?_
    refine ent_o rfl (ok_loadBS (k := 1) ti53 rfl rfl rfl) ?_
    refine emm rfl ?_
    refine ent_give 0 89 rfl (cv_vec (k := 0) (off_erase rfl) (by first | rfl | assumption | (simp; done) | (simp_all; done) | omega) rfl) ?_
    refine ent_o rfl (ok_call (Repair_ok r x hs (resS r (fileL r l) x hs) (by first | rfl | assumption | omega | (simp_all; done) | grind) (by first | rfl | assumption | omega | (simp_all; done) | grind) (by first | rfl | assumption | omega | (simp_all; done) | grind) (by first | rfl | assumption | omega | (simp_all; done) | grind)) rfl) ?_
    refine emm rfl ?_
    refine ent_o rfl (ok_extract rfl rfl) ?_
    refine ent_o rfl (ok_extract rfl rfl) ?_
    refine emm rfl ?_
    refine enk K17 ?_
    refine esr rfl fun _ K18 => ?_
    refine ent_o rfl (ok_loadBS (k := 0) ti53 rfl rfl rfl) ?_
    refine ent_o rfl (ok_call (rSize_ok r (by first | rfl | assumption | omega | (simp_all; done) | grind)) rfl) ?_
    refine emm rfl ?_
    refine ent_o rfl (ok_extract rfl rfl) ?_
    refine ent_o rfl (ok_extract rfl rfl) ?_
    refine emm rfl ?_
    refine enk K18 ?_
    refine ent_seq fun _ K19 => ?_
    refine ent_cut (⟨[(8, aBool (decide ((((repErr r x hs (resS r (fileL r l) x hs)) = 0) ∧ ((↑(repV r x hs (resS r (fileL r l) x hs)).length : Int) = (rgA r))) ∧ ((repV r x hs (resS r (fileL r l) x hs)) = (ix [] (encR r (fileL r l)) x)))))], [oBox b4_1 53 [aInt r.F.P, aInt r.F.M, aSl 1 false aInt r.F.mod, aInt r.Kind, aInt r.K, aInt r.D, aSl 1 false aInt r.Points]]⟩) ?_ ?_
    ·refine ent_region ?_
     refine emm rfl ?_
     refine ent_o rfl (ok_eql rfl rfl) ?_
     refine emm rfl ?_
     refine ent_guardXDt rfl rfl rfl rfl (fun hg100 => ?_) (fun hg100 => ?_)
     ·refine emm rfl ?_
      refine ent_guardXT rfl rfl rfl rfl (decide_eq_true hg100) ?_
      refine ent_o rfl (ok_len rfl Try.runUnderlying29 rfl) ?_
      refine ent_guardXT rfl rfl rfl rfl (decide_eq_true hg100) ?_
      refine emm rfl ?_
      refine ent_guardXT rfl rfl rfl rfl (decide_eq_true hg100) ?_
      refine ent_o rfl (ok_eql rfl rfl) ?_
      refine ent_o rfl (ok_pickT rfl (decide_eq_true hg100) rfl) ?_
      refine emm rfl ?_
      refine ent_guardXDt rfl rfl rfl rfl (fun hg106 => ?_) (fun hg106 => ?_)
      ·refine emm rfl ?_
       refine ent_guardXT rfl rfl rfl rfl (decide_eq_true hg106) ?_
       refine emm rfl ?_
       refine ent_guardXT rfl rfl rfl rfl (decide_eq_true hg106) ?_
       refine emm rfl ?_
       refine ent_guardXT rfl rfl rfl rfl (decide_eq_true hg106) ?_
       refine ent_o rfl (ok_index [] sl65 rfl rfl (by first | omega | (simp; omega)) (by first | omega | (simp; omega))) ?_
       refine ent_guardXT rfl rfl rfl rfl (decide_eq_true hg106) ?_
       refine ent_o rfl (ok_load ti29 rfl) ?_
       refine ent_guardXT rfl rfl rfl rfl (decide_eq_true hg106) ?_
       refine ent_o rfl (ok_call (SameInts_ok (repV r x hs (resS r (fileL r l) x hs)) (ix [] (encR r (fileL r l)) x)) rfl) ?_
       refine ent_o rfl (ok_pickT rfl (decide_eq_true hg106) rfl) ?_
       refine emm rfl ?_
       refine ent_nil ?_
       exact ent_rep ⟨slot_bool (dq_Q ((and_iff_right ⟨hg100, hg106⟩).trans Iff.rfl)), trivial⟩ rfl
      ·refine ent_guardXF rfl rfl rfl rfl (decide_eq_false hg106) ?_
       refine ent_guardXF rfl rfl rfl rfl (decide_eq_false hg106) ?_
       refine ent_guardXF rfl rfl rfl rfl (decide_eq_false hg106) ?_
       refine ent_guardXF rfl rfl rfl rfl (decide_eq_false hg106) ?_
       refine ent_guardXF rfl rfl rfl rfl (decide_eq_false hg106) ?_
       refine ent_o rfl (ok_pickF rfl (decide_eq_false hg106) rfl) ?_
       refine emm rfl ?_
       refine ent_nil ?_
       exact ent_rep ⟨slot_bool (dq_F rfl (fun h => (fun h => hg106 h.2) h.1)), trivial⟩ rfl
     ·refine ent_guardXF rfl rfl rfl rfl (decide_eq_false hg100) ?_
      refine ent_guardXF rfl rfl rfl rfl (decide_eq_false hg100) ?_
      refine ent_guardXF rfl rfl rfl rfl (decide_eq_false hg100) ?_
      refine ent_o rfl (ok_pickF rfl (decide_eq_false hg100) rfl) ?_
      refine emm rfl ?_
      refine ent_guardXF rfl rfl rfl rfl rfl ?_
      refine ent_guardXF rfl rfl rfl rfl rfl ?_
      refine ent_guardXF rfl rfl rfl rfl rfl ?_
      refine ent_guardXF rfl rfl rfl rfl rfl ?_
      refine ent_guardXF rfl rfl rfl rfl rfl ?_
      refine ent_guardXF rfl rfl rfl rfl rfl ?_
      refine ent_o rfl (ok_pickF rfl rfl rfl) ?_
      refine emm rfl ?_
      refine ent_nil ?_
      exact ent_rep ⟨slot_bool (dq_F rfl (fun h => (fun h => hg100 h.1) h.1)), trivial⟩ rfl
    refine ent_k K19 ?_
    refine ent_ret ?_
    exact retR1 (.inr rfl) Try.results13 (resr_tmp (res_cv rfl (cv_bool (by first | rfl | exact decide_eq_true ⟨⟨v1, v3⟩, v2⟩ | simp [v1, v2, v3]))))
end Go.Proofs.Ytaipghchkamajaa
