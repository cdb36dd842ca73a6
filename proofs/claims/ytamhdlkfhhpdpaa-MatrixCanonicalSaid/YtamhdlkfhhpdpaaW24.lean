/-
  Facts for the law MatrixCanonical.
-/
import Derived.Test.YtamhdlkfhhpdpaaProg
import Derived.Test.YtamhdlkfhhpdpaaWTab
import Derived.Test.YtamhdlkfhhpdpaaPlainAw
import Derived.Test.YtamhdlkfhhpdpaaCzLib
import Derived.Test.YtamhdlkfhhpdpaaW1
import Derived.Test.YtamhdlkfhhpdpaaW4
import Derived.Test.YtamhdlkfhhpdpaaW5
import Derived.Test.YtamhdlkfhhpdpaaW6
import Derived.Test.YtamhdlkfhhpdpaaW9
import Derived.Test.YtamhdlkfhhpdpaaW10
import Derived.Test.YtamhdlkfhhpdpaaW11
import Derived.Test.YtamhdlkfhhpdpaaW12
import Derived.Test.YtamhdlkfhhpdpaaW13
import Derived.Test.YtamhdlkfhhpdpaaW14
import Derived.Test.YtamhdlkfhhpdpaaW15
import Derived.Test.YtamhdlkfhhpdpaaW16
import Derived.Test.YtamhdlkfhhpdpaaW17
import Derived.Test.YtamhdlkfhhpdpaaW18
import Derived.Test.YtamhdlkfhhpdpaaW19
import Derived.Test.YtamhdlkfhhpdpaaW20
import Derived.Test.YtamhdlkfhhpdpaaW21
import Derived.Test.YtamhdlkfhhpdpaaW23
open Go Go.Cw
namespace Go.Cw
theorem rdf_nil {H : Type} {encH : TypeId × Value → H} {P : Program} {W : World} {n : Nat} : RdFs encH P W [] n n (fun _ : Unit => []) (fun _ => True) := by
  intro fuel cs hl _
  refine ⟨(), trivial, by simp [hl], fun i A c hA => by simp at hA⟩
theorem mk_struct {P : Program} {W : World} {t : TypeId} {fs : Array Field} {base : Nat} {v : Value} (hu : P.underlying t = some (.struct fs)) (h : Value.okWide P W .any base t v) : v = mkV true v.cells.toList := by
  simp only [Value.okWide, hu] at h
  obtain ⟨cs, rfl, _⟩ := h; rfl
end Go.Cw
namespace Go.Proofs.Ytamhdlkfhhpdpaa
set_option maxRecDepth 100000
set_option linter.unusedVariables false
set_option linter.unusedSimpArgs false
theorem MatrixCanonical_walk (f : Fld) (m : Mat)  : Ctr Try.prog 3 [aFld f, aMat m] (aBool true) := by
  refine ctr_of Try.call3 Try.func3 rfl rfl ?_
  intro w O
  refine ent_lenC 0 2 rfl rfl (fun hlen0_2 => ?_)
  refine ent_lenC 1 1 rfl rfl (fun hlen1_1 => ?_)
  refine ent_seq fun K1 hK1 => ?_
  refine ent_region ?_
  refine ent_boxS rfl rfl (AllOne.mem ⟨(one_int _), (one_int _), one_sl, trivial⟩) (fun b2_1 => ?_)
  refine ent_boxS rfl rfl (AllOne.mem ⟨(one_int _), one_sl, trivial⟩) (fun b3_2 => ?_)
  refine ent_o rfl (ok_assign rfl) ?_
  refine ent_nil ?_
  refine ent_k hK1 ?_
  refine ent_seq fun K2 hK2 => ?_
  refine ent_seq fun K3 hK3 => ?_
  refine ent_region ?_
  refine ent_o rfl (ok_call awake_ok rfl) ?_
  refine ent_o rfl (ok_not rfl) ?_
  refine ent_o rfl (ok_move rfl) ?_
  refine ent_guardXT rfl rfl rfl rfl rfl ?_
  refine ent_o rfl (ok_loadBS (k := 0) ti27 rfl rfl rfl) ?_
  refine ent_guardXT rfl rfl rfl rfl rfl ?_
  refine ent_o rfl (ok_call (rFew_ok m 300 (by first | rfl | assumption | omega | (simp_all; done) | grind) (by first | rfl | assumption | omega | (simp_all; done) | grind)) rfl) ?_
  refine ent_guardXT rfl rfl rfl rfl rfl ?_
  refine ent_o rfl (ok_notD rfl) ?_
  refine ent_o rfl (ok_pickF rfl rfl rfl) ?_
  refine ent_nil ?_
  refine ent_k hK3 ?_
  refine ent_condD rfl (fun h19 => ?_) (fun h19 => ?_)
  · refine ent_seq fun K4 hK4 => ?_
    refine ent_region ?_
    refine ent_o rfl (ok_call awake_ok rfl) ?_
    refine ent_o rfl (ok_assign rfl) ?_
    refine ent_nil ?_
    refine ent_k hK4 ?_
    refine ent_ret ?_
    exact retR1 (.inr rfl) Try.results3 (resr_tmp (res_cv rfl (cv_bool (by rfl))))
  · refine ent_skip ?_
    refine ent_k hK2 ?_
    refine ent_seq fun K5 hK5 => ?_
    refine ent_region ?_
    refine ent_o rfl (ok_loadBS (k := 1) ti24 rfl rfl rfl) ?_
    refine ent_o rfl (ok_loadBS (k := 0) ti27 rfl rfl rfl) ?_
    refine ent_o rfl (ok_call (mCanonical_ok f m) rfl) ?_
    refine ent_o rfl (ok_move rfl) ?_
    refine ent_o rfl (ok_extract rfl rfl) ?_
    refine ent_o rfl (ok_extract rfl rfl) ?_
    refine ent_o rfl (ok_extract rfl rfl) ?_
    refine ent_alloc (z := .agg #[.int .i64 0, .slice none 0 0]) [aInt 0, aEx (.slice none 0 0)] rfl zv27 rfl zc27 (fun b5_3 => ?_)
    refine ent_storeBS (k := 0) Try.sizeOf27 rfl rfl rfl (AllOne.mem ⟨(one_int _), one_sl, trivial⟩) rfl rfl ?_
    show Ent _ (⟨_, [oBox b5_3 27 [aInt ((canM f m).cols), aSl 1 false aInts ((canM f m).rows)], oBox b3_2 27 [aInt m.cols, aSl 1 false aInts m.rows], oBox b2_1 24 [aInt f.P, aInt f.M, aSl 1 false aInt f.mod]]⟩ : St) _
    refine ent_o rfl (ok_assign rfl) ?_
    refine ent_o rfl (ok_assign rfl) ?_
    refine ent_nil ?_
    refine ent_k hK5 ?_
    refine ent_seq fun K6 hK6 => ?_
    refine ent_region ?_
    refine ent_o rfl (ok_loadBS (k := 2) ti24 rfl rfl rfl) ?_
    refine ent_o rfl (ok_loadBS (k := 1) ti27 rfl rfl rfl) ?_
    refine ent_o rfl (ok_call (rCanonical_ok f m) rfl) ?_
    refine ent_o rfl (ok_move rfl) ?_
    refine ent_o rfl (ok_extract rfl rfl) ?_
    refine ent_o rfl (ok_extract rfl rfl) ?_
    refine ent_o rfl (ok_extract rfl rfl) ?_
    refine ent_alloc (z := .agg #[.int .i64 0, .slice none 0 0]) [aInt 0, aEx (.slice none 0 0)] rfl zv27 rfl zc27 (fun b8_4 => ?_)
    refine ent_storeBS (k := 0) Try.sizeOf27 rfl rfl rfl (AllOne.mem ⟨(one_int _), one_sl, trivial⟩) rfl rfl ?_
    show Ent _ (⟨_, [oBox b8_4 27 [aInt ((canM f m).cols), aSl 1 false aInts ((canM f m).rows)], oBox b5_3 27 [aInt ((canM f m).cols), aSl 1 false aInts ((canM f m).rows)], oBox b3_2 27 [aInt m.cols, aSl 1 false aInts m.rows], oBox b2_1 24 [aInt f.P, aInt f.M, aSl 1 false aInt f.mod]]⟩ : St) _
    refine ent_o rfl (ok_assign rfl) ?_
    refine ent_o rfl (ok_assign rfl) ?_
    refine ent_nil ?_
    refine ent_k hK6 ?_
    refine ent_seq fun K7 hK7 => ?_
    refine ent_region ?_
    refine ent_o rfl (ok_loadBS (k := 3) ti24 rfl rfl rfl) ?_
    refine ent_o rfl (ok_loadBS (k := 2) ti27 rfl rfl rfl) ?_
    refine ent_o rfl (ok_call (mRank_ok f m) rfl) ?_
    refine ent_o rfl (ok_move rfl) ?_
    refine ent_o rfl (ok_extract rfl rfl) ?_
    refine ent_o rfl (ok_extract rfl rfl) ?_
    refine ent_o rfl (ok_assign rfl) ?_
    refine ent_o rfl (ok_assign rfl) ?_
    refine ent_nil ?_
    refine ent_k hK7 ?_
    refine ent_seq fun K8 hK8 => ?_
    refine ent_cut (⟨[(4, aBool (decide ((((canP f m).length) = (↑(canP f m).length : Int)) ∧ True)))], [oBox b8_4 27 [aInt ((canM f m).cols), aSl 1 false aInts ((canM f m).rows)], oBox b5_3 27 [aInt ((canM f m).cols), aSl 1 false aInts ((canM f m).rows)], oBox b3_2 27 [aInt m.cols, aSl 1 false aInts m.rows], oBox b2_1 24 [aInt f.P, aInt f.M, aSl 1 false aInt f.mod]]⟩) ?_ ?_
    · refine ent_draw 34 mixed (by kernel_rfl) (drawQ_F (by kernel_rfl)) (by kernel_rfl) ?_
      refine dw_o rfl (ok_move rfl) ?_
      refine dw_o rfl (ok_move rfl) ?_
      refine dw_o rfl (ok_eql rfl rfl) ?_
      refine dw_o rfl (ok_move rfl) ?_
      refine dw_guardT rfl rfl rfl rfl (decide_eq_true rfl) ?_
      refine dw_o rfl (ok_move rfl) ?_
      refine dw_guardT rfl rfl rfl rfl (decide_eq_true rfl) ?_
      refine dw_o rfl (ok_move rfl) ?_
      refine dw_guardT rfl rfl rfl rfl (decide_eq_true rfl) ?_
      refine dw_o rfl (ok_eql rfl rfl) ?_
      refine dw_o rfl (ok_pickT rfl (decide_eq_true rfl) rfl) ?_
      refine dw_o rfl (ok_move rfl) ?_
      refine dw_guardT rfl rfl rfl rfl (decide_eq_true rfl) ?_
      refine dw_o rfl (ok_loadBS (k := 1) ti27 rfl rfl rfl) ?_
      refine dw_guardT rfl rfl rfl rfl (decide_eq_true rfl) ?_
      refine dw_o rfl (ok_loadBS (k := 0) ti27 rfl rfl rfl) ?_
      refine dw_guardT rfl rfl rfl rfl (decide_eq_true rfl) ?_
      refine dw_o rfl (ok_call (rSame_ok (canM f m) (canM f m)) rfl) ?_
      refine dw_o rfl (ok_pickT rfl (decide_eq_true rfl) rfl) ?_
      refine dw_o rfl (ok_move rfl) ?_
      refine dw_guardT rfl rfl rfl rfl (decide_eq_true rfl) ?_
      refine dw_o rfl (ok_move rfl) ?_
      refine dw_guardT rfl rfl rfl rfl (decide_eq_true rfl) ?_
      refine dw_o rfl (ok_move rfl) ?_
      refine dw_guardT rfl rfl rfl rfl (decide_eq_true rfl) ?_
      refine dw_o rfl (ok_call (SameInts_ok (canP f m) (canP f m)) rfl) ?_
      refine dw_o rfl (ok_pickT rfl (decide_eq_true rfl) rfl) ?_
      refine dw_o rfl (ok_move rfl) ?_
      refine dw_guardT rfl rfl rfl rfl (decide_eq_true rfl) ?_
      refine dw_o rfl (ok_move rfl) ?_
      refine dw_guardT rfl rfl rfl rfl (decide_eq_true rfl) ?_
      refine dw_o rfl (ok_move rfl) ?_
      refine dw_guardT rfl rfl rfl rfl (decide_eq_true rfl) ?_
      refine dw_o rfl (ok_len rfl Try.runUnderlying22 rfl) ?_
      refine dw_guardT rfl rfl rfl rfl (decide_eq_true rfl) ?_
      refine dw_o rfl (ok_eql rfl rfl) ?_
      refine dw_o rfl (ok_pickT rfl (decide_eq_true rfl) rfl) ?_
      refine dw_o rfl (ok_move rfl) ?_
      refine dw_guardDt rfl rfl rfl rfl (fun hg65 => ?_) (fun hg65 => ?_)
      · refine dw_o rfl (ok_loadBS (k := 3) ti24 rfl rfl rfl) ?_
        refine dw_guardT rfl rfl rfl rfl (decide_eq_true hg65) ?_
        refine dw_o rfl (ok_loadBS (k := 2) ti27 rfl rfl rfl) ?_
        refine dw_guardT rfl rfl rfl rfl (decide_eq_true hg65) ?_
        refine dw_o rfl (ok_call (mCheck_ok f m) rfl) ?_
        refine dw_guardT rfl rfl rfl rfl (decide_eq_true hg65) ?_
        refine dw_o rfl (ok_loadBS (k := 3) ti24 rfl rfl rfl) ?_
        refine dw_guardT rfl rfl rfl rfl (decide_eq_true hg65) ?_
        refine dw_o rfl (ok_loadBS (k := 2) ti27 rfl rfl rfl) ?_
        refine dw_guardT rfl rfl rfl rfl (decide_eq_true hg65) ?_
        refine dw_o rfl (ok_call (rMCheck_ok f m) rfl) ?_
        refine dw_guardT rfl rfl rfl rfl (decide_eq_true hg65) ?_
        refine dw_o rfl (ok_eql rfl rfl) ?_
        refine dw_o rfl (ok_pickT rfl (decide_eq_true hg65) rfl) ?_
        refine dw_o rfl (ok_assign rfl) ?_
        refine dw_nil ?_
        refine ent_nil ?_
        exact ent_rep ⟨slot_bool (dq_T (decide_eq_true rfl) ⟨hg65, trivial⟩), trivial⟩ rfl
      · refine dw_guardF rfl rfl rfl rfl (decide_eq_false hg65) ?_
        refine dw_guardF rfl rfl rfl rfl (decide_eq_false hg65) ?_
        refine dw_guardF rfl rfl rfl rfl (decide_eq_false hg65) ?_
        refine dw_guardF rfl rfl rfl rfl (decide_eq_false hg65) ?_
        refine dw_guardF rfl rfl rfl rfl (decide_eq_false hg65) ?_
        refine dw_guardF rfl rfl rfl rfl (decide_eq_false hg65) ?_
        refine dw_o rfl (ok_pickF rfl (decide_eq_false hg65) rfl) ?_
        refine dw_o rfl (ok_assign rfl) ?_
        refine dw_nil ?_
        refine ent_nil ?_
        exact ent_rep ⟨slot_bool (dq_F rfl (fun h => hg65 h.1)), trivial⟩ rfl
    refine ent_k hK8 ?_
    refine ent_ret ?_
    exact retR1 (.inr rfl) Try.results3 (resr_tmp (res_cv rfl (cv_bool (by exact decide_eq_true ⟨rfl, trivial⟩))))
end Go.Proofs.Ytamhdlkfhhpdpaa
