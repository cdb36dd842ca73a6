/-
  The reference: Canon, Canonical, Null.
-/
import Derived.Test.YtamhdlkfhhpdpaaProg
import Derived.Test.YtamhdlkfhhpdpaaWTab
import Derived.Test.YtamhdlkfhhpdpaaPlainRf
import Derived.Test.YtamhdlkfhhpdpaaCzLib
import Derived.Test.YtamhdlkfhhpdpaaW1
import Derived.Test.YtamhdlkfhhpdpaaW4
import Derived.Test.YtamhdlkfhhpdpaaW5
import Derived.Test.YtamhdlkfhhpdpaaW6
import Derived.Test.YtamhdlkfhhpdpaaW9
import Derived.Test.YtamhdlkfhhpdpaaW10
import Derived.Test.YtamhdlkfhhpdpaaW11
import Derived.Test.YtamhdlkfhhpdpaaW12
import Derived.Test.YtamhdlkfhhpdpaaW13
import Derived.Test.YtamhdlkfhhpdpaaW14
import Derived.Test.YtamhdlkfhhpdpaaW18
import Derived.Test.YtamhdlkfhhpdpaaW19
open Go Go.Cw
namespace Go.Proofs.Ytamhdlkfhhpdpaa
set_option maxRecDepth 100000
set_option linter.unusedVariables false
set_option linter.unusedSimpArgs false
theorem rCanon_ok (f : Fld) (X : List (List Int)) (cols : Int) (wd : Nat) (hF : FOk f) (hg : good f wd X) (hc0 : 0 ≤ cols) (hc1 : cols ≤ wd) (hw : wd ≤ 100000) (hx : X.length ≤ 100000) : Ctr Try.prog 63 [aFld f, aSl 1 false aInts X, aInt cols] (aTup [aSl 1 false aInts (canR (elim f X [] cols.toNat)), aSl 1 false aInt ((elim f X [] cols.toNat).piv)]) := by
 have hpl := piv_le f X [] cols.toNat
 have hel := (length_elim f X [] cols.toNat).1
 refine ctr_of Try.call63 Try.func63 rfl rfl ?_
 intro w O
 refine ent_lenC 0 2 rfl rfl (fun hlen0_2 => ?_)
 refine ent_len 1 rfl (fun hlen1 => ?_)
 refine esr rfl fun _ K1 => ?_
 refine ent_boxS rfl rfl (AllOne.mem ⟨(one_int _), (one_int _), one_sl, trivial⟩) (fun b3_1 => ?_)
 refine emm rfl ?_
 refine enk K1 ?_
 refine esr rfl fun _ K2 => ?_
 refine ent_o rfl (ok_loadBS (k := 0) ti24 rfl rfl rfl) ?_
 refine emm rfl ?_
 refine ent_o rfl (ok_call (rEliminate_ok f X cols wd hF hg hc0 hc1 hw hx) rfl) ?_
 refine emm rfl ?_
 refine ent_o rfl (ok_extract rfl rfl) ?_
 refine ent_o rfl (ok_extract rfl rfl) ?_
 refine emm rfl ?_
 refine enk K2 ?_
 refine esr rfl fun _ K3 => ?_
 refine ent_o rfl (ok_len rfl Try.runUnderlying22 rfl) ?_
 refine ent_o rfl (ok_sliceTo sl25 rfl rfl (by omega) (by omega)) ?_
 refine emm rfl ?_
 refine enk K3 ?_
 refine ent_ret ?_
 exact retR2 (.inr rfl) Try.results63 (resr_tmp (res_cv rfl (cv_sl sub_x rfl))) (resr_tmp (res_cv rfl (cv_sl sub_x rfl)))

theorem rCanonical_ok (f : Fld) (m : Mat)  : Ctr Try.prog 18 [aFld f, aMat m] (aTup [aMat (canM f m), aSl 1 false aInt (canP f m), aInt (mErr f m)]) := by
 refine ctr_of Try.call18 Try.func18 rfl rfl ?_
 intro w O
 refine ent_lenC 0 2 rfl rfl (fun hlen0_2 => ?_)
 refine ent_lenC 1 1 rfl rfl (fun hlen1_1 => ?_)
 refine esr rfl fun _ K1 => ?_
 refine ent_boxS rfl rfl (AllOne.mem ⟨(one_int _), (one_int _), one_sl, trivial⟩) (fun b2_1 => ?_)
 refine ent_boxS rfl rfl (AllOne.mem ⟨(one_int _), one_sl, trivial⟩) (fun b3_2 => ?_)
 refine ent_alloc (z := .agg #[.int .i64 0, .slice none 0 0]) [aInt 0, aEx (.slice none 0 0)] rfl zv27 rfl zc27 (fun b4_3 => ?_)
 refine emm rfl ?_
 refine enk K1 ?_
 refine esr rfl fun _ K2 => ?_
 refine ent_o rfl (ok_loadBS (k := 2) ti24 rfl rfl rfl) ?_
 refine ent_o rfl (ok_loadBS (k := 1) ti27 rfl rfl rfl) ?_
 refine ent_o rfl (ok_call (rMCheck_ok f m) rfl) ?_
 refine emm rfl ?_
 refine enk K2 ?_
 refine ent_seq fun _ K3 => ?_
 refine esr rfl fun _ K4 => ?_
 refine ent_o rfl (ok_neq rfl rfl) ?_
 refine enk K4 ?_
 refine ent_condD rfl (fun h14 => ?_) (fun h14 => ?_)
 ·have hm0 := h14
  refine esr rfl fun _ K5 => ?_
  refine ent_o rfl (ok_build st27 (As := [aInt 0, aEx (.slice none 0 0)]) z27 (rfl)) ?_
  refine emm rfl ?_
  refine ent_storeBS (k := 0) Try.sizeOf27 rfl rfl rfl (AllOne.mem ⟨(one_int _), (one_ex rfl), trivial⟩) rfl rfl ?_
  show Ent _ ⟨_, [_, _, _]⟩ _
  refine emm rfl ?_
  refine enk K5 ?_
  refine ent_ret ?_
  exact retR3 (.inr rfl) Try.results18 (resr_cell (k := 0) ti27 rfl rfl rfl (cv_agg ⟨cv_int (by simp only [canM_no hm0] <;> rfl), cv_nil (fun _ => rfl) (by simp only [canM_no hm0] <;> rfl), trivial⟩)) (resr_tmp (res_cv rfl (cv_nil (fun _ => rfl) (by simp only [canP_no hm0] <;> rfl)))) (resr_tmp (res_cv rfl (cv_int rfl)))
 ·have hm0 := Classical.not_not.1 h14
  have hF := (mErr_zero.1 hm0).1
  have hme := (mErr_zero.1 hm0).2
  have hsz := mat_size hme
  have hgm := mat_good hme
  refine esp K3 ?_
  refine esr rfl fun _ K6 => ?_
  refine ent_o rfl (ok_loadBS (k := 2) ti24 rfl rfl rfl) ?_
  refine ent_o rfl (ok_fieldAddrEx Try.runUnderlying27 rfl Try.sizeOf25 (by decide) rfl) ?_
  refine ent_o rfl (ok_loadB (k := 1) Try.isAgg25 rfl rfl rfl) ?_
  refine ent_o rfl (ok_fieldAddrEx Try.runUnderlying27 rfl Try.sizeOf3 (by decide) rfl) ?_
  refine ent_o rfl (ok_loadB (k := 1) Try.isAgg3 rfl rfl rfl) ?_
  refine ent_o rfl (ok_call (rCanon_ok f m.rows m.cols m.cols.toNat ‹_› hgm (by omega) (by omega) (by omega) (by omega)) rfl) ?_
  refine emm rfl ?_
  refine ent_o rfl (ok_extract rfl rfl) ?_
  refine ent_o rfl (ok_extract rfl rfl) ?_
  refine emm rfl ?_
  refine enk K6 ?_
  refine esr rfl fun _ K7 => ?_
  refine ent_o rfl (ok_fieldAddrEx Try.runUnderlying27 rfl Try.sizeOf3 (by decide) rfl) ?_
  refine ent_o rfl (ok_loadB (k := 1) Try.isAgg3 rfl rfl rfl) ?_
  refine emm rfl ?_
  refine ent_o rfl (ok_build st27 (As := [aInt 0, aEx (.slice none 0 0)]) z27 (⟨0, 1, rfl, .inl ⟨rfl, _, rfl, (one_int _), rfl, ⟨1, 1, rfl, .inl ⟨rfl, _, rfl, one_sl, rfl, rfl⟩⟩⟩⟩)) ?_
  refine emm rfl ?_
  refine ent_storeBS (k := 0) Try.sizeOf27 rfl rfl rfl (AllOne.mem ⟨(one_int _), one_sl, trivial⟩) rfl rfl ?_
  show Ent _ ⟨_, [_, _, _]⟩ _
  refine emm rfl ?_
  refine enk K7 ?_
  refine ent_ret ?_
  exact retR3 (.inr rfl) Try.results18 (resr_cell (k := 0) ti27 rfl rfl rfl (cv_agg ⟨cv_int (by simp only [canM_ok hm0] <;> rfl), cv_sl sub_x (by simp only [canM_ok hm0] <;> rfl), trivial⟩)) (resr_tmp (res_cv rfl (cv_sl sub_x (by simp only [canP_ok hm0] <;> rfl)))) (resr_tmp (res_cv rfl (cv_int (by exact hm0.symm))))

theorem rRank_ok (f : Fld) (m : Mat)  : Ctr Try.prog 75 [aFld f, aMat m] (aTup [aInt ((canP f m).length), aInt (mErr f m)]) := by
 refine ctr_of Try.call75 Try.func75 rfl rfl ?_
 intro w O
 refine ent_lenC 0 2 rfl rfl (fun hlen0_2 => ?_)
 refine ent_lenC 1 1 rfl rfl (fun hlen1_1 => ?_)
 refine esr rfl fun _ K1 => ?_
 refine ent_boxS rfl rfl (AllOne.mem ⟨(one_int _), (one_int _), one_sl, trivial⟩) (fun b2_1 => ?_)
 refine ent_boxS rfl rfl (AllOne.mem ⟨(one_int _), one_sl, trivial⟩) (fun b3_2 => ?_)
 refine emm rfl ?_
 refine enk K1 ?_
 refine esr rfl fun _ K2 => ?_
 refine ent_o rfl (ok_loadBS (k := 1) ti24 rfl rfl rfl) ?_
 refine ent_o rfl (ok_loadBS (k := 0) ti27 rfl rfl rfl) ?_
 refine ent_o rfl (ok_call (rCanonical_ok f m) rfl) ?_
 refine emm rfl ?_
 refine ent_o rfl (ok_extract rfl rfl) ?_
 refine ent_o rfl (ok_extract rfl rfl) ?_
 refine ent_o rfl (ok_extract rfl rfl) ?_
 refine ent_alloc (z := .agg #[.int .i64 0, .slice none 0 0]) [aInt 0, aEx (.slice none 0 0)] rfl zv27 rfl zc27 (fun b6_3 => ?_)
 refine ent_storeBS (k := 0) Try.sizeOf27 rfl rfl rfl (AllOne.mem ⟨(one_int _), one_sl, trivial⟩) rfl rfl ?_
 show Ent _ ⟨_, [_, _, _]⟩ _
 refine emm rfl ?_
 refine enk K2 ?_
 refine esr rfl fun _ K3 => ?_
 refine ent_o rfl (ok_len rfl Try.runUnderlying22 rfl) ?_
 refine emm rfl ?_
 refine enk K3 ?_
 refine ent_ret ?_
 exact retR2 (.inr rfl) Try.results75 (resr_tmp (res_cv rfl (cv_int rfl))) (resr_tmp (res_cv rfl (cv_int rfl)))

end Go.Proofs.Ytamhdlkfhhpdpaa

