/-
  Facts for the law MatrixUnique.
-/
import Derived.Test.YtamhdlkfhhpdpaaProg
import Derived.Test.YtamhdlkfhhpdpaaWTab
import Derived.Test.YtamhdlkfhhpdpaaPlainCa
import Derived.Test.YtamhdlkfhhpdpaaCzLib
import Derived.Test.YtamhdlkfhhpdpaaW1
import Derived.Test.YtamhdlkfhhpdpaaW4
import Derived.Test.YtamhdlkfhhpdpaaW5
import Derived.Test.YtamhdlkfhhpdpaaW6
import Derived.Test.YtamhdlkfhhpdpaaW9
import Derived.Test.YtamhdlkfhhpdpaaW10
import Derived.Test.YtamhdlkfhhpdpaaW11
import Derived.Test.YtamhdlkfhhpdpaaW12
import Derived.Test.YtamhdlkfhhpdpaaW13
import Derived.Test.YtamhdlkfhhpdpaaW14
import Derived.Test.YtamhdlkfhhpdpaaW15
import Derived.Test.YtamhdlkfhhpdpaaW16
import Derived.Test.YtamhdlkfhhpdpaaW17
import Derived.Test.YtamhdlkfhhpdpaaW18
import Derived.Test.YtamhdlkfhhpdpaaW19
import Derived.Test.YtamhdlkfhhpdpaaW20
import Derived.Test.YtamhdlkfhhpdpaaW21
open Go Go.Cw
namespace Go.Proofs.Ytamhdlkfhhpdpaa
set_option maxRecDepth 100000
set_option linter.unusedVariables false
set_option linter.unusedSimpArgs false
theorem canonF_ok (f : Fld) (X : List (List Int)) (cols : Int) (wd : Nat) (hF : FOk f) (hg : good f wd X) (hc0 : 0 ≤ cols) (hc1 : cols ≤ wd) (hw : wd ≤ 100000) (hx : X.length ≤ 100000) : CtrF Try.prog 62 [aGF f, aSl 1 false aInts X, aInt cols] (aTup [aSl 1 false aInts (canR (elim f X [] cols.toNat)), aSl 1 false aInt ((elim f X [] cols.toNat).piv)]) := by
 have hpl := piv_le f X [] cols.toNat
 have hel := (length_elim f X [] cols.toNat).1
 refine ctrF_of Try.call62 Try.func62 rfl rfl ?_
 intro w O
 refine ent_lenP 0 4 rfl rfl (fun hlen0_4 => ?_)
 refine ent_lenP 0 5 rfl rfl (fun hlen0_5 => ?_)
 refine ent_len 1 rfl (fun hlen1 => ?_)
 refine esk rfl ?_
 refine esr rfl fun _ K2 => ?_
 refine ent_callW (rs := []) [] rfl (clone_ok X (by omega) (fun x hx => by have := (hg x hx).1; omega)) rfl rfl (.inl rfl) ⟨arg_a rfl (cv_id (sub_lent _)), trivial⟩ ?_
 rintro ⟨r_1, c_1, Hs_1⟩ h12_1
 show Ent _ ⟨_ :: _, [_, _]⟩ _
 refine emm rfl ?_
 refine enk K2 ?_
 refine esr rfl fun _ K3 => ?_
 refine ent_open 22 1 false aH (fun _ => rfl) ?_
 refine ent_rows0 3 aInt ?_
 refine ent_pm 4 [0, 1, 3, 2] rfl (by decide) rfl ?_
 refine ent_callW (rs := []) [] rfl (eliminate_ok f r_1 c_1 Hs_1 X cols none 0 [] [] wd 0 (by first | rfl | assumption | omega | (simp_all; done) | grind) (by first | rfl | assumption | omega | (simp_all; done) | grind) rfl (.inl rfl) hg (wide_nil 0) (by first | rfl | assumption | omega | (simp_all; done) | grind) (by first | rfl | assumption | omega | (simp_all; done) | grind) hw (by omega) hx) rfl rfl (.inl rfl) ⟨arg_a rfl (cv_id (sub_lent _)), arg_a rfl (cv_ex (congrArg (fun n => vec r_1 n c_1) (show Hs_1.length = Hs_1.length by first | rfl | assumption | omega | (simp only [List.length_set]; omega) | (simp; done) | (simp_all; done)))), arg_a rfl (cv_id (sub_lent _)), arg_a rfl (cv_ex (congrArg (fun n => vec none n 0) (show 0 = [].length by first | rfl | assumption | omega | (simp only [List.length_set]; omega) | (simp; done) | (simp_all; done)))), trivial⟩ ?_
 rintro ⟨Hn_3, Kn_3, rp_3, cp_3⟩ h17_3
 show Ent _ ⟨_ :: _, [_, _, _, _, _]⟩ _
 refine ent_pm 5 [1, 0, 2, 3, 4] rfl (by decide) rfl ?_
 refine emm rfl ?_
 refine ent_o rfl (ok_extract rfl rfl) ?_
 refine ent_o rfl (ok_extract rfl rfl) ?_
 refine emm rfl ?_
 refine enk K3 ?_
 refine esr rfl fun _ K4 => ?_
 refine ent_o rfl (ok_lenEx rfl Try.runUnderlying22 rfl) ?_
 refine emm rfl ?_
 refine ent_o rfl (ok_lenEx rfl Try.runUnderlying22 rfl) ?_
 refine ent_cap 3 rfl (fun hcap25 => ?_)
 refine ent_o rfl (ok_sub3To sl25 rfl rfl rfl (by omega) (by omega)) ?_
 refine emm rfl ?_
 refine enk K4 ?_
 refine ent_ret ?_
 exact retR2 (.inr rfl) Try.results62 (resr_tmp (res_cv rfl (cvF_rowsTo (k := 3) (k2 := 4) flat_int rfl rfl rfl (by first | omega | (simp; omega)) (by first | rfl | (unfold canR; congr 1; omega))))) (resr_tmp (res_cv rfl (cvF_vec (k := 0) flat_int rfl rfl (by first | rfl | assumption | (simp; done) | (simp_all; done) | omega) (by rfl))))

theorem mCanonicalF_ok (f : Fld) (m : Mat)  : CtrF Try.prog 17 [aFld f, aMat m] (aTup [aMat (canM f m), aSl 1 false aInt (canP f m), aInt (mErr f m)]) := by
 refine ctrF_of Try.call17 Try.func17 rfl rfl ?_
 intro w O
 refine ent_lenC 0 2 rfl rfl (fun hlen0_2 => ?_)
 refine ent_lenC 1 1 rfl rfl (fun hlen1_1 => ?_)
 refine esr rfl fun _ K1 => ?_
 refine ent_boxS rfl rfl (AllOne.mem ⟨(one_int _), (one_int _), one_sl, trivial⟩) (fun b2_1 => ?_)
 refine ent_boxS rfl rfl (AllOne.mem ⟨(one_int _), one_sl, trivial⟩) (fun b3_2 => ?_)
 refine ent_alloc (z := .agg #[.int .i64 0, .slice none 0 0]) [aInt 0, aEx (.slice none 0 0)] rfl zv27 rfl zc27 (fun b4_3 => ?_)
 refine emm rfl ?_
 refine enk K1 ?_
 refine esr rfl fun _ K2 => ?_
 refine ent_o rfl (ok_loadBS (k := 2) ti24 rfl rfl rfl) ?_
 refine ent_o rfl (ok_loadBS (k := 1) ti27 rfl rfl rfl) ?_
 refine ent_o rfl (ok_build1 (enc := aMat) (y := (⟨m.cols, m.rows⟩ : Mat)) vt67 rfl (elem_agg (AllOne.mem ⟨(one_int _), one_sl, trivial⟩)) (by decide)) ?_
 rcases Classical.em (mErr f m = 0) with hm0 | hm0
 ·refine ent_o rfl (ok_call (open_ok f [(⟨m.cols, m.rows⟩ : Mat)] (mErr_zero.1 hm0).1 (by intro q hq; simp only [List.mem_cons, List.not_mem_nil, or_false] at hq; subst hq; exact (mErr_zero.1 hm0).2) (by simp)) rfl) ?_
  refine emm rfl ?_
  refine ent_o rfl (ok_extract rfl rfl) ?_
  refine ent_o rfl (ok_extract rfl rfl) ?_
  refine emm rfl ?_
  refine enk K2 ?_
  refine ent_seq fun _ K3 => ?_
  refine esr rfl fun _ K4 => ?_
  refine ent_o rfl (ok_neq rfl rfl) ?_
  refine enk K4 ?_
  refine ent_condFP rfl (by decide) ?_
  refine esp K3 ?_
  refine ent_seq fun _ K5 => ?_
  have hF := (mErr_zero.1 hm0).1
  have hme := (mErr_zero.1 hm0).2
  have hsz := mat_size hme
  have hgm := mat_good hme
  refine ent_region ?_
  refine emm rfl ?_
  refine ent_o rfl (ok_fieldAddrEx Try.runUnderlying27 rfl Try.sizeOf25 (by decide) rfl) ?_
  refine ent_o rfl (ok_loadB (k := 1) Try.isAgg25 rfl rfl rfl) ?_
  refine ent_o rfl (ok_fieldAddrEx Try.runUnderlying27 rfl Try.sizeOf3 (by decide) rfl) ?_
  refine ent_o rfl (ok_loadB (k := 1) Try.isAgg3 rfl rfl rfl) ?_
  refine ent_o rfl (ok_callFr [] (canonF_ok f m.rows m.cols m.cols.toNat (by first | rfl | assumption | omega | (simp_all; done) | grind) hgm (by first | rfl | assumption | omega | (simp_all; done) | grind) (by first | rfl | assumption | omega | (simp_all; done) | grind) (by first | rfl | assumption | omega | (simp_all; done) | grind) (by first | rfl | assumption | omega | (simp_all; done) | grind)) ⟨arg_a rfl (cv_id (sub_lent _)), arg_a rfl (cv_id (sub_lent _)), arg_a rfl (cv_id (sub_lent _)), trivial⟩) ?_
  refine emm rfl ?_
  refine ent_o rfl (ok_extractFr rfl rfl) ?_
  refine ent_o rfl (ok_extractFr rfl rfl) ?_
  refine emm rfl ?_
  refine enk K5 ?_
  refine esr rfl fun _ K6 => ?_
  refine ent_o rfl (ok_fieldAddrEx Try.runUnderlying27 rfl Try.sizeOf3 (by decide) rfl) ?_
  refine ent_o rfl (ok_loadB (k := 1) Try.isAgg3 rfl rfl rfl) ?_
  refine emm rfl ?_
  refine ent_o rfl (ok_build st27 (As := [aInt 0, aEx (.slice none 0 0)]) z27 (⟨0, 1, rfl, .inl ⟨rfl, _, rfl, (one_int _), rfl, ⟨1, 1, rfl, .inl ⟨rfl, _, rfl, (one_fr one_sl), rfl, rfl⟩⟩⟩⟩)) ?_
  refine emm rfl ?_
  refine ent_storeBS (k := 0) Try.sizeOf27 rfl rfl rfl (AllOne.mem ⟨(one_int _), (one_fr one_sl), trivial⟩) rfl rfl ?_
  show Ent _ ⟨_, [_, _, _]⟩ _
  refine emm rfl ?_
  refine enk K6 ?_
  refine ent_ret ?_
  exact retR3 (.inr rfl) Try.results17 (resr_cell (k := 0) ti27 rfl rfl rfl (cv_agg ⟨cv_int (by first | rfl | exact hm0.symm | exact opErr_one f m | (simp only [canM_ok hm0] <;> rfl) | (simp only [canM_no hm0] <;> rfl) | (simp; done)), cvF_fr (av_sl (by first | rfl | exact hm0.symm | exact opErr_one f m | (simp only [canM_ok hm0] <;> rfl) | (simp only [canM_no hm0] <;> rfl) | (simp; done))), trivial⟩)) (resr_tmp (res_cv rfl (cvF_fr (av_sl (by first | rfl | exact hm0.symm | exact opErr_one f m | (simp only [canP_ok hm0] <;> rfl) | (simp only [canP_no hm0] <;> rfl) | (simp; done)))))) (resr_tmp (res_cv rfl (cv_int (by first | rfl | exact hm0.symm | exact opErr_one f m | (simp; done)))))
 ·refine ent_o rfl (ok_call (open_no f [(⟨m.cols, m.rows⟩ : Mat)] (by rw [opErr_one]; exact hm0)) rfl) ?_
  refine emm rfl ?_
  refine ent_o rfl (ok_extract rfl rfl) ?_
  refine ent_o rfl (ok_extract rfl rfl) ?_
  refine emm rfl ?_
  refine enk K2 ?_
  refine ent_seq fun _ K7 => ?_
  refine esr rfl fun _ K8 => ?_
  refine ent_o rfl (ok_neq rfl rfl) ?_
  refine enk K8 ?_
  refine ent_condD rfl (fun h19 => ?_) (fun h19 => ?_)
  ·refine esr rfl fun _ K9 => ?_
   refine ent_o rfl (ok_build st27 (As := [aInt 0, aEx (.slice none 0 0)]) z27 (rfl)) ?_
   refine emm rfl ?_
   refine ent_storeBS (k := 0) Try.sizeOf27 rfl rfl rfl (AllOne.mem ⟨(one_int _), (one_ex rfl), trivial⟩) rfl rfl ?_
   show Ent _ ⟨_, [_, _, _]⟩ _
   refine emm rfl ?_
   refine enk K9 ?_
   refine ent_ret ?_
   exact retR3 (.inr rfl) Try.results17 (resr_cell (k := 0) ti27 rfl rfl rfl (cv_agg ⟨cv_int (by first | rfl | exact hm0.symm | exact opErr_one f m | (simp only [canM_ok hm0] <;> rfl) | (simp only [canM_no hm0] <;> rfl) | (simp; done)), cv_nil (fun _ => rfl) (by first | rfl | exact hm0.symm | exact opErr_one f m | (simp only [canM_ok hm0] <;> rfl) | (simp only [canM_no hm0] <;> rfl) | (simp; done)), trivial⟩)) (resr_tmp (res_cv rfl (cv_nil (fun _ => rfl) (by first | rfl | exact hm0.symm | exact opErr_one f m | (simp only [canP_ok hm0] <;> rfl) | (simp only [canP_no hm0] <;> rfl) | (simp; done))))) (resr_tmp (res_cv rfl (cv_int (by first | rfl | exact hm0.symm | exact opErr_one f m | (simp; done)))))
  ·exact absurd (Classical.not_not.1 h19) (by rw [opErr_one]; exact hm0)
end Go.Proofs.Ytamhdlkfhhpdpaa
