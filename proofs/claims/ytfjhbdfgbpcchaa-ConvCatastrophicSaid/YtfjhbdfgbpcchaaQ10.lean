/-
  Walks of functions of the program and the reference.
-/
import Derived.Test.YtfjhbdfgbpcchaaQ9
open Go Go.Cw
namespace Go.Proofs.Ytfjhbdfgbpcchaa
open Try
set_option maxRecDepth 100000
set_option linter.unusedVariables false
set_option linter.unusedSimpArgs false
theorem minors_ok (c : Cnv) (hFew : c.Few) (hOk : c.Ok) (hF : FOk c.F) (hk3 : c.k ≤ 3) (hn6 : c.n ≤ 6) : Ctr Try.prog 75 [aMach c] (aSl 1 false aInt c.minL) := by
 have hS := hF.1
 have hik : c.k = (c.Gen.length : Int) := rfl
 have hkn := hOk.kn
 refine ctr_of Try.call75 func75 rfl rfl ?_
 intro w O
 refine ent_lenP 0 1 rfl rfl (fun hlen0_1 => ?_)
 refine ent_lenP 0 4 rfl rfl (fun hlen0_4 => ?_)
 refine ent_lenP 0 8 rfl rfl (fun hlen0_8 => ?_)
 refine esk rfl ?_
 refine esr rfl fun _ K2 => ?_
 refine ent_callW (rs := []) [] rfl (triangle_ok c ‹_› ‹_› ‹_› ‹_› ‹_›) rfl rfl (.inl rfl) ⟨arg_a rfl (cv_id (sub_lent _)), trivial⟩ ?_
 rintro ⟨ra_1, ca_1, HL_1, rb_1, cb_1, HO_1, Y_1⟩ h11_1
 show Ent _ ⟨_ :: _, [_, _, _, _]⟩ _
 obtain ⟨hHL, hHO, _, TG⟩ := h11_1
 have hLB := TG.shortE
 have hYl := TG.tr.len
 have htk : (List.take c.Gen.length Y_1).length = c.Gen.length := by rw [List.length_take]; omega
 refine emm rfl ?_
 refine ent_o rfl (ok_extract rfl rfl) ?_
 refine ent_o rfl (ok_extract rfl rfl) ?_
 refine emm rfl ?_
 refine enk K2 ?_
 refine ent_seq fun _ K3 => ?_
 refine ent_frzRows 0 1 rfl rfl (by decide) ?_
 refine ent_give 0 3 rfl (cv_vec (k := 0) (off_erase rfl) (by simp_all) rfl) ?_
 refine ent_region ?_
 refine ent_buildN aInt [1] rfl vt22 (by decide) (⟨0, 1, rfl, .inl ⟨rfl, _, rfl, (one_int _), rfl, rfl⟩⟩) rfl (fun b14_2 => ?_)
 refine emm rfl ?_
 refine enk K3 ?_
 refine ent_seq fun _ K4 => ?_
 refine ent_seq fun _ K5 => ?_
 refine ent_give 0 5 rfl (cv_vec (k := 0) (off_erase rfl) rfl rfl) ?_
 refine ent_region ?_
 refine emm rfl ?_
 refine ent_o rfl (ok_nilCheck rfl) ?_
 refine ent_o rfl (ok_fieldAddr1 runUnderlying84 rfl sizeOf3 rfl rfl) ?_
 refine ent_o rfl (ok_load ti3 rfl) ?_
 refine emm rfl ?_
 refine enk K5 ?_
 refine ent_block ?_
 refine ent_loop (fun (i : Int) => (⟨[(0, aMach c), (3, aSl 1 false aRows (List.take c.Gen.length Y_1)), (5, aSl 1 false aInt (Cnv.pdL (c := c) hF Y_1 i)), (18, aInt c.k), (19, aInt i)], [oVec rb_1 cb_1 42 1 false aH HO_1, oRws 22 aInts [] HO_1 (List.drop c.Gen.length Y_1)]⟩ : St)) (fun (i : Int) => (0 ≤ i) ∧ (i ≤ c.k)) (fun (i : Int) => (c.k - i).toNat) 0 ⟨(by omega), (by omega)⟩ (ent_rep ⟨rfl, rfl, slot_av (av_sl (show [1] = Cnv.pdL (c := c) hF Y_1 (0 : Int) by exact (Cnv.pd_zero _).symm)), rfl, slot_av (av_int (show 0 = (0 : Int) by rfl)), trivial⟩ rfl) ?_
 rintro i ⟨i0, i1⟩
 show Ent _ ⟨_, [_, _]⟩ _
 have lpd := Cnv.pd_len (hF := hF) hLB hkn.2 i0 i1
 refine esr rfl fun _ K6 => ?_
 refine ent_o rfl (ok_lss rfl rfl) ?_
 refine enk K6 ?_
 refine ent_seq fun _ K7 => ?_
 refine ent_condD rfl (fun h20 => ?_) (fun h20 => ?_)
 ·have hti := Cnv.ix_takeL [] Y_1 (k := c.Gen.length) i0 (by omega)
  have hrw := TG.tr.row i i0 (by omega)
  have hent := hLB i i i0 (by omega) i0 (by omega)
  unfold eL at hent
  have hps := Cnv.pd_succ (hF := hF) Y_1 i0
  rw [← hti] at hrw hent hps
  refine esp K7 ?_
  refine ent_seq fun _ K8 => ?_
  refine ent_block ?_
  refine esk rfl ?_
  refine ent_draw 14 mixed (by kernel_rfl) (by kernel_rfl) (by kernel_rfl) ?_
  refine dw_o rfl (ok_move rfl) ?_
  refine dw_o rfl (ok_nilCheck rfl) ?_
  refine dw_o rfl (ok_fieldAddr1 runUnderlying84 rfl sizeOf82 rfl rfl) ?_
  refine dw_o rfl (ok_load ti82 rfl) ?_
  refine dw_o rfl (ok_move rfl) ?_
  refine dw_o rfl (ok_move rfl) ?_
  refine dw_o rfl (ok_move rfl) ?_
  refine dw_o rfl (ok_index [] sl25 rfl rfl (by omega) (by omega)) ?_
  refine dw_o rfl (ok_load ti42 rfl) ?_
  refine dw_o rfl (ok_move rfl) ?_
  refine dw_o rfl (ok_index [] sl42 rfl rfl (by omega) (by omega)) ?_
  refine dw_o rfl (ok_load ti22 rfl) ?_
  refine dw_o rfl (OpOK.as (A := aFull 1 false aInts [Cnv.pdL (c := c) hF Y_1 i, ix [] (ix [] (List.take c.Gen.length Y_1) i) i]) (by exact ok_buildNF aInts [Cnv.pdL (c := c) hF Y_1 i, ix [] (ix [] (List.take c.Gen.length Y_1) i) i] vt42 (by decide) rfl (⟨0, 1, rfl, .inl ⟨rfl, _, rfl, one_sl, rfl, ⟨1, 1, rfl, .inl ⟨rfl, _, rfl, one_sl, rfl, rfl⟩⟩⟩⟩) rfl) aFull_sl) ?_
  refine dw_o rfl (ok_callA (polyMul_ok c.F (Cnv.pdL (c := c) hF Y_1 i) (ix [] (ix [] (List.take c.Gen.length Y_1) i) i) ‹_› (by omega) (by omega)) ⟨arg_a rfl (cv_id sub_refl), arg_a rfl (cv_sl sub_refl rfl), trivial⟩) ?_
  refine dw_nil ?_
  refine emm rfl ?_
  refine enk K8 ?_
  refine ent_region ?_
  refine ent_o rfl (ok_add rfl rfl (by omega) (by omega)) ?_
  refine emm rfl ?_
  refine ent_nil ?_
  refine ent_again (s := (i)) (i + 1) ⟨(by omega), ‹_›⟩ (by omega) (ent_rep ⟨rfl, rfl, slot_av (av_sl (show mulP hF (Cnv.pdL (c := c) hF Y_1 i) (ix [] (ix [] (List.take c.Gen.length Y_1) i) i) = Cnv.pdL (c := c) hF Y_1 (i + 1) by exact hps)), rfl, rfl, trivial⟩ rfl)
 refine ent_exit ?_
 refine ent_k K4 ?_
 refine ent_seq fun _ K10 => ?_
 refine ent_seq fun _ K11 => ?_
 have hpe := Cnv.pd_end hFew TG hkn.2 (i := i) (by omega)
 refine ent_region ?_
 refine emm rfl ?_
 refine ent_o rfl (ok_nilCheck rfl) ?_
 refine ent_o rfl (ok_fieldAddr1 runUnderlying84 rfl sizeOf82 rfl rfl) ?_
 refine ent_o rfl (ok_load ti82 rfl) ?_
 refine emm rfl ?_
 refine ent_o rfl (ok_call (polyMonic_ok c.F (Cnv.pdL (c := c) hF Y_1 i) ‹_› (by omega)) rfl) ?_
 refine emm rfl ?_
 refine ent_o rfl (ok_extract rfl rfl) ?_
 refine ent_o rfl (ok_extract rfl rfl) ?_
 refine emm rfl ?_
 refine enk K11 ?_
 refine esr rfl fun _ K12 => ?_
 refine ent_o rfl (ok_eql rfl rfl) ?_
 refine enk K12 ?_
 refine ent_condD rfl (fun h47 => ?_) (fun h47 => ?_)
 ·refine esk rfl ?_
  refine ent_ret ?_
  exact retR1 (.inr rfl) results75 (resr_tmp (res_cv rfl (cv_sl sub_x (by rw [Cnv.minL_ok hOk (hF := hF)]; exact hpe))))
 refine esp K10 ?_
 refine esk rfl ?_
 refine ent_ret ?_
 exact retR1 (.inr rfl) results75 (resr_tmp (res_cv rfl (cv_nil (fun _ => rfl) (by rw [Cnv.minL_ok hOk (hF := hF), ← hpe]; exact (monP_nil hF (Classical.byContradiction fun hn => h47 (by rw [if_neg hn]))).symm))))
end Go.Proofs.Ytfjhbdfgbpcchaa

