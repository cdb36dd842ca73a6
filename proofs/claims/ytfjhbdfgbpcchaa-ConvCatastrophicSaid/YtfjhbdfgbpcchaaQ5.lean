/-
  Walks of functions of the program and the reference.
-/
import Derived.Test.YtfjhbdfgbpcchaaQ4
open Go Go.Cw
namespace Go.Proofs.Ytfjhbdfgbpcchaa
open Try
set_option maxRecDepth 100000
set_option linter.unusedVariables false
set_option linter.unusedSimpArgs false
theorem rcDet_step (c : Cnv) (N : Nat) (row : Int) (cs : List Int) (hFew : c.Few) (hOk : c.Ok) (hF : FOk c.F) (r0 : 0 ≤ row) (hl : row + cs.length = c.Gen.length) (hN : cs.length = N) (hv : ∀ x ∈ cs, 0 ≤ x ∧ x < c.n) (IH : ∀ (k : Int) (Y : List Int), 0 ≤ k → k + Y.length = c.Gen.length → Y.length < N → (∀ x ∈ Y, 0 ≤ x ∧ x < c.n) → Ctr Try.prog 109 [aCnv c, aInt k, aInts Y] (aInts (lS hF (c.detD hF k Y)))) : Ctr Try.prog 109 [aCnv c, aInt row, aSl 1 false aInt cs] (aSl 1 false aInt (lS hF (c.detD hF row cs))) := by
 have hS := hF.1
 have hik : c.k = (c.Gen.length : Int) := rfl
 have hen : c.n = ((ix [] c.Gen 0).length : Int) := rfl
 have hkn := hOk.kn
 have hnl := hOk.len
 refine ctr_of Try.call109 func109 rfl rfl ?_
 intro w O
 refine ent_lenC 0 2 rfl rfl (fun hlen0_2 => ?_)
 refine ent_lenC 0 3 rfl rfl (fun hlen0_3 => ?_)
 refine ent_len 2 rfl (fun hlen2 => ?_)
 refine esr rfl fun _ K1 => ?_
 refine ent_boxS rfl rfl (AllOne.mem ⟨(one_int _), (one_int _), one_sl, one_sl, trivial⟩) (fun b3_1 => ?_)
 refine emm rfl ?_
 refine enk K1 ?_
 refine ent_seq fun _ K2 => ?_
 refine esr rfl fun _ K3 => ?_
 refine ent_o rfl (ok_fieldAddrEx runUnderlying27 rfl sizeOf25 (by decide) rfl) ?_
 refine ent_o rfl (ok_loadB (k := 0) isAgg25 rfl rfl rfl) ?_
 refine ent_o rfl (ok_len rfl runUnderlying25 rfl) ?_
 refine ent_o rfl (ok_eql rfl rfl) ?_
 refine enk K3 ?_
 refine ent_condD rfl (fun h15 => ?_) (fun h15 => ?_)
 ·refine esr rfl fun _ K4 => ?_
  refine ent_buildN aInt [1] rfl vt22 (by decide) (⟨0, 1, rfl, .inl ⟨rfl, _, rfl, (one_int _), rfl, rfl⟩⟩) rfl (fun b16_2 => ?_)
  refine emm rfl ?_
  refine enk K4 ?_
  refine ent_ret ?_
  exact retR1 (.inr rfl) results109 (resr_tmp (res_cv rfl (cv_vec (k := 0) (off_x rfl) rfl (by rw [c.detD_last hF h15, lS_one]))))
 refine esp K2 ?_
 refine esk rfl ?_
 refine ent_seq fun _ K6 => ?_
 refine esk rfl ?_
 refine ent_block ?_
 refine ent_cv 7 rfl (cv_nil (sz := 1) (agg := false) (enc := aInt) (xs' := []) (fun _ => rfl) rfl) ?_
 refine ent_loop (fun (i : Int) => (⟨[(1, aInt row), (2, aSl 1 false aInt cs), (3, aEx (.pointer (some ⟨b3_1, 0, none⟩))), (7, aSl 1 false aInt (lS hF (c.detS hF row cs i))), (8, aInt i)], [oBox b3_1 27 [aInt c.F.P, aInt c.F.M, aSl 1 false aInt c.F.mod, aSl 1 false aRows c.Gen]]⟩ : St)) (fun (i : Int) => (0 ≤ i) ∧ (i ≤ cs.length)) (fun (i : Int) => (cs.length - i).toNat) 0 ⟨(by omega), (by omega)⟩ (ent_rep ⟨rfl, rfl, rfl, slot_av ((by rw [c.detS_zero, lS_zero])), slot_av (av_int (show 0 = (0 : Int) by rfl)), trivial⟩ rfl) ?_
 rintro i ⟨i0, i1⟩
 show Ent _ ⟨_, [_]⟩ _
 refine ent_seq fun _ K8 => ?_
 refine esr rfl fun _ K9 => ?_
 refine ent_o rfl (ok_len rfl runUnderlying22 rfl) ?_
 refine ent_o rfl (ok_lss rfl rfl) ?_
 refine enk K9 ?_
 refine ent_condD rfl (fun h20 => ?_) (fun h20 => ?_)
 ·have hci := hv _ (ix_mem 0 cs i0 h20)
  have hr1 : row < c.Gen.length := by omega
  have hrow := hOk.row r0 hr1
  have hpl : (ix [] (ix [] c.Gen row) (ix 0 cs i)).length ≤ 40 := by have := (hFew.2 _ (ix_mem [] c.Gen r0 hr1)).2 _ (ix_mem [] (ix [] c.Gen row) hci.1 (by omega)); omega
  have hdl : (lS hF (c.detD hF (row + 1) (Cnv.restC cs i))).length ≤ 2801 := lS_len hF (c.detD_low' hF hFew _ _)
  have hsl : (lS hF (c.detS hF row cs i)).length ≤ 2840 := lS_len hF (c.detS_low hF hFew _ _ _)
  have hml := mulP_len hF (ix [] (ix [] c.Gen row) (ix 0 cs i)) (lS hF (c.detD hF (row + 1) (Cnv.restC cs i)))
  have lrc := Cnv.length_restC i0 h20
  refine esp K8 ?_
  refine ent_seq fun _ K10 => ?_
  refine ent_block ?_
  refine ent_seq fun _ K11 => ?_
  refine ent_drawV1A (e := 3) (enc := aInt) (xs := List.take (i).toNat cs) (ys := List.drop (i + 1).toNat cs) (dy := 31) 9 [] 27 [] [(1, aInt row), (2, aSl 1 false aInt cs), (3, aEx (.pointer (some ⟨b3_1, 0, none⟩))), (7, aSl 1 false aInt (lS hF (c.detS hF row cs i))), (8, aInt i)] mixed (by kernel_rfl) (by kernel_rfl) (by kernel_rfl) (by kernel_rfl) (by kernel_rfl) (fun _ _ _ _ _ h => h) rfl rfl vt22 flat_int (by simp [one_int]) (AllPlS.mem (T := []) trivial) ⟨rfl, rfl, rfl, rfl, rfl, trivial⟩ (by kernel_rfl) read_sl (by simp; omega) (by simp; omega) (fun w => ?_) (fun ra_3 ca_3 r0 c0 => ?_)
  ·refine dw_o rfl (ok_build0F vt22) ?_
   refine dw_o rfl (ok_move rfl) ?_
   refine dw_o rfl (ok_move rfl) ?_
   refine dw_o rfl (ok_sliceTo sl22 rfl rfl (by omega) (by omega)) ?_
   refine dw_o rfl (ok_append0F vt22 (fun _ => pl_ex) rfl rfl (cv_id sub_refl) (by simp only [List.length_take, List.length_drop, List.length_append]; omega) (by simp only [List.length_take, List.length_drop, List.length_append]; omega)) ?_
   refine dw_o rfl (ok_move rfl) ?_
   refine dw_o rfl (ok_move rfl) ?_
   refine dw_o rfl (ok_add rfl rfl (by omega) (by omega)) ?_
   refine dw_o rfl (ok_sliceFrom sl22 rfl rfl (by omega) (by omega)) ?_
   exact ⟨rfl, rfl, trivial⟩
  refine emm rfl ?_
  refine enk K11 ?_
  refine ent_seq fun _ K12 => ?_
  refine ent_give 0 9 rfl (cv_vec (k := 0) (off_erase rfl) rfl rfl) ?_
  refine ent_draw 20 mixed (by kernel_rfl) (by kernel_rfl) (by kernel_rfl) ?_
  refine dw_o rfl (ok_fieldAddrEx runUnderlying27 rfl sizeOf24 (by decide) rfl) ?_
  refine dw_o rfl (ok_loadBS (k := 0) ti24 rfl rfl rfl) ?_
  refine dw_o rfl (ok_fieldAddrEx runUnderlying27 rfl sizeOf25 (by decide) rfl) ?_
  refine dw_o rfl (ok_loadB (k := 0) isAgg25 rfl rfl rfl) ?_
  refine dw_o rfl (ok_move rfl) ?_
  refine dw_o rfl (ok_index [] sl25 rfl rfl (by omega) (by omega)) ?_
  refine dw_o rfl (ok_load ti42 rfl) ?_
  refine dw_o rfl (ok_move rfl) ?_
  refine dw_o rfl (ok_move rfl) ?_
  refine dw_o rfl (ok_index 0 sl22 rfl rfl (by omega) (by omega)) ?_
  refine dw_o rfl (ok_load ti3 rfl) ?_
  refine dw_o rfl (ok_index [] sl42 rfl rfl (by omega) (by omega)) ?_
  refine dw_o rfl (ok_load ti22 rfl) ?_
  refine dw_o rfl (ok_loadBS (k := 0) ti27 rfl rfl rfl) ?_
  refine dw_o rfl (ok_move rfl) ?_
  refine dw_o rfl (ok_add rfl rfl (by omega) (by omega)) ?_
  refine dw_o rfl (ok_move rfl) ?_
  refine dw_o rfl (ok_call (IH (row + 1) (Cnv.restC cs i) (by omega) (by omega) (by omega) (fun x hx => hv x (Cnv.mem_restC hx))) rfl) ?_
  refine dw_o rfl (ok_call (rpMul_ok c.F (ix [] (ix [] c.Gen row) (ix 0 cs i)) (lS hF (c.detD hF (row + 1) (Cnv.restC cs i))) ‹_› (by omega) (by omega)) rfl) ?_
  refine dw_o rfl (ok_assign rfl) ?_
  refine dw_nil ?_
  refine enk K12 ?_
  refine esr rfl fun _ K13 => ?_
  refine ent_o rfl (ok_rem rfl rfl (by omega) (by omega)) ?_
  refine ent_o rfl (ok_eql rfl rfl) ?_
  refine enk K13 ?_
  refine ent_condD rfl (fun h54 => ?_) (fun h54 => ?_)
  ·refine ent_region ?_
   refine ent_o rfl (ok_fieldAddrEx runUnderlying27 rfl sizeOf24 (by decide) rfl) ?_
   refine ent_o rfl (ok_loadBS (k := 0) ti24 rfl rfl rfl) ?_
   refine emm rfl ?_
   refine ent_o rfl (ok_call (rpAdd_ok c.F (lS hF (c.detS hF row cs i)) (mulP hF (ix [] (ix [] c.Gen row) (ix 0 cs i)) (lS hF (c.detD hF (row + 1) (Cnv.restC cs i)))) ‹_› (by omega) (by omega)) rfl) ?_
   refine emm rfl ?_
   refine enk K10 ?_
   refine ent_region ?_
   refine emm rfl ?_
   refine ent_o rfl (ok_add rfl rfl (by omega) (by omega)) ?_
   refine emm rfl ?_
   refine ent_nil ?_
   refine ent_again (s := (i)) (i + 1) ⟨(by omega), ‹_›⟩ (by omega) (ent_rep ⟨rfl, rfl, rfl, slot_av (av_sl (show addP hF (lS hF (c.detS hF row cs i)) (mulP hF (ix [] (ix [] c.Gen row) (ix 0 cs i)) (lS hF (c.detD hF (row + 1) (Cnv.restC cs i)))) = lS hF (c.detS hF row cs (i + 1)) by exact c.det_even hF hFew i0 (by omega))), rfl, trivial⟩ rfl)
  refine ent_region ?_
  refine ent_o rfl (ok_fieldAddrEx runUnderlying27 rfl sizeOf24 (by decide) rfl) ?_
  refine ent_o rfl (ok_loadBS (k := 0) ti24 rfl rfl rfl) ?_
  refine emm rfl ?_
  refine ent_o rfl (ok_call (rpSub_ok c.F (lS hF (c.detS hF row cs i)) (mulP hF (ix [] (ix [] c.Gen row) (ix 0 cs i)) (lS hF (c.detD hF (row + 1) (Cnv.restC cs i)))) ‹_› (by omega) (by omega)) rfl) ?_
  refine emm rfl ?_
  refine enk K10 ?_
  refine ent_region ?_
  refine emm rfl ?_
  refine ent_o rfl (ok_add rfl rfl (by omega) (by omega)) ?_
  refine emm rfl ?_
  refine ent_nil ?_
  refine ent_again (s := (i)) (i + 1) ⟨(by omega), ‹_›⟩ (by omega) (ent_rep ⟨rfl, rfl, rfl, slot_av (av_sl (show subP hF (lS hF (c.detS hF row cs i)) (mulP hF (ix [] (ix [] c.Gen row) (ix 0 cs i)) (lS hF (c.detD hF (row + 1) (Cnv.restC cs i)))) = lS hF (c.detS hF row cs (i + 1)) by exact c.det_odd hF hFew i0 (by omega))), rfl, trivial⟩ rfl)
 refine ent_exit ?_
 refine ent_k K6 ?_
 refine esk rfl ?_
 refine ent_ret ?_
 exact retR1 (.inr rfl) results109 (resr_tmp (res_cv rfl (cv_sl sub_x (by rw [← c.detD_all hF r0 (by omega) hl (i := i) (by omega)]))))

theorem rcDet_ok (c : Cnv) (row : Int) (cs : List Int) (hFew : c.Few) (hOk : c.Ok) (hF : FOk c.F) (r0 : 0 ≤ row) (hl : row + cs.length = c.Gen.length) (hv : ∀ x ∈ cs, 0 ≤ x ∧ x < c.n) : Ctr Try.prog 109 [aCnv c, aInt row, aInts cs] (aInts (lS hF (c.detD hF row cs))) := by
 have key : ∀ (N : Nat) (row : Int) (cs : List Int), 0 ≤ row → row + cs.length = c.Gen.length → cs.length = N → (∀ x ∈ cs, 0 ≤ x ∧ x < c.n) → Ctr Try.prog 109 [aCnv c, aInt row, aInts cs] (aInts (lS hF (c.detD hF row cs))) := by
  intro N
  induction N using Nat.strongRecOn with
  | ind N ih => exact fun row cs r0 hl hN hv => rcDet_step c N row cs hFew hOk hF r0 hl hN hv (fun k Y k0 h1 h2 h3 => ih Y.length h2 k Y k0 h1 rfl h3)
 exact key cs.length row cs r0 hl rfl hv
end Go.Proofs.Ytfjhbdfgbpcchaa

