/-
  Walks of functions of the program and the reference.
-/
import Derived.Test.YtfjhbdfgbpcchaaQ15
open Go Go.Cw
namespace Go.Proofs.Ytfjhbdfgbpcchaa
open Try
set_option maxRecDepth 100000
set_option linter.unusedVariables false
set_option linter.unusedSimpArgs false
theorem rRight_ok (c : Cnv) (R : L3) (hFew : c.Few) (hOk : c.Ok) (hF : FOk c.F) (T : c.RtI hF R) : Ctr Try.prog 47 [aCnv c, aSl 1 false aRows R] (aBool true) := by
 have hS := hF.1
 have hik : c.k = (c.Gen.length : Int) := rfl
 have hen : c.n = ((ix [] c.Gen 0).length : Int) := rfl
 have hkn := hOk.kn
 have hnl := hOk.len
 have hRl := T.len
 refine ctr_of Try.call47 func47 rfl rfl ?_
 intro w O
 refine ent_lenC 0 2 rfl rfl (fun hlen0_2 => ?_)
 refine ent_lenC 0 3 rfl rfl (fun hlen0_3 => ?_)
 refine ent_len 1 rfl (fun hlen1 => ?_)
 refine esr rfl fun _ K1 => ?_
 refine ent_boxS rfl rfl (AllOne.mem ⟨(one_int _), (one_int _), one_sl, one_sl, trivial⟩) (fun b2_1 => ?_)
 refine emm rfl ?_
 refine enk K1 ?_
 refine ent_seq fun _ K2 => ?_
 refine esr rfl fun _ K3 => ?_
 refine ent_o rfl (ok_len rfl runUnderlying25 rfl) ?_
 refine ent_o rfl (ok_fieldAddrEx runUnderlying27 rfl sizeOf25 (by decide) rfl) ?_
 refine ent_o rfl (ok_loadB (k := 0) isAgg25 rfl rfl rfl) ?_
 refine ent_o rfl (ok_index [] sl25 rfl rfl (by omega) (by omega)) ?_
 refine ent_o rfl (ok_load ti42 rfl) ?_
 refine ent_o rfl (ok_len rfl runUnderlying42 rfl) ?_
 refine ent_o rfl (ok_neq rfl rfl) ?_
 refine enk K3 ?_
 refine ent_condD rfl (fun h17 => ?_) (fun h17 => ?_)
 ·omega
 refine esp K2 ?_
 refine ent_seq fun _ K4 => ?_
 refine esk rfl ?_
 refine ent_block ?_
 refine ent_loop (fun (t : Int) => (⟨[(1, aSl 1 false aRows R), (2, aEx (.pointer (some ⟨b2_1, 0, none⟩))), (5, aInt t)], [oBox b2_1 27 [aInt c.F.P, aInt c.F.M, aSl 1 false aInt c.F.mod, aSl 1 false aRows c.Gen]]⟩ : St)) (fun (t : Int) => (0 ≤ t) ∧ (t ≤ c.n)) (fun (t : Int) => (c.n - t).toNat) 0 ⟨(by omega), (by omega)⟩ (ent_rep ⟨rfl, rfl, slot_av (av_int (show 0 = (0 : Int) by rfl)), trivial⟩ rfl) ?_
 rintro t ⟨t0, t1⟩
 show Ent _ ⟨_, [_]⟩ _
 refine ent_seq fun _ K6 => ?_
 refine esr rfl fun _ K7 => ?_
 refine ent_o rfl (ok_len rfl runUnderlying25 rfl) ?_
 refine ent_o rfl (ok_lss rfl rfl) ?_
 refine enk K7 ?_
 refine ent_condD rfl (fun h21 => ?_) (fun h21 => ?_)
 ·have hrt := T.row t t0 (by omega)
  refine esp K6 ?_
  refine ent_seq fun _ K8 => ?_
  refine ent_block ?_
  refine ent_seq fun _ K9 => ?_
  refine ent_seq fun _ K10 => ?_
  refine ent_draw 9 mixed (by kernel_rfl) (by kernel_rfl) (by kernel_rfl) ?_
  refine dw_o rfl (ok_move rfl) ?_
  refine dw_o rfl (ok_move rfl) ?_
  refine dw_o rfl (ok_index [] sl25 rfl rfl (by omega) (by omega)) ?_
  refine dw_o rfl (ok_load ti42 rfl) ?_
  refine dw_o rfl (ok_len rfl runUnderlying42 rfl) ?_
  refine dw_o rfl (ok_fieldAddrEx runUnderlying27 rfl sizeOf25 (by decide) rfl) ?_
  refine dw_o rfl (ok_loadB (k := 0) isAgg25 rfl rfl rfl) ?_
  refine dw_o rfl (ok_len rfl runUnderlying25 rfl) ?_
  refine dw_o rfl (ok_neq rfl rfl) ?_
  refine dw_nil ?_
  refine enk K10 ?_
  refine ent_condD rfl (fun h32 => ?_) (fun h32 => ?_)
  ·omega
  refine esp K9 ?_
  refine esk rfl ?_
  refine ent_block ?_
  refine ent_loop (fun (j : Int) => (⟨[(1, aSl 1 false aRows R), (2, aEx (.pointer (some ⟨b2_1, 0, none⟩))), (5, aInt t), (6, aInt j)], [oBox b2_1 27 [aInt c.F.P, aInt c.F.M, aSl 1 false aInt c.F.mod, aSl 1 false aRows c.Gen]]⟩ : St)) (fun (j : Int) => (0 ≤ j) ∧ (j ≤ c.k)) (fun (j : Int) => (c.k - j).toNat) 0 ⟨(by omega), (by omega)⟩ (ent_rep ⟨rfl, rfl, rfl, slot_av (av_int (show 0 = (0 : Int) by rfl)), trivial⟩ rfl) ?_
  rintro j ⟨j0, j1⟩
  show Ent _ ⟨_, [_]⟩ _
  refine ent_seq fun _ K12 => ?_
  refine esr rfl fun _ K13 => ?_
  refine ent_o rfl (ok_index [] sl25 rfl rfl (by omega) (by omega)) ?_
  refine ent_o rfl (ok_load ti42 rfl) ?_
  refine ent_o rfl (ok_len rfl runUnderlying42 rfl) ?_
  refine ent_o rfl (ok_lss rfl rfl) ?_
  refine enk K13 ?_
  refine ent_condD rfl (fun h39 => ?_) (fun h39 => ?_)
  ·have hcn := T.cn t j t0 (by omega) j0 (by omega)
   have hel := T.lb t j t0 (by omega) j0 (by omega)
   unfold eL at hcn hel
   refine esp K12 ?_
   refine ent_seq fun _ K14 => ?_
   refine ent_block ?_
   refine ent_seq fun _ K15 => ?_
   refine ent_draw 19 mixed (by kernel_rfl) (by kernel_rfl) (by kernel_rfl) ?_
   refine dw_o rfl (ok_move rfl) ?_
   refine dw_o rfl (ok_move rfl) ?_
   refine dw_o rfl (ok_index [] sl25 rfl rfl (by omega) (by omega)) ?_
   refine dw_o rfl (ok_load ti42 rfl) ?_
   refine dw_o rfl (ok_move rfl) ?_
   refine dw_o rfl (ok_index [] sl42 rfl rfl (by omega) (by omega)) ?_
   refine dw_o rfl (ok_load ti22 rfl) ?_
   refine dw_o rfl (ok_fieldAddrEx runUnderlying27 rfl sizeOf24 (by decide) rfl) ?_
   refine dw_o rfl (ok_loadBS (k := 0) ti24 rfl rfl rfl) ?_
   refine dw_o rfl (ok_move rfl) ?_
   refine dw_o rfl (ok_move rfl) ?_
   refine dw_o rfl (ok_index [] sl25 rfl rfl (by omega) (by omega)) ?_
   refine dw_o rfl (ok_load ti42 rfl) ?_
   refine dw_o rfl (ok_move rfl) ?_
   refine dw_o rfl (ok_index [] sl42 rfl rfl (by omega) (by omega)) ?_
   refine dw_o rfl (ok_load ti22 rfl) ?_
   refine dw_o rfl (ok_call (rpCanon_ok c.F (ix [] (ix [] R t) j) hF (by omega)) rfl) ?_
   refine dw_o rfl (ok_call (SameInts_ok (ix [] (ix [] R t) j) (cnrP hF (ix [] (ix [] R t) j))) rfl) ?_
   refine dw_o rfl (ok_notD rfl) ?_
   refine dw_nil ?_
   refine enk K15 ?_
   refine ent_condD rfl (fun h60 => ?_) (fun h60 => ?_)
   ·exact absurd (cnrP_id hF hcn).symm h60
   refine esp K14 ?_
   refine ent_region ?_
   refine emm rfl ?_
   refine ent_o rfl (ok_add rfl rfl (by omega) (by omega)) ?_
   refine emm rfl ?_
   refine ent_nil ?_
   refine ent_again (s := (j)) (j + 1) ⟨(by omega), (by omega)⟩ (by omega) (ent_rep ⟨rfl, rfl, rfl, rfl, trivial⟩ rfl)
  refine ent_exit ?_
  refine ent_k K8 ?_
  refine ent_region ?_
  refine emm rfl ?_
  refine ent_o rfl (ok_add rfl rfl (by omega) (by omega)) ?_
  refine emm rfl ?_
  refine ent_nil ?_
  refine ent_again (s := (t)) (t + 1) ⟨(by omega), (by omega)⟩ (by omega) (ent_rep ⟨rfl, rfl, rfl, trivial⟩ rfl)
 refine ent_exit ?_
 refine ent_k K4 ?_
 refine esr rfl fun _ K16 => ?_
 refine ent_o rfl (ok_fieldAddrEx runUnderlying27 rfl sizeOf24 (by decide) rfl) ?_
 refine ent_o rfl (ok_loadBS (k := 0) ti24 rfl rfl rfl) ?_
 refine ent_o rfl (ok_fieldAddrEx runUnderlying27 rfl sizeOf25 (by decide) rfl) ?_
 refine ent_o rfl (ok_loadB (k := 0) isAgg25 rfl rfl rfl) ?_
 refine emm rfl ?_
 refine ent_o rfl (ok_call (rTimes_ok c R ‹_› ‹_› ‹_› T) rfl) ?_
 refine emm rfl ?_
 refine enk K16 ?_
 refine ent_seq fun _ K17 => ?_
 refine esk rfl ?_
 refine ent_block ?_
 have hTl : ((c.timL hF R).length : Int) = c.k := by unfold Cnv.timL; rw [length_mapR]; omega
 refine ent_loop (fun (i : Int) => (⟨[(7, aSl 1 false aRows (c.timL hF R)), (8, aInt i)], [oBox b2_1 27 [aInt c.F.P, aInt c.F.M, aSl 1 false aInt c.F.mod, aSl 1 false aRows c.Gen]]⟩ : St)) (fun (i : Int) => (0 ≤ i) ∧ (i ≤ c.k)) (fun (i : Int) => (c.k - i).toNat) 0 ⟨(by omega), (by omega)⟩ (ent_rep ⟨rfl, slot_av (av_int (show 0 = (0 : Int) by rfl)), trivial⟩ rfl) ?_
 rintro i ⟨i0, i1⟩
 show Ent _ ⟨_, [_]⟩ _
 refine ent_seq fun _ K19 => ?_
 refine esr rfl fun _ K20 => ?_
 refine ent_o rfl (ok_len rfl runUnderlying25 rfl) ?_
 refine ent_o rfl (ok_lss rfl rfl) ?_
 refine enk K20 ?_
 refine ent_condD rfl (fun h70 => ?_) (fun h70 => ?_)
 ·have hti : ix [] (c.timL hF R) i = mapR (fun j => lS hF (c.timS hF R i j c.n)) c.k := ix_mapR [] _ i0 (by omega)
  have hlti : ((ix [] (c.timL hF R) i).length : Int) = c.k := by rw [hti, length_mapR]; omega
  refine esp K19 ?_
  refine ent_seq fun _ K21 => ?_
  refine ent_block ?_
  refine esk rfl ?_
  refine ent_block ?_
  refine ent_loop (fun (j : Int) => (⟨[(7, aSl 1 false aRows (c.timL hF R)), (8, aInt i), (9, aInt j)], [oBox b2_1 27 [aInt c.F.P, aInt c.F.M, aSl 1 false aInt c.F.mod, aSl 1 false aRows c.Gen]]⟩ : St)) (fun (j : Int) => (0 ≤ j) ∧ (j ≤ c.k)) (fun (j : Int) => (c.k - j).toNat) 0 ⟨(by omega), (by omega)⟩ (ent_rep ⟨rfl, rfl, slot_av (av_int (show 0 = (0 : Int) by rfl)), trivial⟩ rfl) ?_
  rintro j ⟨j0, j1⟩
  show Ent _ ⟨_, [_]⟩ _
  refine ent_seq fun _ K23 => ?_
  refine esr rfl fun _ K24 => ?_
  refine ent_o rfl (ok_index [] sl25 rfl rfl (by omega) (by omega)) ?_
  refine ent_o rfl (ok_load ti42 rfl) ?_
  refine ent_o rfl (ok_len rfl runUnderlying42 rfl) ?_
  refine ent_o rfl (ok_lss rfl rfl) ?_
  refine enk K24 ?_
  refine ent_condD rfl (fun h79 => ?_) (fun h79 => ?_)
  ·have hte : (ix [] (ix [] (c.timL hF R) i) j) = if j = i then [1] else [] := by rw [hti, ix_mapR [] _ j0 (by omega)]; exact Cnv.timS_done T i0 (by omega) j0 (by omega)
   refine esp K23 ?_
   refine ent_seq fun _ K25 => ?_
   refine ent_block ?_
   refine esr rfl fun _ K26 => ?_
   refine ent_o rfl (ok_eql rfl rfl) ?_
   refine emm rfl ?_
   refine ent_guardXDt rfl rfl rfl rfl (fun hg85 => ?_) (fun hg85 => ?_)
   ·refine emm rfl ?_
    refine ent_guardXT rfl rfl rfl rfl (decide_eq_true hg85) ?_
    refine emm rfl ?_
    refine ent_guardXT rfl rfl rfl rfl (decide_eq_true hg85) ?_
    refine ent_o rfl (ok_index [] sl25 rfl rfl (by omega) (by omega)) ?_
    refine ent_guardXT rfl rfl rfl rfl (decide_eq_true hg85) ?_
    refine ent_o rfl (ok_load ti42 rfl) ?_
    refine ent_guardXT rfl rfl rfl rfl (decide_eq_true hg85) ?_
    refine emm rfl ?_
    refine ent_guardXT rfl rfl rfl rfl (decide_eq_true hg85) ?_
    refine ent_o rfl (ok_index [] sl42 rfl rfl (by omega) (by omega)) ?_
    refine ent_guardXT rfl rfl rfl rfl (decide_eq_true hg85) ?_
    refine ent_o rfl (ok_load ti22 rfl) ?_
    refine ent_guardXT rfl rfl rfl rfl (decide_eq_true hg85) ?_
    refine ent_buildN aInt [1] rfl vt22 (by decide) (⟨0, 1, rfl, .inl ⟨rfl, _, rfl, (one_int _), rfl, rfl⟩⟩) rfl (fun b93_2 => ?_)
    refine ent_guardXT rfl rfl rfl rfl (decide_eq_true hg85) ?_
    refine ent_o rfl (ok_callP [0] (by exact pl_ex) (SameInts_ok (ix [] (ix [] (c.timL hF R) i) j) [1]) ⟨arg_a rfl (cv_id (sub_lent _)), arg_a rfl (cv_vec (k := 0) (off_lent rfl (by decide)) rfl rfl), trivial⟩) ?_
    refine ent_guardXT rfl rfl rfl rfl (decide_eq_true hg85) ?_
    refine ent_o rfl (ok_notD rfl) ?_
    refine ent_o rfl (ok_pickT rfl (decide_eq_true hg85) rfl) ?_
    refine emm rfl ?_
    refine ent_guardXDf rfl rfl rfl rfl (fun hg97 => ?_) (fun hg97 => ?_)
    ·refine emm rfl ?_
     refine ent_guardXT rfl rfl rfl rfl (decide_eq_false hg97) ?_
     refine emm rfl ?_
     refine ent_guardXT rfl rfl rfl rfl (decide_eq_false hg97) ?_
     refine ent_o rfl (ok_neq rfl rfl) ?_
     refine ent_guardXT rfl rfl rfl rfl (decide_eq_false hg97) ?_
     refine emm rfl ?_
     refine ent_guardXDt rfl rfl rfl rfl (fun hg101 => ?_) (fun hg101 => ?_)
     ·refine emm rfl ?_
      refine ent_guardXT rfl rfl rfl rfl (decide_eq_true hg101) ?_
      refine emm rfl ?_
      refine ent_guardXT rfl rfl rfl rfl (decide_eq_true hg101) ?_
      refine ent_o rfl (ok_index [] sl25 rfl rfl (by omega) (by omega)) ?_
      refine ent_guardXT rfl rfl rfl rfl (decide_eq_true hg101) ?_
      refine ent_o rfl (ok_load ti42 rfl) ?_
      refine ent_guardXT rfl rfl rfl rfl (decide_eq_true hg101) ?_
      refine emm rfl ?_
      refine ent_guardXT rfl rfl rfl rfl (decide_eq_true hg101) ?_
      refine ent_o rfl (ok_index [] sl42 rfl rfl (by omega) (by omega)) ?_
      refine ent_guardXT rfl rfl rfl rfl (decide_eq_true hg101) ?_
      refine ent_o rfl (ok_load ti22 rfl) ?_
      refine ent_guardXT rfl rfl rfl rfl (decide_eq_true hg101) ?_
      refine ent_o rfl (ok_len rfl runUnderlying22 rfl) ?_
      refine ent_guardXT rfl rfl rfl rfl (decide_eq_true hg101) ?_
      refine ent_o rfl (ok_neq rfl rfl) ?_
      refine ent_guardXT rfl rfl rfl rfl (decide_eq_false hg97) ?_
      refine ent_o rfl (ok_pickT rfl (decide_eq_true hg101) rfl) ?_
      refine ent_o rfl (ok_pickF rfl (decide_eq_false hg97) rfl) ?_
      refine enk K26 ?_
      refine ent_condD rfl (fun h112 => ?_) (fun h112 => ?_)
      ·first | exact absurd (by rw [hte, if_neg (fun e2 => hg85 e2.symm)]; rfl) h112 | exact absurd hg85 hg101
      refine esp K25 ?_
      refine ent_region ?_
      refine emm rfl ?_
      refine ent_o rfl (ok_add rfl rfl (by omega) (by omega)) ?_
      refine emm rfl ?_
      refine ent_nil ?_
      refine ent_drop 0 ?_
      refine ent_again (s := (j)) (j + 1) ⟨(by omega), (by omega)⟩ (by omega) (ent_rep ⟨rfl, rfl, rfl, trivial⟩ rfl)
     refine ent_guardXF rfl rfl rfl rfl (decide_eq_false hg101) ?_
     refine ent_guardXF rfl rfl rfl rfl (decide_eq_false hg101) ?_
     refine ent_guardXF rfl rfl rfl rfl (decide_eq_false hg101) ?_
     refine ent_guardXF rfl rfl rfl rfl (decide_eq_false hg101) ?_
     refine ent_guardXF rfl rfl rfl rfl (decide_eq_false hg101) ?_
     refine ent_guardXF rfl rfl rfl rfl (decide_eq_false hg101) ?_
     refine ent_guardXF rfl rfl rfl rfl (decide_eq_false hg101) ?_
     refine ent_guardXF rfl rfl rfl rfl (decide_eq_false hg101) ?_
     refine ent_guardXT rfl rfl rfl rfl (decide_eq_false hg97) ?_
     refine ent_o rfl (ok_pickF rfl (decide_eq_false hg101) rfl) ?_
     refine ent_o rfl (ok_pickF rfl (decide_eq_false hg97) rfl) ?_
     refine enk K26 ?_
     refine ent_condF rfl ?_
     refine esp K25 ?_
     refine ent_region ?_
     refine emm rfl ?_
     refine ent_o rfl (ok_add rfl rfl (by omega) (by omega)) ?_
     refine emm rfl ?_
     refine ent_nil ?_
     refine ent_drop 0 ?_
     refine ent_again (s := (j)) (j + 1) ⟨(by omega), (by omega)⟩ (by omega) (ent_rep ⟨rfl, rfl, rfl, trivial⟩ rfl)
    refine ent_guardXF rfl rfl rfl rfl (decide_eq_true hg97) ?_
    refine ent_guardXF rfl rfl rfl rfl (decide_eq_true hg97) ?_
    refine ent_guardXF rfl rfl rfl rfl (decide_eq_true hg97) ?_
    refine ent_guardU rfl rfl rfl rfl ?_
    refine ent_guardU rfl rfl rfl rfl ?_
    refine ent_guardU rfl rfl rfl rfl ?_
    refine ent_guardU rfl rfl rfl rfl ?_
    refine ent_guardU rfl rfl rfl rfl ?_
    refine ent_guardU rfl rfl rfl rfl ?_
    refine ent_guardU rfl rfl rfl rfl ?_
    refine ent_guardU rfl rfl rfl rfl ?_
    refine ent_guardU rfl rfl rfl rfl ?_
    refine ent_guardXF rfl rfl rfl rfl (decide_eq_true hg97) ?_
    refine ent_o rfl (ok_pickT rfl (decide_eq_true hg97) rfl) ?_
    refine enk K26 ?_
    refine ent_condT rfl ?_
    refine esk rfl ?_
    refine ent_ret ?_
    exact absurd (by rw [hte, if_pos hg85.symm]) hg97
   refine ent_guardXF rfl rfl rfl rfl (decide_eq_false hg85) ?_
   refine ent_guardXF rfl rfl rfl rfl (decide_eq_false hg85) ?_
   refine ent_guardXF rfl rfl rfl rfl (decide_eq_false hg85) ?_
   refine ent_guardXF rfl rfl rfl rfl (decide_eq_false hg85) ?_
   refine ent_guardXF rfl rfl rfl rfl (decide_eq_false hg85) ?_
   refine ent_guardXF rfl rfl rfl rfl (decide_eq_false hg85) ?_
   refine ent_guardXF rfl rfl rfl rfl (decide_eq_false hg85) ?_
   refine ent_guardXF rfl rfl rfl rfl (decide_eq_false hg85) ?_
   refine ent_guardXF rfl rfl rfl rfl (decide_eq_false hg85) ?_
   refine ent_o rfl (ok_pickF rfl (decide_eq_false hg85) rfl) ?_
   refine emm rfl ?_
   refine ent_guardXT rfl rfl rfl rfl rfl ?_
   refine emm rfl ?_
   refine ent_guardXT rfl rfl rfl rfl rfl ?_
   refine emm rfl ?_
   refine ent_guardXT rfl rfl rfl rfl rfl ?_
   refine ent_o rfl (ok_neq rfl rfl) ?_
   refine ent_guardXT rfl rfl rfl rfl rfl ?_
   refine emm rfl ?_
   refine ent_guardXDt rfl rfl rfl rfl (fun hg101 => ?_) (fun hg101 => ?_)
   ·refine emm rfl ?_
    refine ent_guardXT rfl rfl rfl rfl (decide_eq_true hg101) ?_
    refine emm rfl ?_
    refine ent_guardXT rfl rfl rfl rfl (decide_eq_true hg101) ?_
    refine ent_o rfl (ok_index [] sl25 rfl rfl (by omega) (by omega)) ?_
    refine ent_guardXT rfl rfl rfl rfl (decide_eq_true hg101) ?_
    refine ent_o rfl (ok_load ti42 rfl) ?_
    refine ent_guardXT rfl rfl rfl rfl (decide_eq_true hg101) ?_
    refine emm rfl ?_
    refine ent_guardXT rfl rfl rfl rfl (decide_eq_true hg101) ?_
    refine ent_o rfl (ok_index [] sl42 rfl rfl (by omega) (by omega)) ?_
    refine ent_guardXT rfl rfl rfl rfl (decide_eq_true hg101) ?_
    refine ent_o rfl (ok_load ti22 rfl) ?_
    refine ent_guardXT rfl rfl rfl rfl (decide_eq_true hg101) ?_
    refine ent_o rfl (ok_len rfl runUnderlying22 rfl) ?_
    refine ent_guardXT rfl rfl rfl rfl (decide_eq_true hg101) ?_
    refine ent_o rfl (ok_neq rfl rfl) ?_
    refine ent_guardXT rfl rfl rfl rfl rfl ?_
    refine ent_o rfl (ok_pickT rfl (decide_eq_true hg101) rfl) ?_
    refine ent_o rfl (ok_pickF rfl rfl rfl) ?_
    refine enk K26 ?_
    refine ent_condD rfl (fun h112 => ?_) (fun h112 => ?_)
    ·first | exact absurd (by rw [hte, if_neg (fun e2 => hg85 e2.symm)]; rfl) h112 | exact absurd hg85 hg101
    refine esp K25 ?_
    refine ent_region ?_
    refine emm rfl ?_
    refine ent_o rfl (ok_add rfl rfl (by omega) (by omega)) ?_
    refine emm rfl ?_
    refine ent_nil ?_
    refine ent_again (s := (j)) (j + 1) ⟨(by omega), (by omega)⟩ (by omega) (ent_rep ⟨rfl, rfl, rfl, trivial⟩ rfl)
   refine ent_guardXF rfl rfl rfl rfl (decide_eq_false hg101) ?_
   refine ent_guardXF rfl rfl rfl rfl (decide_eq_false hg101) ?_
   refine ent_guardXF rfl rfl rfl rfl (decide_eq_false hg101) ?_
   refine ent_guardXF rfl rfl rfl rfl (decide_eq_false hg101) ?_
   refine ent_guardXF rfl rfl rfl rfl (decide_eq_false hg101) ?_
   refine ent_guardXF rfl rfl rfl rfl (decide_eq_false hg101) ?_
   refine ent_guardXF rfl rfl rfl rfl (decide_eq_false hg101) ?_
   refine ent_guardXF rfl rfl rfl rfl (decide_eq_false hg101) ?_
   refine ent_guardXT rfl rfl rfl rfl rfl ?_
   refine ent_o rfl (ok_pickF rfl (decide_eq_false hg101) rfl) ?_
   refine ent_o rfl (ok_pickF rfl rfl rfl) ?_
   refine enk K26 ?_
   refine ent_condF rfl ?_
   refine esp K25 ?_
   refine ent_region ?_
   refine emm rfl ?_
   refine ent_o rfl (ok_add rfl rfl (by omega) (by omega)) ?_
   refine emm rfl ?_
   refine ent_nil ?_
   refine ent_again (s := (j)) (j + 1) ⟨(by omega), (by omega)⟩ (by omega) (ent_rep ⟨rfl, rfl, rfl, trivial⟩ rfl)
  refine ent_exit ?_
  refine ent_k K21 ?_
  refine ent_region ?_
  refine emm rfl ?_
  refine ent_o rfl (ok_add rfl rfl (by omega) (by omega)) ?_
  refine emm rfl ?_
  refine ent_nil ?_
  refine ent_again (s := (i)) (i + 1) ⟨(by omega), (by omega)⟩ (by omega) (ent_rep ⟨rfl, rfl, trivial⟩ rfl)
 refine ent_exit ?_
 refine ent_k K17 ?_
 refine esk rfl ?_
 refine ent_ret ?_
 exact retR1 (.inr rfl) results47 (resr_tmp (res_cv rfl (cv_bool rfl)))
end Go.Proofs.Ytfjhbdfgbpcchaa

