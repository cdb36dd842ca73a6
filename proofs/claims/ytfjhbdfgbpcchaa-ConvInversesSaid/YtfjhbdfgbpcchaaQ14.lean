/-
  Walks of functions of the program and the reference.
-/
import Derived.Test.YtfjhbdfgbpcchaaQ13
open Go Go.Cw
namespace Go.Proofs.Ytfjhbdfgbpcchaa
open Try
set_option maxRecDepth 100000
set_option linter.unusedVariables false
set_option linter.unusedSimpArgs false
theorem Inverse_no (c : Cnv) (hFew : c.Few) (hOk : c.Ok) (hF : FOk c.F) (hk3 : c.k ≤ 3) (hn6 : c.n ≤ 6) (hm : c.minL.length ≠ 1) : Ctr Try.prog 46 [aCnv c] (aTup [aSl 1 false aRows [], aInt 11]) := by
 have hS := hF.1
 have hik : c.k = (c.Gen.length : Int) := rfl
 have hkn := hOk.kn
 refine ctr_of Try.call46 func46 rfl rfl ?_
 intro w O
 refine ent_lenC 0 2 rfl rfl (fun hlen0_2 => ?_)
 refine ent_lenC 0 3 rfl rfl (fun hlen0_3 => ?_)
 refine esr rfl fun _ K1 => ?_
 refine ent_boxS rfl rfl (AllOne.mem ⟨(one_int _), (one_int _), one_sl, one_sl, trivial⟩) (fun b1_1 => ?_)
 refine emm rfl ?_
 refine enk K1 ?_
 refine esr rfl fun _ K2 => ?_
 refine ent_o rfl (ok_loadBS (k := 0) ti27 rfl rfl rfl) ?_
 refine ent_o rfl (ok_call (build_ok c ‹_› hOk) rfl) ?_
 refine emm rfl ?_
 refine ent_o rfl (ok_extract rfl rfl) ?_
 refine ent_o rfl (ok_extract rfl rfl) ?_
 refine emm rfl ?_
 refine enk K2 ?_
 refine ent_seq fun _ K3 => ?_
 refine esr rfl fun _ K4 => ?_
 refine ent_o rfl (ok_neq rfl rfl) ?_
 refine enk K4 ?_
 refine ent_condFP rfl (by decide) ?_
 refine esp K3 ?_
 refine ent_seq fun _ K5 => ?_
 refine esr rfl fun _ K6 => ?_
 refine ent_o rfl (ok_call (minors_ok c ‹_› ‹_› ‹_› ‹_› ‹_›) rfl) ?_
 refine ent_o rfl (ok_len rfl runUnderlying22 rfl) ?_
 refine ent_o rfl (ok_neq rfl rfl) ?_
 refine enk K6 ?_
 refine ent_condD rfl (fun h32 => ?_) (fun h32 => ?_)
 ·refine esk rfl ?_
  refine ent_ret ?_
  exact retR2 (.inr rfl) results46 (resr_tmp (res_cv rfl (cv_nil (fun _ => rfl) rfl))) (resr_tmp (res_cv rfl (cv_int rfl)))
 omega

set_option maxHeartbeats 1000000 in
theorem Inverse_ok (c : Cnv) (hFew : c.Few) (hOk : c.Ok) (hF : FOk c.F) (hk3 : c.k ≤ 3) (hn6 : c.n ≤ 6) (hm : c.minL.length = 1) : Ctr Try.prog 46 [aCnv c] (aTup [aExi (fun (R : L3) => c.RtI hF R) (fun (R : L3) => aSl 1 false aRows R), aInt 0]) := by
 have hS := hF.1
 have hik : c.k = (c.Gen.length : Int) := rfl
 have hkn := hOk.kn
 refine ctr_of Try.call46 func46 rfl rfl ?_
 intro w O
 refine ent_lenC 0 2 rfl rfl (fun hlen0_2 => ?_)
 refine ent_lenC 0 3 rfl rfl (fun hlen0_3 => ?_)
 refine esr rfl fun _ K1 => ?_
 refine ent_boxS rfl rfl (AllOne.mem ⟨(one_int _), (one_int _), one_sl, one_sl, trivial⟩) (fun b1_1 => ?_)
 refine emm rfl ?_
 refine enk K1 ?_
 refine esr rfl fun _ K2 => ?_
 refine ent_o rfl (ok_loadBS (k := 0) ti27 rfl rfl rfl) ?_
 refine ent_o rfl (ok_call (build_ok c ‹_› hOk) rfl) ?_
 refine emm rfl ?_
 refine ent_o rfl (ok_extract rfl rfl) ?_
 refine ent_o rfl (ok_extract rfl rfl) ?_
 refine emm rfl ?_
 refine enk K2 ?_
 refine ent_seq fun _ K3 => ?_
 refine esr rfl fun _ K4 => ?_
 refine ent_o rfl (ok_neq rfl rfl) ?_
 refine enk K4 ?_
 refine ent_condFP rfl (by decide) ?_
 refine esp K3 ?_
 refine ent_seq fun _ K5 => ?_
 refine esr rfl fun _ K6 => ?_
 refine ent_o rfl (ok_call (minors_ok c ‹_› ‹_› ‹_› ‹_› ‹_›) rfl) ?_
 refine ent_o rfl (ok_len rfl runUnderlying22 rfl) ?_
 refine ent_o rfl (ok_neq rfl rfl) ?_
 refine enk K6 ?_
 refine ent_condD rfl (fun h32 => ?_) (fun h32 => ?_)
 ·omega
 refine esp K5 ?_
 refine esr rfl fun _ K7 => ?_
 refine ent_callW (rs := [oBox b1_1 27 [aInt c.F.P, aInt c.F.M, aSl 1 false aInt c.F.mod, aSl 1 false aRows c.Gen]]) [] rfl (triangle_ok c ‹_› ‹_› ‹_› ‹_› ‹_›) rfl rfl (.inl rfl) ⟨arg_a rfl (cv_id (sub_lent _)), trivial⟩ ?_
 rintro ⟨ra_2, ca_2, HL_2, rb_2, cb_2, HO_2, Y_2⟩ h35_2
 show Ent _ ⟨_ :: _, [_, _, _, _, _]⟩ _
 obtain ⟨hHL, hHO, _, TG⟩ := h35_2
 have hHH : ((HL_2 ++ HO_2).length : Int) = c.k + c.n := by rw [List.length_append]; omega
 have hLB := TG.shortE
 have hXl := TG.tr.len
 refine emm rfl ?_
 refine ent_o rfl (ok_extract rfl rfl) ?_
 refine ent_o rfl (ok_extract rfl rfl) ?_
 refine emm rfl ?_
 refine enk K7 ?_
 refine esr rfl fun _ K8 => ?_
 refine ent_open 42 1 false aH (fun _ => rfl) ?_
 refine ent_rows0 22 aInts ?_
 refine ent_appendW (k := 1) (hone := fun _ _ => one_ex rfl) rfl vt25 rfl rfl rfl rfl flat_H (cv_vec (k := 2) (off_lent (ls := [2]) rfl (by decide)) rfl rfl) (by simp only [List.length_append, List.length_cons, List.length_nil]; omega) (by simp only [List.length_append, List.length_cons, List.length_nil]; omega) (fun r39_3 cr39_3 => ?_)
 refine emm rfl ?_
 refine ent_appendW (k := 1) (hone := fun _ _ => one_ex rfl) rfl vt25 rfl rfl rfl rfl flat_H (cv_vec (k := 4) (off_lent (ls := [4]) rfl (by decide)) rfl rfl) (by simp only [List.length_append, List.length_cons, List.length_nil]; omega) (by simp only [List.length_append, List.length_cons, List.length_nil]; omega) (fun r41_4 cr41_4 => ?_)
 refine emm rfl ?_
 refine enk K8 ?_
 refine ent_seq fun _ K9 => ?_
 refine ent_seq fun _ K10 => ?_
 refine ent_drop 0 ?_
 refine ent_joinRows 2 4 rfl rfl (by decide) ?_
 show Ent _ ⟨_, [_, _, _, _, _]⟩ _
 refine ent_region ?_
 refine emm rfl ?_
 refine ent_o rfl (ok_nilCheck rfl) ?_
 refine ent_o rfl (ok_fieldAddr1 runUnderlying84 rfl sizeOf3 rfl rfl) ?_
 refine ent_o rfl (ok_load ti3 rfl) ?_
 refine emm rfl ?_
 refine enk K10 ?_
 refine ent_block ?_
 refine ent_loop (fun (ss : Int × L3) => match ss with | (i, Z) => (⟨[(4, aMach c), (6, aEx (vec ra_2 HL_2.length ca_2)), (7, aEx (vec rb_2 HO_2.length cb_2)), (8, aEx (vec r41_4 ((HL_2 ++ HO_2).length) cr41_4)), (45, aInt c.k), (46, aInt i)], [oVec r41_4 cr41_4 42 1 false aH (HL_2 ++ HO_2), oVec ra_2 ca_2 42 1 false aH HL_2, oRws 22 aInts [] (HL_2 ++ HO_2) Z, oVec rb_2 cb_2 42 1 false aH HO_2, oBox b1_1 27 [aInt c.F.P, aInt c.F.M, aSl 1 false aInt c.F.mod, aSl 1 false aRows c.Gen]]⟩ : St)) (fun (ss : Int × L3) => match ss with | (i, Z) => (0 ≤ i) ∧ (i ≤ c.k) ∧ (c.InvI hF Y_2 Z i)) (fun (ss : Int × L3) => match ss with | (i, Z) => (c.k - i).toNat) (0, (List.take c.Gen.length Y_2) ++ (List.drop c.Gen.length Y_2)) ⟨(by omega), (by omega), (by rw [List.take_append_drop]; exact Cnv.InvI.start TG.tr)⟩ (ent_rep ⟨rfl, rfl, rfl, rfl, rfl, slot_av (av_int (show 0 = (0 : Int) by rfl)), trivial⟩ rfl) ?_
 rintro ⟨i, Z⟩ ⟨i0, i1, C⟩
 show Ent _ ⟨_, [_, _, _, _, _]⟩ _
 have hZl := C.ln.len
 refine esr rfl fun _ K11 => ?_
 refine ent_o rfl (ok_lss rfl rfl) ?_
 refine enk K11 ?_
 refine ent_seq fun _ K12 => ?_
 refine ent_condD rfl (fun h47 => ?_) (fun h47 => ?_)
 ·have hdg := Cnv.diag_one hFew hOk TG hkn.2 hm i0 h47
  have hZr := C.ln.row i i0 (by omega)
  have hZe := C.kp i i i0 (by omega) (Int.le_refl i) (by omega)
  have hsc := C.scale hkn.2 hLB TG.zr i0 h47 hdg.1 hdg.2
  rw [← hZe] at hdg
  unfold eL at hdg hsc
  refine esp K12 ?_
  refine ent_seq fun _ K13 => ?_
  refine ent_block ?_
  refine esk rfl ?_
  refine ent_seq fun _ K15 => ?_
  refine ent_draw 19 mixed (by kernel_rfl) (by kernel_rfl) (by kernel_rfl) ?_
  refine dw_o rfl (ok_move rfl) ?_
  refine dw_o rfl (ok_nilCheck rfl) ?_
  refine dw_o rfl (ok_fieldAddr1 runUnderlying84 rfl sizeOf82 rfl rfl) ?_
  refine dw_o rfl (ok_load ti82 rfl) ?_
  refine dw_o rfl (ok_move rfl) ?_
  refine dw_o rfl (ok_move rfl) ?_
  refine dw_o rfl (ok_indexV0 (k := 1) sl25 rfl rfl rfl rfl (by omega) (by omega)) ?_
  refine dw_o rfl (OpOK.eqv (C := aH (ix Hdr.no (HL_2 ++ HO_2) i)) (ok_loadV0 (k := 1) Hdr.no ti42 rfl rfl (by omega) (by omega)) (by rw [ix_appL Hdr.no HL_2 HO_2 (by omega) (by omega)])) ?_
  refine dw_o rfl (ok_move rfl) ?_
  refine dw_o rfl (ok_indexH (k := 2) sl42 rfl rfl rfl (by omega) (by omega) (by exact List.not_mem_nil) (by omega) (by omega)) ?_
  refine dw_o rfl (ok_loadH (k := 2) [] ti22 rfl rfl (by omega) (by omega) (by exact List.not_mem_nil) (by omega) (by omega)) ?_
  refine dw_o rfl (ok_index 0 sl22 rfl rfl (by omega) (by omega)) ?_
  refine dw_o rfl (ok_load ti3 rfl) ?_
  refine dw_o rfl (ok_call (Inv_ok c.F (ix 0 (ix [] (ix [] Z i) i) 0) ‹_›) rfl) ?_
  refine dw_o rfl (ok_move rfl) ?_
  refine dw_o rfl (ok_extract rfl rfl) ?_
  refine dw_o rfl (ok_extract rfl rfl) ?_
  refine dw_o rfl (ok_assign rfl) ?_
  refine dw_o rfl (ok_assign rfl) ?_
  refine dw_nil ?_
  refine enk K15 ?_
  refine ent_seq fun _ K16 => ?_
  refine esr rfl fun _ K17 => ?_
  refine ent_o rfl (ok_neq rfl rfl) ?_
  refine enk K17 ?_
  refine ent_condD rfl (fun h67 => ?_) (fun h67 => ?_)
  ·exact absurd (if_neg hdg.2) h67
  refine esp K16 ?_
  refine ent_seq fun _ K18 => ?_
  refine esr rfl fun _ K19 => ?_
  refine ent_o rfl (ok_lenEx rfl runUnderlying25 rfl) ?_
  refine emm rfl ?_
  refine enk K19 ?_
  refine ent_block ?_
  refine ent_loop (fun (t : Int) => (⟨[(4, aMach c), (6, aEx (vec ra_2 HL_2.length ca_2)), (7, aEx (vec rb_2 HO_2.length cb_2)), (8, aEx (vec r41_4 ((HL_2 ++ HO_2).length) cr41_4)), (9, aInt i), (10, aInt (invF c.F (ix 0 (ix [] (ix [] Z i) i) 0))), (45, aInt c.k), (46, aInt i), (68, aEx (vec r41_4 ((HL_2 ++ HO_2).length) cr41_4)), (69, aInt (↑((HL_2 ++ HO_2).length) : Int)), (70, aInt t)], [oVec r41_4 cr41_4 42 1 false aH (HL_2 ++ HO_2), oVec ra_2 ca_2 42 1 false aH HL_2, oRws 22 aInts [] (HL_2 ++ HO_2) (mixG (Z.map fun r => r.set i.toNat (sclP hF (invF c.F (ix 0 (ix [] (ix [] Z i) i) 0)) (ix [] r i))) Z t), oVec rb_2 cb_2 42 1 false aH HO_2, oBox b1_1 27 [aInt c.F.P, aInt c.F.M, aSl 1 false aInt c.F.mod, aSl 1 false aRows c.Gen]]⟩ : St)) (fun (t : Int) => (0 ≤ t) ∧ (t ≤ Z.length)) (fun (t : Int) => (Z.length - t).toNat) 0 ⟨(by omega), (by omega)⟩ (ent_rep ⟨rfl, rfl, rfl, rfl, rfl, rfl, rfl, rfl, rfl, rfl, slot_av (av_int (show 0 = (0 : Int) by rfl)), trivial⟩ (own_cons (rfl) (own_cons (rfl) (own_cons (own_rws rfl (show mixG (Z.map fun r => r.set i.toNat (sclP hF (invF c.F (ix 0 (ix [] (ix [] Z i) i) 0)) (ix [] r i))) Z (0 : Int) = Z by exact mixG_zero _ _)) (rfl))))) ?_
  rintro t ⟨t0, t1⟩
  show Ent _ ⟨_, [_, _, _, _, _]⟩ _
  have lmt : (mixG (Z.map fun r => r.set i.toNat (sclP hF (invF c.F (ix 0 (ix [] (ix [] Z i) i) 0)) (ix [] r i))) Z t).length = Z.length := by rw [length_mixG _ _ (by simp) t0 (by simp; omega)]; simp
  refine esr rfl fun _ K20 => ?_
  refine ent_o rfl (ok_lss rfl rfl) ?_
  refine enk K20 ?_
  refine ent_seq fun _ K21 => ?_
  refine ent_condD rfl (fun h71 => ?_) (fun h71 => ?_)
  ·have hrt := C.ln.row t t0 (by omega)
   have hMt : ix [] (mixG (Z.map fun r => r.set i.toNat (sclP hF (invF c.F (ix 0 (ix [] (ix [] Z i) i) 0)) (ix [] r i))) Z t) t = ix [] Z t := ix_mixG [] _ _ t0 (by simp; omega) (by simp)
   have hms := mixG_set [] (Z.map fun r => r.set i.toNat (sclP hF (invF c.F (ix 0 (ix [] (ix [] Z i) i) 0)) (ix [] r i))) Z t0 (by simp; omega) (by simp)
   rw [ixG_map [] [] _ Z t0 (by omega)] at hms
   have hli := C.kp t i t0 (by omega) (Int.le_refl i) (by omega)
   have hlj := hLB t i t0 (by omega) i0 (by omega)
   rw [← hli] at hlj
   unfold eL at hlj
   refine esp K21 ?_
   refine ent_seq fun _ K22 => ?_
   refine ent_block ?_
   refine esr rfl fun _ K23 => ?_
   refine ent_rsome 0 rfl (by omega) (fun b72_6 hb72_6 => ?_)
   subst hb72_6
   refine ent_o rfl (ok_indexV sl25 rfl rfl (by omega) (by omega)) ?_
   refine ent_o rfl (ok_loadV (k := 0) Hdr.no ti42 rfl rfl (by omega) (by omega)) ?_
   refine emm rfl ?_
   refine enk K23 ?_
   refine ent_takeRow 2 t rfl (by omega) (by omega) (by exact List.not_mem_nil) (fun hn13 => ?_)
   rw [hMt] at hn13 ⊢
   refine ent_draw 13 mixed (by kernel_rfl) (by kernel_rfl) (by kernel_rfl) ?_
   refine dw_o rfl (ok_move rfl) ?_
   refine dw_o rfl (ok_move rfl) ?_
   refine dw_o rfl (ok_move rfl) ?_
   refine dw_o rfl (ok_nilCheck rfl) ?_
   refine dw_o rfl (ok_fieldAddr1 runUnderlying84 rfl sizeOf82 rfl rfl) ?_
   refine dw_o rfl (ok_load ti82 rfl) ?_
   refine dw_o rfl (ok_move rfl) ?_
   refine dw_o rfl (ok_move rfl) ?_
   refine dw_o rfl (ok_move rfl) ?_
   refine dw_o rfl (ok_indexV0 (k := 0) sl42 rfl rfl ‹_› rfl (by omega) (by omega)) ?_
   refine dw_o rfl (ok_loadV0 (k := 0) [] ti22 rfl rfl (by omega) (by omega)) ?_
   refine dw_o rfl (ok_call (polyScale_ok c.F (invF c.F (ix 0 (ix [] (ix [] Z i) i) 0)) (ix [] (ix [] Z t) i) ‹_› (by omega)) rfl) ?_
   refine dw_o rfl (ok_indexV0 (k := 0) sl42 rfl rfl ‹_› rfl (by omega) (by omega)) ?_
   refine dw_nil ?_
   refine ent_storeV0 (k := 0) (z := sclP hF (invF c.F (ix 0 (ix [] (ix [] Z i) i) 0)) (ix [] (ix [] Z t) i)) ti22 rfl rfl rfl (elem_one one_sl) (by omega) (by omega) ?_
   refine enk K22 ?_
   refine ent_backRow 3 0 t [] rfl rfl (by decide) (by simp) (by omega) (by omega) (by simp_all) ?_
   refine ent_region ?_
   refine ent_o rfl (ok_add rfl rfl (by omega) (by omega)) ?_
   refine emm rfl ?_
   refine ent_nil ?_
   refine ent_again (s := (t)) (t + 1) ⟨(by omega), (by omega)⟩ (by omega) (ent_rep ⟨rfl, rfl, rfl, slot_av (av_vec (congrArg List.length (show HL_2 ++ HO_2 = HL_2 ++ HO_2 by rfl).symm)), rfl, rfl, rfl, rfl, slot_av (av_vec (congrArg List.length (show HL_2 ++ HO_2 = HL_2 ++ HO_2 by rfl).symm)), rfl, rfl, trivial⟩ (own_cons (own_vec (show HL_2 ++ HO_2 = HL_2 ++ HO_2 by rfl)) (own_cons (rfl) (own_cons (own_rws rfl (show mixG (Z.map fun r => r.set i.toNat (sclP hF (invF c.F (ix 0 (ix [] (ix [] Z i) i) 0)) (ix [] r i))) Z (t + 1) = List.set (mixG (Z.map fun r => r.set i.toNat (sclP hF (invF c.F (ix 0 (ix [] (ix [] Z i) i) 0)) (ix [] r i))) Z t) (t).toNat (List.set (ix [] Z t) (i).toNat (sclP hF (invF c.F (ix 0 (ix [] (ix [] Z i) i) 0)) (ix [] (ix [] Z t) i))) by exact hms)) (rfl)))))
  refine ent_exit ?_
  refine ent_k K18 ?_
  refine esk rfl ?_
  refine ent_block ?_
  refine ent_loop (fun (ss : Int × L3) => match ss with | (j, V) => (⟨[(4, aMach c), (6, aEx (vec ra_2 HL_2.length ca_2)), (7, aEx (vec rb_2 HO_2.length cb_2)), (8, aEx (vec r41_4 ((HL_2 ++ HO_2).length) cr41_4)), (9, aInt i), (45, aInt c.k), (46, aInt i), (88, aInt i), (89, aInt j)], [oVec r41_4 cr41_4 42 1 false aH (HL_2 ++ HO_2), oVec ra_2 ca_2 42 1 false aH HL_2, oRws 22 aInts [] (HL_2 ++ HO_2) V, oVec rb_2 cb_2 42 1 false aH HO_2, oBox b1_1 27 [aInt c.F.P, aInt c.F.M, aSl 1 false aInt c.F.mod, aSl 1 false aRows c.Gen]]⟩ : St)) (fun (ss : Int × L3) => match ss with | (j, V) => (0 ≤ j) ∧ (j ≤ i) ∧ (c.InvJ hF Y_2 V i j)) (fun (ss : Int × L3) => match ss with | (j, V) => (i - j).toNat) (0, mixG (Z.map fun r => r.set i.toNat (sclP hF (invF c.F (ix 0 (ix [] (ix [] Z i) i) 0)) (ix [] r i))) Z t) ⟨(by omega), ‹_›, (by rw [mixG_all _ _ (by simp; omega) (by simp)]; exact hsc)⟩ (ent_rep ⟨rfl, rfl, rfl, rfl, rfl, rfl, rfl, rfl, slot_av (av_int (show 0 = (0 : Int) by rfl)), trivial⟩ rfl) ?_
  rintro ⟨j, V⟩ ⟨j0, j1, D⟩
  show Ent _ ⟨_, [_, _, _, _, _]⟩ _
  have hVl := D.ln.len
  have hVr := D.ln.row i i0 (by omega)
  refine esr rfl fun _ K25 => ?_
  refine ent_o rfl (ok_lss rfl rfl) ?_
  refine enk K25 ?_
  refine ent_seq fun _ K26 => ?_
  refine ent_condD rfl (fun h90 => ?_) (fun h90 => ?_)
  ·have hnx := D.next hkn.2 h47 j0 h90
   have lfa := D.lb i j i0 (by omega) j0 h90
   rw [if_neg (by omega)] at lfa
   unfold eL at hnx lfa
   refine esp K26 ?_
   refine ent_seq fun _ K27 => ?_
   refine ent_block ?_
   refine esk rfl ?_
   refine esr rfl fun _ K29 => ?_
   refine ent_o rfl (ok_indexV0 (k := 1) sl25 rfl rfl rfl rfl (by omega) (by omega)) ?_
   refine ent_o rfl (OpOK.eqv (C := aH (ix Hdr.no (HL_2 ++ HO_2) i)) (ok_loadV0 (k := 1) Hdr.no ti42 rfl rfl (by omega) (by omega)) (by rw [ix_appL Hdr.no HL_2 HO_2 (by omega) (by omega)])) ?_
   refine emm rfl ?_
   refine ent_o rfl (ok_indexH (k := 2) sl42 rfl rfl rfl (by omega) (by omega) (by exact List.not_mem_nil) (by omega) (by omega)) ?_
   refine ent_o rfl (ok_loadH (k := 2) [] ti22 rfl rfl (by omega) (by omega) (by exact List.not_mem_nil) (by omega) (by omega)) ?_
   refine emm rfl ?_
   refine enk K29 ?_
   refine esr rfl fun _ K30 => ?_
   refine ent_o rfl (ok_lenEx rfl runUnderlying25 rfl) ?_
   refine emm rfl ?_
   refine enk K30 ?_
   refine ent_block ?_
   refine ent_loop (fun (t : Int) => (⟨[(4, aMach c), (6, aEx (vec ra_2 HL_2.length ca_2)), (7, aEx (vec rb_2 HO_2.length cb_2)), (8, aEx (vec r41_4 ((HL_2 ++ HO_2).length) cr41_4)), (9, aInt i), (14, aInt j), (15, aSl 1 false aInt (ix [] (ix [] V i) j)), (45, aInt c.k), (46, aInt i), (88, aInt i), (89, aInt j), (99, aEx (vec r41_4 ((HL_2 ++ HO_2).length) cr41_4)), (100, aInt (↑((HL_2 ++ HO_2).length) : Int)), (101, aInt t)], [oVec r41_4 cr41_4 42 1 false aH (HL_2 ++ HO_2), oVec ra_2 ca_2 42 1 false aH HL_2, oRws 22 aInts [] (HL_2 ++ HO_2) (mixG (V.map fun r => r.set j.toNat (subP hF (ix [] r j) (mulP hF (ix [] (ix [] V i) j) (ix [] r i)))) V t), oVec rb_2 cb_2 42 1 false aH HO_2, oBox b1_1 27 [aInt c.F.P, aInt c.F.M, aSl 1 false aInt c.F.mod, aSl 1 false aRows c.Gen]]⟩ : St)) (fun (t : Int) => (0 ≤ t) ∧ (t ≤ V.length)) (fun (t : Int) => (V.length - t).toNat) 0 ⟨(by omega), (by omega)⟩ (ent_rep ⟨rfl, rfl, rfl, rfl, rfl, rfl, rfl, rfl, rfl, rfl, rfl, rfl, rfl, slot_av (av_int (show 0 = (0 : Int) by rfl)), trivial⟩ (own_cons (rfl) (own_cons (rfl) (own_cons (own_rws rfl (show mixG (V.map fun r => r.set j.toNat (subP hF (ix [] r j) (mulP hF (ix [] (ix [] V i) j) (ix [] r i)))) V (0 : Int) = V by exact mixG_zero _ _)) (rfl))))) ?_
   rintro t ⟨t0, t1⟩
   show Ent _ ⟨_, [_, _, _, _, _]⟩ _
   have lmt : (mixG (V.map fun r => r.set j.toNat (subP hF (ix [] r j) (mulP hF (ix [] (ix [] V i) j) (ix [] r i)))) V t).length = V.length := by rw [length_mixG _ _ (by simp) t0 (by simp; omega)]; simp
   refine esr rfl fun _ K31 => ?_
   refine ent_o rfl (ok_lss rfl rfl) ?_
   refine enk K31 ?_
   refine ent_seq fun _ K32 => ?_
   refine ent_condD rfl (fun h102 => ?_) (fun h102 => ?_)
   ·have hrt := D.ln.row t t0 (by omega)
    have hMt : ix [] (mixG (V.map fun r => r.set j.toNat (subP hF (ix [] r j) (mulP hF (ix [] (ix [] V i) j) (ix [] r i)))) V t) t = ix [] V t := ix_mixG [] _ _ t0 (by simp; omega) (by simp)
    have hms := mixG_set [] (V.map fun r => r.set j.toNat (subP hF (ix [] r j) (mulP hF (ix [] (ix [] V i) j) (ix [] r i)))) V t0 (by simp; omega) (by simp)
    rw [ixG_map [] [] _ V t0 (by omega)] at hms
    have hli := D.li t t0 (by omega)
    have hlj := D.lb t j t0 (by omega) j0 h90
    rw [if_neg (by omega)] at hlj
    unfold eL at hli hlj
    have lmq := mulP_len hF (ix [] (ix [] V i) j) (ix [] (ix [] V t) i)
    refine esp K32 ?_
    refine ent_seq fun _ K33 => ?_
    refine ent_block ?_
    refine esr rfl fun _ K34 => ?_
    refine ent_rsome 0 rfl (by omega) (fun b103_8 hb103_8 => ?_)
    subst hb103_8
    refine ent_o rfl (ok_indexV sl25 rfl rfl (by omega) (by omega)) ?_
    refine ent_o rfl (ok_loadV (k := 0) Hdr.no ti42 rfl rfl (by omega) (by omega)) ?_
    refine emm rfl ?_
    refine enk K34 ?_
    refine ent_takeRow 2 t rfl (by omega) (by omega) (by exact List.not_mem_nil) (fun hn17 => ?_)
    rw [hMt] at hn17 ⊢
    refine ent_draw 23 mixed (by kernel_rfl) (by kernel_rfl) (by kernel_rfl) ?_
    refine dw_o rfl (ok_move rfl) ?_
    refine dw_o rfl (ok_move rfl) ?_
    refine dw_o rfl (ok_move rfl) ?_
    refine dw_o rfl (ok_nilCheck rfl) ?_
    refine dw_o rfl (ok_fieldAddr1 runUnderlying84 rfl sizeOf82 rfl rfl) ?_
    refine dw_o rfl (ok_load ti82 rfl) ?_
    refine dw_o rfl (ok_move rfl) ?_
    refine dw_o rfl (ok_move rfl) ?_
    refine dw_o rfl (ok_indexV0 (k := 0) sl42 rfl rfl ‹_› rfl (by omega) (by omega)) ?_
    refine dw_o rfl (ok_loadV0 (k := 0) [] ti22 rfl rfl (by omega) (by omega)) ?_
    refine dw_o rfl (ok_move rfl) ?_
    refine dw_o rfl (ok_nilCheck rfl) ?_
    refine dw_o rfl (ok_fieldAddr1 runUnderlying84 rfl sizeOf82 rfl rfl) ?_
    refine dw_o rfl (ok_load ti82 rfl) ?_
    refine dw_o rfl (ok_move rfl) ?_
    refine dw_o rfl (ok_move rfl) ?_
    refine dw_o rfl (ok_move rfl) ?_
    refine dw_o rfl (ok_indexV0 (k := 0) sl42 rfl rfl ‹_› rfl (by omega) (by omega)) ?_
    refine dw_o rfl (ok_loadV0 (k := 0) [] ti22 rfl rfl (by omega) (by omega)) ?_
    refine dw_o rfl (OpOK.as (A := aFull 1 false aInts [ix [] (ix [] V i) j, ix [] (ix [] V t) i]) (by exact ok_buildNF aInts [ix [] (ix [] V i) j, ix [] (ix [] V t) i] vt42 (by decide) rfl (⟨0, 1, rfl, .inl ⟨rfl, _, rfl, one_sl, rfl, ⟨1, 1, rfl, .inl ⟨rfl, _, rfl, one_sl, rfl, rfl⟩⟩⟩⟩) rfl) aFull_sl) ?_
    refine dw_o rfl (ok_callA (polyMul_ok c.F (ix [] (ix [] V i) j) (ix [] (ix [] V t) i) ‹_› (by omega) (by omega)) ⟨arg_a rfl (cv_id sub_refl), arg_a rfl (cv_sl sub_refl rfl), trivial⟩) ?_
    refine dw_o rfl (ok_call (polySub_ok c.F (ix [] (ix [] V t) j) (mulP hF (ix [] (ix [] V i) j) (ix [] (ix [] V t) i)) ‹_› (by omega) (by omega)) rfl) ?_
    refine dw_o rfl (ok_indexV0 (k := 0) sl42 rfl rfl ‹_› rfl (by omega) (by omega)) ?_
    refine dw_nil ?_
    refine ent_storeV0 (k := 0) (z := subP hF (ix [] (ix [] V t) j) (mulP hF (ix [] (ix [] V i) j) (ix [] (ix [] V t) i))) ti22 rfl rfl rfl (elem_one one_sl) (by omega) (by omega) ?_
    refine enk K33 ?_
    refine ent_backRow 3 0 t [] rfl rfl (by decide) (by simp) (by omega) (by omega) (by simp_all) ?_
    refine ent_region ?_
    refine ent_o rfl (ok_add rfl rfl (by omega) (by omega)) ?_
    refine emm rfl ?_
    refine ent_nil ?_
    refine ent_again (s := (t)) (t + 1) ⟨(by omega), (by omega)⟩ (by omega) (ent_rep ⟨rfl, rfl, rfl, slot_av (av_vec (congrArg List.length (show HL_2 ++ HO_2 = HL_2 ++ HO_2 by rfl).symm)), rfl, rfl, rfl, rfl, rfl, rfl, rfl, slot_av (av_vec (congrArg List.length (show HL_2 ++ HO_2 = HL_2 ++ HO_2 by rfl).symm)), rfl, rfl, trivial⟩ (own_cons (own_vec (show HL_2 ++ HO_2 = HL_2 ++ HO_2 by rfl)) (own_cons (rfl) (own_cons (own_rws rfl (show mixG (V.map fun r => r.set j.toNat (subP hF (ix [] r j) (mulP hF (ix [] (ix [] V i) j) (ix [] r i)))) V (t + 1) = List.set (mixG (V.map fun r => r.set j.toNat (subP hF (ix [] r j) (mulP hF (ix [] (ix [] V i) j) (ix [] r i)))) V t) (t).toNat (List.set (ix [] V t) (j).toNat (subP hF (ix [] (ix [] V t) j) (mulP hF (ix [] (ix [] V i) j) (ix [] (ix [] V t) i)))) by exact hms)) (rfl)))))
   refine ent_exit ?_
   refine ent_k K27 ?_
   refine ent_region ?_
   refine ent_o rfl (ok_add rfl rfl (by omega) (by omega)) ?_
   refine emm rfl ?_
   refine ent_nil ?_
   refine ent_again (s := (j, V)) (j + 1, mixG (V.map fun r => r.set j.toNat (subP hF (ix [] r j) (mulP hF (ix [] (ix [] V i) j) (ix [] r i)))) V t) ⟨(by omega), ‹_›, (by rw [mixG_all _ _ (by simp; omega) (by simp)]; exact hnx)⟩ (by dsimp only; omega) (ent_rep ⟨rfl, rfl, rfl, rfl, rfl, rfl, rfl, rfl, rfl, trivial⟩ rfl)
  refine ent_exit ?_
  refine ent_k K13 ?_
  refine ent_region ?_
  refine ent_o rfl (ok_add rfl rfl (by omega) (by omega)) ?_
  refine emm rfl ?_
  refine ent_nil ?_
  refine ent_again (s := (i, Z)) (i + 1, V) ⟨(by omega), ‹_›, (D.done hkn.2 TG.zr i0 h47 (by omega))⟩ (by dsimp only; omega) (ent_rep ⟨rfl, rfl, rfl, rfl, rfl, rfl, trivial⟩ rfl)
 refine ent_exit ?_
 refine ent_k K9 ?_
 refine ent_seq fun _ K35 => ?_
 have hik2 : i = c.k := by omega
 subst hik2
 have hRt := C.done hk3 hkn.2
 have hdl : ((List.drop c.Gen.length Z).length : Int) = c.n := by rw [List.length_drop]; omega
 refine ent_partRows 2 HL_2 HO_2 (List.take c.Gen.length Z) (List.drop c.Gen.length Z) rfl rfl (by exact (List.take_append_drop _ _).symm) (by rw [List.length_take]; omega) ?_
 refine ent_frzRows 4 0 rfl rfl (by decide) ?_
 refine ent_give 3 7 rfl (cv_vec (k := 3) (off_erase rfl) (by omega) rfl) ?_
 refine ent_region ?_
 refine emm rfl ?_
 refine enk K35 ?_
 refine ent_seq fun _ K36 => ?_
 refine esr rfl fun _ K37 => ?_
 refine ent_o rfl (ok_len rfl runUnderlying25 rfl) ?_
 refine emm rfl ?_
 refine enk K37 ?_
 refine ent_block ?_
 refine ent_open 42 1 false aRows (fun _ => rfl) ?_
 refine ent_loop (fun (ss : Int × Option Nat × Nat) => match ss with | (t, rr12, cc12) => (⟨[(4, aMach c), (18, aEx (vec rr12 ((mapT (List.take c.k.toNat) (List.drop c.Gen.length Z) t).length) cc12)), (131, aSl 1 false aRows (List.drop c.Gen.length Z)), (132, aInt (↑(List.drop c.Gen.length Z).length : Int)), (133, aInt t)], [oVec rr12 cc12 42 1 false aRows (mapT (List.take c.k.toNat) (List.drop c.Gen.length Z) t), oVec r41_4 cr41_4 42 1 false aH (HL_2 ++ HO_2), oVec ra_2 ca_2 42 1 false aH HL_2, oRws 22 aInts [] HL_2 (List.take c.Gen.length Z), oBox b1_1 27 [aInt c.F.P, aInt c.F.M, aSl 1 false aInt c.F.mod, aSl 1 false aRows c.Gen]]⟩ : St)) (fun (ss : Int × Option Nat × Nat) => match ss with | (t, rr12, cc12) => (0 ≤ t) ∧ (t ≤ c.n)) (fun (ss : Int × Option Nat × Nat) => match ss with | (t, rr12, cc12) => (c.n - t).toNat) (0, none, 0) ⟨(by omega), (by omega)⟩ (ent_rep ⟨rfl, slot_av ((show aEx (vec none ([] : List _).length 0) = aEx (vec none ((mapT (List.take c.k.toNat) (List.drop c.Gen.length Z) (0 : Int)).length) 0) from av_vec (congrArg List.length (show mapT (List.take c.k.toNat) (List.drop c.Gen.length Z) (0 : Int) = [] by rfl).symm))), rfl, rfl, slot_av (av_int (show 0 = (0 : Int) by rfl)), trivial⟩ (own_cons (own_vec (show mapT (List.take c.k.toNat) (List.drop c.Gen.length Z) (0 : Int) = [] by rfl)) (rfl))) ?_
 rintro ⟨t, rr12, cc12⟩ ⟨t0, t1⟩
 show Ent _ ⟨_, [_, _, _, _, _]⟩ _
 have lmp := length_mapT (List.take c.k.toNat) (List.drop c.Gen.length Z) (i := t) (by omega)
 refine esr rfl fun _ K38 => ?_
 refine ent_o rfl (ok_lss rfl rfl) ?_
 refine enk K38 ?_
 refine ent_seq fun _ K39 => ?_
 refine ent_condD rfl (fun h134 => ?_) (fun h134 => ?_)
 ·have hrz := C.ln.row (c.k + t) (by omega) (by omega)
  have hdz := Cnv.ix_dropL [] Z (k := c.Gen.length) t0
  rw [show ((c.Gen.length : Nat) : Int) = c.k from rfl] at hdz
  rw [← hdz] at hrz
  refine esp K39 ?_
  refine ent_seq fun _ K40 => ?_
  refine ent_block ?_
  refine esr rfl fun _ K41 => ?_
  refine ent_o rfl (ok_index [] sl25 rfl rfl (by omega) (by omega)) ?_
  refine ent_o rfl (ok_load ti42 rfl) ?_
  refine emm rfl ?_
  refine enk K41 ?_
  refine ent_drawM 11 mixed rfl (by kernel_rfl) (by kernel_rfl) (by kernel_rfl) (by kernel_rfl) (by kernel_rfl) (by kernel_rfl) (by kernel_rfl) (fun _ _ _ _ h => h) ?_
  refine dw_o rfl (ok_move rfl) ?_
  refine dw_o rfl (ok_move rfl) ?_
  refine dw_o rfl (ok_move rfl) ?_
  refine dw_o rfl (ok_nilCheck rfl) ?_
  refine dw_o rfl (ok_fieldAddr1 runUnderlying84 rfl sizeOf3 rfl rfl) ?_
  refine dw_o rfl (ok_load ti3 rfl) ?_
  refine dw_o rfl (ok_move rfl) ?_
  refine dw_o rfl (ok_nilCheck rfl) ?_
  refine dw_o rfl (ok_fieldAddr1 runUnderlying84 rfl sizeOf3 rfl rfl) ?_
  refine dw_o rfl (ok_load ti3 rfl) ?_
  refine dw_o rfl (ok_slice3To sl42 rfl rfl rfl (by omega) (by omega)) ?_
  refine dw_nil ?_
  refine ent_appendL (k := 0) (enc := aRows) (y := List.take (c.k).toNat (ix [] (List.drop c.Gen.length Z) t)) rfl rfl vt25 rfl rfl rfl rfl ((elem_one one_sl)) (by omega) (by omega) (by decide) (fun b149_13 c149_13 => ?_)
  refine emm rfl ?_
  refine enk K40 ?_
  refine ent_region ?_
  refine ent_o rfl (ok_add rfl rfl (by omega) (by omega)) ?_
  refine emm rfl ?_
  refine ent_nil ?_
  refine ent_again (s := (t, rr12, cc12)) (t + 1, (some b149_13), c149_13) ⟨(by omega), (by omega)⟩ (by dsimp only; omega) (ent_rep ⟨rfl, slot_av (av_vec (congrArg List.length (show mapT (List.take c.k.toNat) (List.drop c.Gen.length Z) (t + 1) = (mapT (List.take c.k.toNat) (List.drop c.Gen.length Z) t) ++ [List.take (c.k).toNat (ix [] (List.drop c.Gen.length Z) t)] by rw [mapT_succ [] (List.take c.k.toNat) (List.drop c.Gen.length Z) t0 (by omega)]).symm)), rfl, rfl, rfl, trivial⟩ (own_cons (own_vec (show mapT (List.take c.k.toNat) (List.drop c.Gen.length Z) (t + 1) = (mapT (List.take c.k.toNat) (List.drop c.Gen.length Z) t) ++ [List.take (c.k).toNat (ix [] (List.drop c.Gen.length Z) t)] by rw [mapT_succ [] (List.take c.k.toNat) (List.drop c.Gen.length Z) t0 (by omega)])) (rfl)))
 refine ent_exit ?_
 refine ent_k K36 ?_
 refine ent_seq fun _ K42 => ?_
 refine ent_give 0 18 rfl (cv_vec (k := 0) (off_erase rfl) rfl rfl) ?_
 have hmp : mapT (List.take c.k.toNat) (List.drop c.Gen.length Z) t = (List.drop c.Gen.length Z).map (List.take c.k.toNat) := mapT_all _ _ (by omega)
 refine ent_region ?_
 refine emm rfl ?_
 refine enk K42 ?_
 refine ent_ret ?_
 exact retR2 (.inr rfl) results46 (resr_tmp (res_cv rfl (cv_exi ((List.drop c.Gen.length Z).map (List.take c.k.toNat)) (hRt) (cv_sl sub_x (by exact hmp))))) (resr_tmp (res_cv rfl (cv_int rfl)))
end Go.Proofs.Ytfjhbdfgbpcchaa

