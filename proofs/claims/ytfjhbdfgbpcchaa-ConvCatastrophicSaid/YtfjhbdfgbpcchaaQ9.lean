/-
  Walks of functions of the program and the reference.
-/
import Derived.Test.YtfjhbdfgbpcchaaQ8
open Go Go.Cw
namespace Go.Proofs.Ytfjhbdfgbpcchaa
open Try
set_option maxRecDepth 100000
set_option linter.unusedVariables false
set_option linter.unusedSimpArgs false
theorem triangle_ok (c : Cnv) (hFew : c.Few) (hOk : c.Ok) (hF : FOk c.F) (hk3 : c.k ≤ 3) (hn6 : c.n ≤ 6) : CtrW Try.prog 78 [] [aMach c] (fun (y : Option Nat × Nat × List Hdr × Option Nat × Nat × List Hdr × L3) => match y with | (ra, ca, HL, rb, cb, HO, Y) => HL.length = c.Gen.length ∧ (HO.length : Int) = c.n ∧ ∃ hF : FOk c.F, c.TgI hF Y c.k (c.k + 1)) (fun (y : Option Nat × Nat × List Hdr × Option Nat × Nat × List Hdr × L3) => match y with | (ra, ca, HL, rb, cb, HO, Y) => aTup [aEx (vec ra HL.length ca), aEx (vec rb HO.length cb)]) (fun (y : Option Nat × Nat × List Hdr × Option Nat × Nat × List Hdr × L3) => match y with | (ra, ca, HL, rb, cb, HO, Y) => [oVec ra ca 42 1 false aH HL, oRws 22 aInts [] HL (List.take c.Gen.length Y), oVec rb cb 42 1 false aH HO, oRws 22 aInts [] HO (List.drop c.Gen.length Y)]) := by
 have hS := hF.1
 have hik : c.k = (c.Gen.length : Int) := rfl
 have hkn := hOk.kn
 have hcl : c.canon.length = c.Gen.length := by unfold Cnv.canon; rw [List.length_map]
 have hnn : 0 ≤ c.n := by omega
 refine ctrW_of Try.call78 func78 rfl rfl ?_
 intro w O
 refine ent_lenP 0 1 rfl rfl (fun hlen0_1 => ?_)
 refine ent_lenP 0 4 rfl rfl (fun hlen0_4 => ?_)
 refine ent_lenP 0 8 rfl rfl (fun hlen0_8 => ?_)
 refine esk rfl ?_
 refine ent_seq fun _ K2 => ?_
 refine esr rfl fun _ K3 => ?_
 refine ent_o rfl (ok_nilCheck rfl) ?_
 refine ent_o rfl (ok_fieldAddr1 runUnderlying84 rfl sizeOf3 rfl rfl) ?_
 refine ent_o rfl (ok_load ti3 rfl) ?_
 refine emm rfl ?_
 refine enk K3 ?_
 refine ent_block ?_
 refine ent_open 42 1 false aH (fun _ => rfl) ?_
 refine ent_rows0 22 aInts ?_
 refine ent_loop (fun (ss : Int × List Hdr × Option Nat × Nat) => match ss with | (i, Hs, rr2, cc2) => (⟨[(0, aMach c), (2, aEx (vec rr2 ((Hs).length) cc2)), (3, aEx (.slice none 0 0)), (13, aInt c.k), (14, aInt i)], [oRws 22 aInts [] Hs (c.canon.take i.toNat), oVec rr2 cc2 42 1 false aH Hs]⟩ : St)) (fun (ss : Int × List Hdr × Option Nat × Nat) => match ss with | (i, Hs, rr2, cc2) => (0 ≤ i) ∧ (i ≤ c.k) ∧ ((Hs.length : Int) = i)) (fun (ss : Int × List Hdr × Option Nat × Nat) => match ss with | (i, Hs, rr2, cc2) => (c.k - i).toNat) (0, [], none, 0) ⟨(by omega), (by omega), rfl⟩ (ent_rep ⟨rfl, slot_av ((show aEx (vec none ([] : List _).length 0) = aEx (vec none (([]).length) 0) from av_vec (congrArg List.length (show [] = [] by rfl).symm))), rfl, rfl, slot_av (av_int (show 0 = (0 : Int) by rfl)), trivial⟩ (own_cons (own_rws rfl (show c.canon.take (0 : Int).toNat = [] by rfl)) (rfl))) ?_
 rintro ⟨i, Hs, rr2, cc2⟩ ⟨i0, i1, hH⟩
 show Ent _ ⟨_, [_, _]⟩ _
 refine esr rfl fun _ K4 => ?_
 refine ent_o rfl (ok_lss rfl rfl) ?_
 refine enk K4 ?_
 refine ent_seq fun _ K5 => ?_
 refine ent_condD rfl (fun h15 => ?_) (fun h15 => ?_)
 ·have hrow := hOk.row i0 (show i < c.Gen.length by omega)
  have hcr : (ix [] c.canon i).length = (ix [] c.Gen i).length := by unfold Cnv.canon; rw [ixG_map [] [] _ c.Gen i0 (by omega), List.length_map]
  refine esp K5 ?_
  refine ent_seq fun _ K6 => ?_
  refine ent_block ?_
  refine esk rfl ?_
  refine ent_region ?_
  refine emm rfl ?_
  refine ent_o rfl (ok_nilCheck rfl) ?_
  refine ent_o rfl (ok_fieldAddr1 runUnderlying84 rfl sizeOf25 rfl rfl) ?_
  refine ent_o rfl (ok_load ti25 rfl) ?_
  refine emm rfl ?_
  refine ent_o rfl (ok_index [] sl25 rfl rfl (by omega) (by omega)) ?_
  refine ent_o rfl (ok_load ti42 rfl) ?_
  refine ent_open 22 1 false aInts (fun _ => rfl) ?_
  refine ent_appendS (k := 0) rfl vt42 rfl rfl rfl rfl (cv_id sub_refl) (by simp only [List.length_append, List.length_cons, List.length_nil]; omega) (by simp only [List.length_append, List.length_cons, List.length_nil]; omega) (fun r25_3 cr25_3 => ?_)
  refine ent_appendL (k := 2) (enc := aH) (y := ⟨r25_3, ([] ++ (ix [] c.canon i)).length, cr25_3⟩) rfl rfl vt25 rfl rfl rfl rfl ((elem_one (one_ex rfl))) (by omega) (by omega) (by decide) (fun b27_5 c27_5 => ?_)
  refine ent_pushRow 1 0 (m := ([] ++ (ix [] c.canon i)).length) rfl rfl (by decide) rfl ?_
  refine emm rfl ?_
  refine enk K6 ?_
  refine ent_region ?_
  refine ent_o rfl (ok_add rfl rfl (by omega) (by omega)) ?_
  refine emm rfl ?_
  refine ent_nil ?_
  refine ent_again (s := (i, Hs, rr2, cc2)) (i + 1, Hs ++ [⟨r25_3, ([] ++ (ix [] c.canon i)).length, cr25_3⟩], (some b27_5), c27_5) ⟨(by omega), ‹_›, (by simp; omega)⟩ (by dsimp only; omega) (ent_rep ⟨rfl, slot_av (av_vec (congrArg List.length (show (Hs ++ [⟨r25_3, ([] ++ (ix [] c.canon i)).length, cr25_3⟩]) = Hs ++ [⟨r25_3, ([] ++ (ix [] c.canon i)).length, cr25_3⟩] by rfl).symm)), rfl, rfl, rfl, trivial⟩ (own_cons (own_rws (show (Hs ++ [⟨r25_3, ([] ++ (ix [] c.canon i)).length, cr25_3⟩]) = Hs ++ [⟨r25_3, ([] ++ (ix [] c.canon i)).length, cr25_3⟩] by rfl) (show c.canon.take (i + 1).toNat = (c.canon.take i.toNat) ++ [[] ++ (ix [] c.canon i)] by rw [take_succ_ix [] c.canon i0 (by omega)]; rfl)) (rfl)))
 refine ent_exit ?_
 refine ent_k K2 ?_
 refine ent_seq fun _ K8 => ?_
 refine esr rfl fun _ K9 => ?_
 refine ent_o rfl (ok_nilCheck rfl) ?_
 refine ent_o rfl (ok_fieldAddr1 runUnderlying84 rfl sizeOf3 rfl rfl) ?_
 refine ent_o rfl (ok_load ti3 rfl) ?_
 refine emm rfl ?_
 refine enk K9 ?_
 refine ent_block ?_
 refine ent_open 42 1 false aH (fun _ => rfl) ?_
 refine ent_rows0 22 aInts ?_
 refine ent_loop (fun (ss : Int × List Hdr × Option Nat × Nat) => match ss with | (j, Ks, rr7, cc7) => (⟨[(0, aMach c), (2, aEx (vec rr2 ((Hs).length) cc2)), (3, aEx (vec rr7 ((Ks).length) cc7)), (32, aInt c.n), (33, aInt j)], [oRws 22 aInts [] Ks (mapR (Cnv.idR c.n) j), oVec rr7 cc7 42 1 false aH Ks, oRws 22 aInts [] Hs (c.canon.take i.toNat), oVec rr2 cc2 42 1 false aH Hs]⟩ : St)) (fun (ss : Int × List Hdr × Option Nat × Nat) => match ss with | (j, Ks, rr7, cc7) => (0 ≤ j) ∧ (j ≤ c.n) ∧ ((Ks.length : Int) = j)) (fun (ss : Int × List Hdr × Option Nat × Nat) => match ss with | (j, Ks, rr7, cc7) => (c.n - j).toNat) (0, [], none, 0) ⟨(by omega), ‹_›, rfl⟩ (ent_rep ⟨rfl, rfl, slot_av ((show aEx (vec none ([] : List _).length 0) = aEx (vec none (([]).length) 0) from av_vec (congrArg List.length (show [] = [] by rfl).symm))), rfl, slot_av (av_int (show 0 = (0 : Int) by rfl)), trivial⟩ (own_cons (own_rws rfl (show mapR (Cnv.idR c.n) (0 : Int) = [] by rfl)) (rfl))) ?_
 rintro ⟨j, Ks, rr7, cc7⟩ ⟨j0, j1, hK⟩
 show Ent _ ⟨_, [_, _, _, _]⟩ _
 refine esr rfl fun _ K10 => ?_
 refine ent_o rfl (ok_lss rfl rfl) ?_
 refine enk K10 ?_
 refine ent_seq fun _ K11 => ?_
 refine ent_condD rfl (fun h34 => ?_) (fun h34 => ?_)
 ·refine esp K11 ?_
  refine ent_seq fun _ K12 => ?_
  refine ent_block ?_
  refine esk rfl ?_
  refine esr rfl fun _ K14 => ?_
  refine ent_o rfl (ok_nilCheck rfl) ?_
  refine ent_o rfl (ok_fieldAddr1 runUnderlying84 rfl sizeOf3 rfl rfl) ?_
  refine ent_o rfl (ok_load ti3 rfl) ?_
  refine ent_make aInts [] rfl vt42 rfl rfl (by omega) (by omega) (by omega) (fun h O => aSl_nil (fun _ => rfl) _ _ _ rfl) (AllV.mem ⟨rfl, trivial⟩) (fun b40_8 => ?_)
  refine emm rfl ?_
  refine enk K14 ?_
  refine esr rfl fun _ K15 => ?_
  refine ent_buildN aInt [1] rfl vt22 (by decide) (⟨0, 1, rfl, .inl ⟨rfl, _, rfl, (one_int _), rfl, rfl⟩⟩) rfl (fun b43_9 => ?_)
  refine ent_give 0 43 rfl (cv_vec (k := 0) (off_erase rfl) rfl rfl) ?_
  refine ent_o rfl (ok_indexV sl42 rfl rfl (by omega) (by omega)) ?_
  refine ent_storeV (k := 0) (z := [1]) ti22 rfl rfl rfl (elem_one one_sl) (by omega) (by simp only [List.length_replicate]; omega) ?_
  refine enk K15 ?_
  refine ent_region ?_
  refine emm rfl ?_
  refine ent_appendL (k := 2) (enc := aH) (y := ⟨(some b40_8), (c.n).toNat, (c.n).toNat⟩) rfl rfl vt25 rfl rfl rfl rfl ((elem_one (one_ex rfl))) (by omega) (by omega) (by decide) (fun b48_10 c48_10 => ?_)
  refine ent_pushRow 1 0 (m := (c.n).toNat) rfl rfl (by decide) (by simp) ?_
  refine emm rfl ?_
  refine enk K12 ?_
  refine ent_region ?_
  refine ent_o rfl (ok_add rfl rfl (by omega) (by omega)) ?_
  refine emm rfl ?_
  refine ent_nil ?_
  refine ent_again (s := (j, Ks, rr7, cc7)) (j + 1, Ks ++ [⟨(some b40_8), (c.n).toNat, (c.n).toNat⟩], (some b48_10), c48_10) ⟨(by omega), ‹_›, (by simp; omega)⟩ (by dsimp only; omega) (ent_rep ⟨rfl, rfl, slot_av (av_vec (congrArg List.length (show (Ks ++ [⟨(some b40_8), (c.n).toNat, (c.n).toNat⟩]) = Ks ++ [⟨(some b40_8), (c.n).toNat, (c.n).toNat⟩] by rfl).symm)), rfl, rfl, trivial⟩ (own_cons (own_rws (show (Ks ++ [⟨(some b40_8), (c.n).toNat, (c.n).toNat⟩]) = Ks ++ [⟨(some b40_8), (c.n).toNat, (c.n).toNat⟩] by rfl) (show mapR (Cnv.idR c.n) (j + 1) = (mapR (Cnv.idR c.n) j) ++ [List.set (List.replicate ((c.n).toNat) []) (j).toNat [1]] by rw [mapR_succ _ j0]; rfl)) (rfl)))
 refine ent_exit ?_
 refine ent_k K8 ?_
 refine esr rfl fun _ K16 => ?_
 refine ent_open 42 1 false aH (fun _ => rfl) ?_
 refine ent_rows0 22 aInts ?_
 refine ent_appendW (k := 1) (hone := fun _ _ => one_ex rfl) rfl vt25 rfl rfl rfl rfl flat_H (cv_vec (k := 5) (off_lent (ls := [5]) rfl (by decide)) rfl rfl) (by simp only [List.length_append, List.length_cons, List.length_nil]; omega) (by simp only [List.length_append, List.length_cons, List.length_nil]; omega) (fun r51_11 cr51_11 => ?_)
 refine emm rfl ?_
 refine ent_appendW (k := 1) (hone := fun _ _ => one_ex rfl) rfl vt25 rfl rfl rfl rfl flat_H (cv_vec (k := 3) (off_lent (ls := [3]) rfl (by decide)) rfl rfl) (by simp only [List.length_append, List.length_cons, List.length_nil]; omega) (by simp only [List.length_append, List.length_cons, List.length_nil]; omega) (fun r53_12 cr53_12 => ?_)
 refine emm rfl ?_
 refine enk K16 ?_
 refine ent_seq fun _ K17 => ?_
 refine ent_seq fun _ K18 => ?_
 have hst : c.canon.take i.toNat ++ mapR (Cnv.idR c.n) j = c.triS := by rw [List.take_of_length_le (by omega), show j = c.n by omega]; rfl
 refine ent_drop 0 ?_
 refine ent_joinRows 3 1 rfl rfl (by decide) ?_
 show Ent _ ⟨_, [_, _, _, _]⟩ _
 refine ent_region ?_
 refine emm rfl ?_
 refine ent_o rfl (ok_nilCheck rfl) ?_
 refine ent_o rfl (ok_fieldAddr1 runUnderlying84 rfl sizeOf3 rfl rfl) ?_
 refine ent_o rfl (ok_load ti3 rfl) ?_
 refine emm rfl ?_
 refine enk K18 ?_
 refine ent_block ?_
 refine ent_loop (fun (ss : Int × L3) => match ss with | (a, Y) => (⟨[(0, aMach c), (2, aEx (vec rr2 ((Hs).length) cc2)), (3, aEx (vec rr7 ((Ks).length) cc7)), (7, aEx (vec r53_12 ((Hs ++ Ks).length) cr53_12)), (57, aInt c.k), (58, aInt a)], [oVec r53_12 cr53_12 42 1 false aH (Hs ++ Ks), oVec rr7 cc7 42 1 false aH Ks, oRws 22 aInts [] (Hs ++ Ks) Y, oVec rr2 cc2 42 1 false aH Hs]⟩ : St)) (fun (ss : Int × L3) => match ss with | (a, Y) => (0 ≤ a) ∧ (a ≤ c.k) ∧ (c.TgI hF Y a (a + 1))) (fun (ss : Int × L3) => match ss with | (a, Y) => (c.k - a).toNat) (0, (c.canon.take i.toNat) ++ (mapR (Cnv.idR c.n) j)) ⟨(by omega), (by omega), (by rw [hst]; exact Cnv.TgI.start hFew hOk)⟩ (ent_rep ⟨rfl, rfl, rfl, rfl, rfl, slot_av (av_int (show 0 = (0 : Int) by rfl)), trivial⟩ rfl) ?_
 rintro ⟨a, Y⟩ ⟨a0, a1, T⟩
 show Ent _ ⟨_, [_, _, _, _]⟩ _
 refine esr rfl fun _ K19 => ?_
 refine ent_o rfl (ok_lss rfl rfl) ?_
 refine enk K19 ?_
 refine ent_seq fun _ K20 => ?_
 refine ent_condD rfl (fun h59 => ?_) (fun h59 => ?_)
 ·refine esp K20 ?_
  refine ent_seq fun _ K21 => ?_
  refine ent_block ?_
  refine esk rfl ?_
  refine esr rfl fun _ K23 => ?_
  refine ent_o rfl (ok_add rfl rfl (by omega) (by omega)) ?_
  refine emm rfl ?_
  refine enk K23 ?_
  refine ent_block ?_
  refine ent_loop (fun (ss : Int × L3) => match ss with | (b, Z) => (⟨[(0, aMach c), (2, aEx (vec rr2 ((Hs).length) cc2)), (3, aEx (vec rr7 ((Ks).length) cc7)), (7, aEx (vec r53_12 ((Hs ++ Ks).length) cr53_12)), (8, aInt a), (9, aInt b), (57, aInt c.k), (58, aInt a)], [oVec r53_12 cr53_12 42 1 false aH (Hs ++ Ks), oVec rr7 cc7 42 1 false aH Ks, oRws 22 aInts [] (Hs ++ Ks) Z, oVec rr2 cc2 42 1 false aH Hs]⟩ : St)) (fun (ss : Int × L3) => match ss with | (b, Z) => (a < b) ∧ (b ≤ c.n) ∧ (c.TgI hF Z a b)) (fun (ss : Int × L3) => match ss with | (b, Z) => (c.n - b).toNat) (a + 1, Y) ⟨(by omega), (by omega), T⟩ (ent_rep ⟨rfl, rfl, rfl, rfl, rfl, rfl, rfl, rfl, trivial⟩ rfl) ?_
  rintro ⟨b, Z⟩ ⟨b0, b1, T2⟩
  show Ent _ ⟨_, [_, _, _, _]⟩ _
  have hZl := T2.tr.len
  refine ent_seq fun _ K24 => ?_
  refine esr rfl fun _ K25 => ?_
  refine ent_o rfl (ok_nilCheck rfl) ?_
  refine ent_o rfl (ok_fieldAddr1 runUnderlying84 rfl sizeOf3 rfl rfl) ?_
  refine ent_o rfl (ok_load ti3 rfl) ?_
  refine ent_o rfl (ok_lss rfl rfl) ?_
  refine enk K25 ?_
  refine ent_condD rfl (fun h68 => ?_) (fun h68 => ?_)
  ·refine esp K24 ?_
   refine ent_seq fun _ K26 => ?_
   refine ent_block ?_
   refine ent_region ?_
   refine emm rfl ?_
   refine ent_pm 4 [3, 1, 2, 0] rfl (by decide) rfl ?_
   refine ent_callW (rs := [oVec rr7 cc7 42 1 false aH Ks, oVec rr2 cc2 42 1 false aH Hs]) [] rfl (clear_ok c r53_12 cr53_12 (Hs ++ Ks) Z a a b (40 * 2 ^ (Cnv.clN a + (b - a - 1).toNat)) ‹_› T2.tr T2.lb (Cnv.clN_pow hn6 a0 (by omega) b0 (by omega)) hkn.2 (by omega) (by simp; omega) a0 (by omega) a0 (by omega) (by omega) (by omega) (by omega)) rfl rfl (.inl rfl) ⟨arg_a rfl (cv_id (sub_lent _)), arg_a rfl (cv_ex (congrArg (fun n => vec r53_12 n cr53_12) (show (Hs ++ Ks).length = (Hs ++ Ks).length by rfl))), arg_a rfl (cv_id (sub_lent _)), arg_a rfl (cv_id (sub_lent _)), arg_a rfl (cv_id (sub_lent _)), trivial⟩ ?_
   rintro Y_14 h76_14
   show Ent _ ⟨_ :: _, [_, _, _, _]⟩ _
   refine ent_pm 4 [3, 1, 2, 0] rfl (by decide) rfl ?_
   obtain ⟨_, hCL, hz⟩ := h76_14
   refine enk K26 ?_
   refine ent_region ?_
   refine emm rfl ?_
   refine ent_o rfl (ok_add rfl rfl (by omega) (by omega)) ?_
   refine emm rfl ?_
   refine ent_nil ?_
   refine ent_again (s := (b, Z)) (b + 1, Y_14) ⟨(by omega), ‹_›, (T2.step (by omega) a0 (by omega) b0 (by omega) hCL hz)⟩ (by dsimp only; omega) (ent_rep ⟨rfl, rfl, rfl, rfl, rfl, rfl, rfl, rfl, trivial⟩ rfl)
  refine ent_exit ?_
  refine ent_k K21 ?_
  refine ent_region ?_
  refine ent_o rfl (ok_add rfl rfl (by omega) (by omega)) ?_
  refine emm rfl ?_
  refine ent_nil ?_
  refine ent_again (s := (a, Y)) (a + 1, Z) ⟨(by omega), ‹_›, (T2.row hn6 a0 (by omega) (by omega) (by omega) b1)⟩ (by dsimp only; omega) (ent_rep ⟨rfl, rfl, rfl, rfl, rfl, rfl, trivial⟩ rfl)
 refine ent_exit ?_
 refine ent_k K17 ?_
 refine ent_seq fun _ K27 => ?_
 have hae : a = c.k := by omega
 subst hae
 have hYl := T.tr.len
 refine ent_partRows 2 Hs Ks (List.take c.Gen.length Y) (List.drop c.Gen.length Y) rfl rfl (by exact (List.take_append_drop _ _).symm) (by rw [List.length_take]; omega) ?_
 refine ent_region ?_
 refine emm rfl ?_
 refine enk K27 ?_
 refine ent_ret ?_
 refine ent_drop 1 ?_
 refine ent_pm 4 [0, 1, 2, 3] rfl (by decide) rfl ?_
 exact retW (.inr rfl) (rr2, cc2, Hs, rr7, cc7, Ks, Y) (⟨by omega, by omega, hF, T⟩) ((show ([oVec rr2 cc2 42 1 false aH Hs, oRws 22 aInts [] Hs (List.take c.Gen.length Y), oVec rr7 cc7 42 1 false aH Ks, oRws 22 aInts [] Ks (List.drop c.Gen.length Y)] : List Own) = [oVec rr2 cc2 42 1 false aH Hs, oRws 22 aInts [] Hs (List.take c.Gen.length Y), oVec rr7 cc7 42 1 false aH Ks, oRws 22 aInts [] Ks (List.drop c.Gen.length Y)] from rfl).symm) (resW2 results78 (resr_tmp (res_cv rfl (cv_ex (show vec rr2 ((Hs).length) cc2 = vec rr2 Hs.length cc2 by rfl)))) (resr_tmp (res_cv rfl (cv_ex (show vec rr7 ((Ks).length) cc7 = vec rr7 Ks.length cc7 by rfl)))))
end Go.Proofs.Ytfjhbdfgbpcchaa

