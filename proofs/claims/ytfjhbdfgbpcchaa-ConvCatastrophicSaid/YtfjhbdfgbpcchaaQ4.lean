/-
  Walks of functions of the program and the reference.
-/
import Derived.Test.YtfjhbdfgbpcchaaQ3
open Go Go.Cw
namespace Go.Proofs.Ytfjhbdfgbpcchaa
open Try
set_option maxRecDepth 100000
set_option linter.unusedVariables false
set_option linter.unusedSimpArgs false
theorem rpCanon_ok (f : Fld) (p : List Int) (hF : FOk f) (hp : p.length ≤ 1000000) : Ctr Try.prog 83 [aFld f, aSl 1 false aInt p] (aSl 1 false aInt (cnrP hF p)) := by
 have hS := hF.1
 have lmp : (p.map (inF f)).length = p.length := List.length_map _
 have ltm := trimN_le (p.map (inF f))
 have ltl := length_trimL (p.map (inF f))
 refine ctr_of Try.call83 func83 rfl rfl ?_
 intro w O
 refine ent_lenC 0 2 rfl rfl (fun hlen0_2 => ?_)
 refine ent_len 1 rfl (fun hlen1 => ?_)
 refine esr rfl fun _ K1 => ?_
 refine ent_boxS rfl rfl (AllOne.mem ⟨(one_int _), (one_int _), one_sl, trivial⟩) (fun b2_1 => ?_)
 refine emm rfl ?_
 refine enk K1 ?_
 refine esk rfl ?_
 refine ent_seq fun _ K3 => ?_
 refine esk rfl ?_
 refine ent_block ?_
 refine ent_loop (fun (i : Int) => (⟨[(1, aSl 1 false aInt p), (2, aEx (.pointer (some ⟨b2_1, 0, none⟩))), (5, aInt (trimN ((p.map (inF f)).take i.toNat) : Int)), (6, aInt i)], [oBox b2_1 24 [aInt f.P, aInt f.M, aSl 1 false aInt f.mod]]⟩ : St)) (fun (i : Int) => (0 ≤ i) ∧ (i ≤ p.length)) (fun (i : Int) => (p.length - i).toNat) 0 ⟨(by omega), (by omega)⟩ (ent_rep ⟨rfl, rfl, slot_av (av_int (show 0 = (trimN ((p.map (inF f)).take (0 : Int).toNat) : Int) by rfl)), slot_av (av_int (show 0 = (0 : Int) by rfl)), trivial⟩ rfl) ?_
 rintro i ⟨i0, i1⟩
 show Ent _ ⟨_, [_]⟩ _
 have ltk := trimN_le ((p.map (inF f)).take i.toNat)
 have ltk2 : ((p.map (inF f)).take i.toNat).length ≤ i.toNat := by rw [List.length_take]; omega
 refine ent_seq fun _ K5 => ?_
 refine esr rfl fun _ K6 => ?_
 refine ent_o rfl (ok_len rfl runUnderlying22 rfl) ?_
 refine ent_o rfl (ok_lss rfl rfl) ?_
 refine enk K6 ?_
 refine ent_condD rfl (fun h12 => ?_) (fun h12 => ?_)
 ·have hmi := ix_map_inF f p i0 h12
  have htt := trimN_take (l := p.map (inF f)) i0 (by omega)
  rw [hmi] at htt
  refine esp K5 ?_
  refine ent_seq fun _ K7 => ?_
  refine ent_block ?_
  refine ent_seq fun _ K8 => ?_
  refine ent_draw 7 mixed (by kernel_rfl) (by kernel_rfl) (by kernel_rfl) ?_
  refine dw_o rfl (ok_loadBS (k := 0) ti24 rfl rfl rfl) ?_
  refine dw_o rfl (ok_move rfl) ?_
  refine dw_o rfl (ok_move rfl) ?_
  refine dw_o rfl (ok_index 0 sl22 rfl rfl (by omega) (by omega)) ?_
  refine dw_o rfl (ok_load ti3 rfl) ?_
  refine dw_o rfl (ok_call (rIn_ok f (ix 0 p i)) rfl) ?_
  refine dw_o rfl (ok_neq rfl rfl) ?_
  refine dw_nil ?_
  refine enk K8 ?_
  refine ent_condD rfl (fun h21 => ?_) (fun h21 => ?_)
  ·refine ent_region ?_
   refine emm rfl ?_
   refine ent_o rfl (ok_add rfl rfl (by omega) (by omega)) ?_
   refine emm rfl ?_
   refine enk K7 ?_
   refine ent_region ?_
   refine emm rfl ?_
   refine ent_o rfl (ok_add rfl rfl (by omega) (by omega)) ?_
   refine emm rfl ?_
   refine ent_nil ?_
   refine ent_again (s := (i)) (i + 1) ⟨(by omega), ‹_›⟩ (by omega) (ent_rep ⟨rfl, rfl, slot_av (av_int (show i + 1 = (trimN ((p.map (inF f)).take (i + 1).toNat) : Int) by rw [htt, if_neg h21])), rfl, trivial⟩ rfl)
  refine esp K7 ?_
  refine ent_region ?_
  refine emm rfl ?_
  refine ent_o rfl (ok_add rfl rfl (by omega) (by omega)) ?_
  refine emm rfl ?_
  refine ent_nil ?_
  refine ent_again (s := (i)) (i + 1) ⟨(by omega), ‹_›⟩ (by omega) (ent_rep ⟨rfl, rfl, slot_av (av_int (show (trimN ((p.map (inF f)).take i.toNat) : Int) = (trimN ((p.map (inF f)).take (i + 1).toNat) : Int) by rw [htt, if_pos (Classical.not_not.1 h21)])), rfl, trivial⟩ rfl)
 have hta : (p.map (inF f)).take i.toNat = p.map (inF f) := List.take_of_length_le (by omega)
 refine ent_exit ?_
 refine ent_k K3 ?_
 refine esr rfl fun _ K9 => ?_
 refine ent_make aInt 0 rfl vt22 rfl rfl (by omega) (by omega) (by omega) (fun _ _ => rfl) (AllV.mem ⟨rfl, trivial⟩) (fun b25_2 => ?_)
 refine emm rfl ?_
 refine enk K9 ?_
 refine ent_seq fun _ K10 => ?_
 refine esk rfl ?_
 refine ent_block ?_
 refine ent_loop (fun (j : Int) => (⟨[(1, aSl 1 false aInt p), (2, aEx (.pointer (some ⟨b2_1, 0, none⟩))), (5, aInt (trimN ((p.map (inF f)).take i.toNat) : Int)), (7, aEx (vec (some b25_2) (((trimN ((p.map (inF f)).take i.toNat) : Int)).toNat) (((trimN ((p.map (inF f)).take i.toNat) : Int)).toNat))), (8, aInt j)], [oVec (some b25_2) (((trimN ((p.map (inF f)).take i.toNat) : Int)).toNat) 3 1 false aInt (mixL (trimL (p.map (inF f))) (List.replicate (trimN (p.map (inF f))) 0) j), oBox b2_1 24 [aInt f.P, aInt f.M, aSl 1 false aInt f.mod]]⟩ : St)) (fun (j : Int) => (0 ≤ j) ∧ (j ≤ trimN (p.map (inF f)))) (fun (j : Int) => (trimN (p.map (inF f)) - j).toNat) 0 ⟨(by omega), (by omega)⟩ (ent_rep ⟨rfl, rfl, rfl, rfl, slot_av (av_int (show 0 = (0 : Int) by rfl)), trivial⟩ (own_cons (own_vec (show mixL (trimL (p.map (inF f))) (List.replicate (trimN (p.map (inF f))) 0) (0 : Int) = List.replicate (((trimN ((p.map (inF f)).take i.toNat) : Int)).toNat) 0 by rw [mixL_zero, hta]; rfl)) (rfl))) ?_
 rintro j ⟨j0, j1⟩
 show Ent _ ⟨_, [_, _]⟩ _
 have lmj : (mixL (trimL (p.map (inF f))) (List.replicate (trimN (p.map (inF f))) 0) j).length = trimN (p.map (inF f)) := by rw [length_mixL _ _ (by simp; omega)]; simp
 refine ent_seq fun _ K12 => ?_
 refine esr rfl fun _ K13 => ?_
 refine ent_o rfl (ok_lss rfl rfl) ?_
 refine enk K13 ?_
 refine ent_condD rfl (fun h28 => ?_) (fun h28 => ?_)
 ·have htc := congrArg trimN hta
  have hmj := ix_map_inF f p j0 (show j < p.length by omega)
  have hst : inF f (ix 0 p j) = ix 0 (trimL (p.map (inF f))) j := by have := ix_trimL (p.map (inF f)) j.toNat; rw [show ((j.toNat : Nat) : Int) = j by omega] at this; rw [this, hmj]
  refine esp K12 ?_
  refine ent_seq fun _ K14 => ?_
  refine ent_block ?_
  refine ent_draw 9 mixed (by kernel_rfl) (by kernel_rfl) (by kernel_rfl) ?_
  refine dw_o rfl (ok_move rfl) ?_
  refine dw_o rfl (ok_move rfl) ?_
  refine dw_o rfl (ok_loadBS (k := 1) ti24 rfl rfl rfl) ?_
  refine dw_o rfl (ok_move rfl) ?_
  refine dw_o rfl (ok_move rfl) ?_
  refine dw_o rfl (ok_index 0 sl22 rfl rfl (by omega) (by omega)) ?_
  refine dw_o rfl (ok_load ti3 rfl) ?_
  refine dw_o rfl (ok_call (rIn_ok f (ix 0 p j)) rfl) ?_
  refine dw_o rfl (ok_indexV sl22 rfl rfl (by omega) (by omega)) ?_
  refine dw_nil ?_
  refine ent_storeV (k := 0) (z := inF f (ix 0 p j)) ti3 rfl rfl rfl (elem_one (one_int _)) (by omega) (by omega) ?_
  refine enk K14 ?_
  refine ent_region ?_
  refine emm rfl ?_
  refine ent_o rfl (ok_add rfl rfl (by omega) (by omega)) ?_
  refine emm rfl ?_
  refine ent_nil ?_
  refine ent_again (s := (j)) (j + 1) ⟨(by omega), (by omega)⟩ (by omega) (ent_rep ⟨rfl, rfl, rfl, rfl, rfl, trivial⟩ (own_cons (own_vec (show mixL (trimL (p.map (inF f))) (List.replicate (trimN (p.map (inF f))) 0) (j + 1) = List.set (mixL (trimL (p.map (inF f))) (List.replicate (trimN (p.map (inF f))) 0) j) (j).toNat (inF f (ix 0 p j)) by exact (mixL_set _ _ j0 (by simp; omega) (by simp; omega) hst).symm)) (rfl)))
 have htc := congrArg trimN hta
 refine ent_exit ?_
 refine ent_k K10 ?_
 refine ent_seq fun _ K15 => ?_
 refine ent_give 0 7 rfl (cv_vec (k := 0) (off_erase rfl) (by simp_all) rfl) ?_
 refine ent_region ?_
 refine emm rfl ?_
 refine enk K15 ?_
 refine ent_ret ?_
 exact retR1 (.inr rfl) results83 (resr_tmp (res_cv rfl (cv_sl sub_x (by rw [mixL_all _ _ (by omega) (by rw [List.length_replicate]; omega)]; exact cnrP_eq hF p))))

theorem rpAt_ok (f : Fld) (p : List Int) (i : Int) (hF : FOk f) (i0 : 0 ≤ i) : Ctr Try.prog 139 [aFld f, aSl 1 false aInt p, aInt i] (aInt (inF f (ix 0 p i))) := by
 have hS := hF.1
 refine ctr_of Try.call139 func139 rfl rfl ?_
 intro w O
 refine ent_lenC 0 2 rfl rfl (fun hlen0_2 => ?_)
 refine ent_len 1 rfl (fun hlen1 => ?_)
 refine esr rfl fun _ K1 => ?_
 refine ent_boxS rfl rfl (AllOne.mem ⟨(one_int _), (one_int _), one_sl, trivial⟩) (fun b3_1 => ?_)
 refine emm rfl ?_
 refine enk K1 ?_
 refine ent_seq fun _ K2 => ?_
 refine ent_seq fun _ K3 => ?_
 refine ent_cut (⟨[(1, aSl 1 false aInt p), (2, aInt i), (3, aEx (.pointer (some ⟨b3_1, 0, none⟩))), (14, aBool (decide ((i < 0) ∨ ((↑p.length : Int) ≤ i))))], [oBox b3_1 24 [aInt f.P, aInt f.M, aSl 1 false aInt f.mod]]⟩) ?_ ?_
 ·refine ent_region ?_
  refine emm rfl ?_
  refine ent_o rfl (ok_lss rfl rfl) ?_
  refine emm rfl ?_
  refine ent_guardXDf rfl rfl rfl rfl (fun hg9 => ?_) (fun hg9 => ?_)
  ·refine emm rfl ?_
   refine ent_guardXT rfl rfl rfl rfl (decide_eq_false hg9) ?_
   refine emm rfl ?_
   refine ent_guardXT rfl rfl rfl rfl (decide_eq_false hg9) ?_
   refine ent_o rfl (ok_len rfl runUnderlying22 rfl) ?_
   refine ent_guardXT rfl rfl rfl rfl (decide_eq_false hg9) ?_
   refine ent_o rfl (ok_geq rfl rfl) ?_
   refine ent_o rfl (ok_pickF rfl (decide_eq_false hg9) rfl) ?_
   refine ent_nil ?_
   exact ent_rep ⟨rfl, rfl, rfl, slot_bool (dq_Q ((or_iff_right hg9).trans Iff.rfl)), trivial⟩ rfl
  refine ent_guardXF rfl rfl rfl rfl (decide_eq_true hg9) ?_
  refine ent_guardXF rfl rfl rfl rfl (decide_eq_true hg9) ?_
  refine ent_guardXF rfl rfl rfl rfl (decide_eq_true hg9) ?_
  refine ent_o rfl (ok_pickT rfl (decide_eq_true hg9) rfl) ?_
  refine ent_nil ?_
  exact ent_rep ⟨rfl, rfl, rfl, slot_bool (dq_T rfl (Or.inl hg9)), trivial⟩ rfl
 refine ent_k K3 ?_
 refine ent_condD rfl (fun h14 => ?_) (fun h14 => ?_)
 ·refine esk rfl ?_
  refine ent_ret ?_
  exact retR1 (.inr rfl) results139 (resr_tmp (res_cv rfl (cv_int (by exact (at_out hS (by omega)).symm))))
 refine esp K2 ?_
 refine ent_seq fun _ K5 => ?_
 refine ent_draw 7 mixed (by kernel_rfl) (by kernel_rfl) (by kernel_rfl) ?_
 refine dw_o rfl (ok_loadBS (k := 0) ti24 rfl rfl rfl) ?_
 refine dw_o rfl (ok_move rfl) ?_
 refine dw_o rfl (ok_move rfl) ?_
 refine dw_o rfl (ok_index 0 sl22 rfl rfl (by omega) (by omega)) ?_
 refine dw_o rfl (ok_load ti3 rfl) ?_
 refine dw_o rfl (ok_call (rIn_ok f (ix 0 p i)) rfl) ?_
 refine dw_o rfl (ok_assign rfl) ?_
 refine dw_nil ?_
 refine enk K5 ?_
 refine ent_ret ?_
 exact retR1 (.inr rfl) results139 (resr_tmp (res_cv rfl (cv_int rfl)))

theorem rpAdd_ok (f : Fld) (p q : List Int) (hF : FOk f) (hp : p.length ≤ 1000000) (hq : q.length ≤ 1000000) : Ctr Try.prog 120 [aFld f, aSl 1 false aInt p, aSl 1 false aInt q] (aSl 1 false aInt (addP hF p q)) := by
 have hS := hF.1
 refine ctr_of Try.call120 func120 rfl rfl ?_
 intro w O
 refine ent_lenC 0 2 rfl rfl (fun hlen0_2 => ?_)
 refine ent_len 1 rfl (fun hlen1 => ?_)
 refine ent_len 2 rfl (fun hlen2 => ?_)
 refine esr rfl fun _ K1 => ?_
 refine ent_boxS rfl rfl (AllOne.mem ⟨(one_int _), (one_int _), one_sl, trivial⟩) (fun b3_1 => ?_)
 refine emm rfl ?_
 refine enk K1 ?_
 refine esr rfl fun _ K2 => ?_
 refine ent_o rfl (ok_len rfl runUnderlying22 rfl) ?_
 refine emm rfl ?_
 refine ent_o rfl (ok_len rfl runUnderlying22 rfl) ?_
 refine ent_o rfl (ok_max rfl rfl) ?_
 refine ent_make aInt 0 rfl vt22 rfl rfl (by omega) (by omega) (by omega) (fun _ _ => rfl) (AllV.mem ⟨rfl, trivial⟩) (fun b14_2 => ?_)
 refine emm rfl ?_
 refine enk K2 ?_
 refine ent_seq fun _ K3 => ?_
 refine esk rfl ?_
 refine ent_block ?_
 refine ent_loop (fun (ss : Int × List Int) => match ss with | (i, L) => (⟨[(1, aSl 1 false aInt p), (2, aSl 1 false aInt q), (3, aEx (.pointer (some ⟨b3_1, 0, none⟩))), (7, aEx (vec (some b14_2) ((max (↑p.length : Int) (↑q.length : Int)).toNat) ((max (↑p.length : Int) (↑q.length : Int)).toNat))), (8, aInt i)], [oVec (some b14_2) ((max (↑p.length : Int) (↑q.length : Int)).toNat) 3 1 false aInt L, oBox b3_1 24 [aInt f.P, aInt f.M, aSl 1 false aInt f.mod]]⟩ : St)) (fun (ss : Int × List Int) => match ss with | (i, L) => (0 ≤ i) ∧ (i ≤ max (p.length : Int) q.length) ∧ ((L.length : Int) = max (p.length : Int) q.length) ∧ (pS hF L = tk hF (pS hF p + pS hF q) i.toNat)) (fun (ss : Int × List Int) => match ss with | (i, L) => (max (p.length : Int) q.length - i).toNat) (0, List.replicate ((max (↑p.length : Int) (↑q.length : Int)).toNat) 0) ⟨(by omega), (by omega), (by rw [List.length_replicate]; omega), (by rw [pS_repl, show (0 : Int).toNat = 0 from rfl, tk_zero])⟩ (ent_rep ⟨rfl, rfl, rfl, rfl, slot_av (av_int (show 0 = (0 : Int) by rfl)), trivial⟩ rfl) ?_
 rintro ⟨i, L⟩ ⟨i0, i1, lL, eL⟩
 show Ent _ ⟨_, [_, _]⟩ _
 refine ent_seq fun _ K5 => ?_
 refine esr rfl fun _ K6 => ?_
 refine ent_o rfl (ok_lenEx rfl runUnderlying22 rfl) ?_
 refine ent_o rfl (ok_lss rfl rfl) ?_
 refine enk K6 ?_
 refine ent_condD rfl (fun h18 => ?_) (fun h18 => ?_)
 ·refine esp K5 ?_
  refine ent_seq fun _ K7 => ?_
  refine ent_block ?_
  refine ent_draw 13 mixed (by kernel_rfl) (by kernel_rfl) (by kernel_rfl) ?_
  refine dw_o rfl (ok_move rfl) ?_
  refine dw_o rfl (ok_move rfl) ?_
  refine dw_o rfl (ok_loadBS (k := 1) ti24 rfl rfl rfl) ?_
  refine dw_o rfl (ok_loadBS (k := 1) ti24 rfl rfl rfl) ?_
  refine dw_o rfl (ok_move rfl) ?_
  refine dw_o rfl (ok_move rfl) ?_
  refine dw_o rfl (ok_call (rpAt_ok f p i ‹_› i0) rfl) ?_
  refine dw_o rfl (ok_loadBS (k := 1) ti24 rfl rfl rfl) ?_
  refine dw_o rfl (ok_move rfl) ?_
  refine dw_o rfl (ok_move rfl) ?_
  refine dw_o rfl (ok_call (rpAt_ok f q i ‹_› i0) rfl) ?_
  refine dw_o rfl (ok_call (rAdd_ok f (inF f (ix 0 p i)) (inF f (ix 0 q i)) ‹_›) rfl) ?_
  refine dw_o rfl (ok_indexV sl22 rfl rfl (by omega) (by omega)) ?_
  refine dw_nil ?_
  refine ent_storeV (k := 0) (z := addF f (inF f (ix 0 p i)) (inF f (ix 0 q i))) ti3 rfl rfl rfl (elem_one (one_int _)) (by omega) (by omega) ?_
  refine enk K7 ?_
  refine ent_region ?_
  refine emm rfl ?_
  refine ent_o rfl (ok_add rfl rfl (by omega) (by omega)) ?_
  refine emm rfl ?_
  refine ent_nil ?_
  refine ent_again (s := (i, L)) (i + 1, List.set L (i).toNat (addF f (inF f (ix 0 p i)) (inF f (ix 0 q i)))) ⟨(by omega), (by omega), (by rw [List.length_set]; exact lL), (addP_step hF i0 (by omega) eL)⟩ (by dsimp only; omega) (ent_rep ⟨rfl, rfl, rfl, rfl, rfl, trivial⟩ rfl)
 refine ent_exit ?_
 refine ent_k K3 ?_
 refine ent_seq fun _ K8 => ?_
 refine ent_give 0 7 rfl (cv_vec (k := 0) (off_erase rfl) (by omega) rfl) ?_
 refine ent_region ?_
 refine ent_o rfl (ok_loadBS (k := 0) ti24 rfl rfl rfl) ?_
 refine emm rfl ?_
 refine ent_o rfl (ok_call (rpCanon_ok f L ‹_› (by omega)) rfl) ?_
 refine emm rfl ?_
 refine enk K8 ?_
 refine ent_ret ?_
 exact retR1 (.inr rfl) results120 (resr_tmp (res_cv rfl (cv_sl sub_x (by exact addP_end hF (by omega) eL))))

theorem rpScale_ok (f : Fld) (a : Int) (p : List Int) (hF : FOk f) (hp : p.length ≤ 1000000) : Ctr Try.prog 134 [aFld f, aInt a, aSl 1 false aInt p] (aSl 1 false aInt (sclP hF a p)) := by
 have hS := hF.1
 refine ctr_of Try.call134 func134 rfl rfl ?_
 intro w O
 refine ent_lenC 0 2 rfl rfl (fun hlen0_2 => ?_)
 refine ent_len 2 rfl (fun hlen2 => ?_)
 refine esr rfl fun _ K1 => ?_
 refine ent_boxS rfl rfl (AllOne.mem ⟨(one_int _), (one_int _), one_sl, trivial⟩) (fun b3_1 => ?_)
 refine emm rfl ?_
 refine enk K1 ?_
 refine esr rfl fun _ K2 => ?_
 refine ent_o rfl (ok_len rfl runUnderlying22 rfl) ?_
 refine ent_make aInt 0 rfl vt22 rfl rfl (by omega) (by omega) (by omega) (fun _ _ => rfl) (AllV.mem ⟨rfl, trivial⟩) (fun b11_2 => ?_)
 refine emm rfl ?_
 refine enk K2 ?_
 refine ent_seq fun _ K3 => ?_
 refine esk rfl ?_
 refine ent_block ?_
 refine ent_loop (fun (ss : Int × List Int) => match ss with | (i, L) => (⟨[(1, aInt a), (2, aSl 1 false aInt p), (3, aEx (.pointer (some ⟨b3_1, 0, none⟩))), (7, aEx (vec (some b11_2) (((↑p.length : Int)).toNat) (((↑p.length : Int)).toNat))), (8, aInt i)], [oVec (some b11_2) (((↑p.length : Int)).toNat) 3 1 false aInt L, oBox b3_1 24 [aInt f.P, aInt f.M, aSl 1 false aInt f.mod]]⟩ : St)) (fun (ss : Int × List Int) => match ss with | (i, L) => (0 ≤ i) ∧ (i ≤ p.length) ∧ (L.length = p.length) ∧ (pS hF L = tk hF (Ps.con (ke hF a) * pS hF p) i.toNat)) (fun (ss : Int × List Int) => match ss with | (i, L) => (p.length - i).toNat) (0, List.replicate (((↑p.length : Int)).toNat) 0) ⟨(by omega), (by omega), (by rw [List.length_replicate]; omega), (by rw [pS_repl, show (0 : Int).toNat = 0 from rfl, tk_zero])⟩ (ent_rep ⟨rfl, rfl, rfl, rfl, slot_av (av_int (show 0 = (0 : Int) by rfl)), trivial⟩ rfl) ?_
 rintro ⟨i, L⟩ ⟨i0, i1, lL, eL⟩
 show Ent _ ⟨_, [_, _]⟩ _
 refine ent_seq fun _ K5 => ?_
 refine esr rfl fun _ K6 => ?_
 refine ent_o rfl (ok_len rfl runUnderlying22 rfl) ?_
 refine ent_o rfl (ok_lss rfl rfl) ?_
 refine enk K6 ?_
 refine ent_condD rfl (fun h15 => ?_) (fun h15 => ?_)
 ·refine esp K5 ?_
  refine ent_seq fun _ K7 => ?_
  refine ent_block ?_
  refine ent_draw 10 mixed (by kernel_rfl) (by kernel_rfl) (by kernel_rfl) ?_
  refine dw_o rfl (ok_move rfl) ?_
  refine dw_o rfl (ok_move rfl) ?_
  refine dw_o rfl (ok_loadBS (k := 1) ti24 rfl rfl rfl) ?_
  refine dw_o rfl (ok_move rfl) ?_
  refine dw_o rfl (ok_move rfl) ?_
  refine dw_o rfl (ok_move rfl) ?_
  refine dw_o rfl (ok_index 0 sl22 rfl rfl (by omega) (by omega)) ?_
  refine dw_o rfl (ok_load ti3 rfl) ?_
  refine dw_o rfl (ok_call (rMul_ok f a (ix 0 p i) ‹_›) rfl) ?_
  refine dw_o rfl (ok_indexV sl22 rfl rfl (by omega) (by omega)) ?_
  refine dw_nil ?_
  refine ent_storeV (k := 0) (z := mulF f a (ix 0 p i)) ti3 rfl rfl rfl (elem_one (one_int _)) (by omega) (by omega) ?_
  refine enk K7 ?_
  refine ent_region ?_
  refine emm rfl ?_
  refine ent_o rfl (ok_add rfl rfl (by omega) (by omega)) ?_
  refine emm rfl ?_
  refine ent_nil ?_
  refine ent_again (s := (i, L)) (i + 1, List.set L (i).toNat (mulF f a (ix 0 p i))) ⟨(by omega), ‹_›, (by rw [List.length_set]; exact lL), (sclP_step hF i0 (by omega) eL)⟩ (by dsimp only; omega) (ent_rep ⟨rfl, rfl, rfl, rfl, rfl, trivial⟩ rfl)
 refine ent_exit ?_
 refine ent_k K3 ?_
 refine ent_seq fun _ K8 => ?_
 refine ent_give 0 7 rfl (cv_vec (k := 0) (off_erase rfl) (by simp_all) rfl) ?_
 refine ent_region ?_
 refine ent_o rfl (ok_loadBS (k := 0) ti24 rfl rfl rfl) ?_
 refine emm rfl ?_
 refine ent_o rfl (ok_call (rpCanon_ok f L ‹_› (by omega)) rfl) ?_
 refine emm rfl ?_
 refine enk K8 ?_
 refine ent_ret ?_
 exact retR1 (.inr rfl) results134 (resr_tmp (res_cv rfl (cv_sl sub_x (by exact sclP_end hF (by omega) eL))))

theorem rpSub_ok (f : Fld) (p q : List Int) (hF : FOk f) (hp : p.length ≤ 1000000) (hq : q.length ≤ 1000000) : Ctr Try.prog 136 [aFld f, aSl 1 false aInt p, aSl 1 false aInt q] (aSl 1 false aInt (subP hF p q)) := by
 have hS := hF.1
 have lsq := sclP_len hF (negF f 1) q
 refine ctr_of Try.call136 func136 rfl rfl ?_
 intro w O
 refine ent_lenC 0 2 rfl rfl (fun hlen0_2 => ?_)
 refine ent_len 1 rfl (fun hlen1 => ?_)
 refine ent_len 2 rfl (fun hlen2 => ?_)
 refine esr rfl fun _ K1 => ?_
 refine ent_boxS rfl rfl (AllOne.mem ⟨(one_int _), (one_int _), one_sl, trivial⟩) (fun b3_1 => ?_)
 refine emm rfl ?_
 refine enk K1 ?_
 refine ent_seq fun _ K2 => ?_
 refine ent_draw 9 mixed (by kernel_rfl) (by kernel_rfl) (by kernel_rfl) ?_
 refine dw_o rfl (ok_loadBS (k := 0) ti24 rfl rfl rfl) ?_
 refine dw_o rfl (ok_move rfl) ?_
 refine dw_o rfl (ok_loadBS (k := 0) ti24 rfl rfl rfl) ?_
 refine dw_o rfl (ok_loadBS (k := 0) ti24 rfl rfl rfl) ?_
 refine dw_o rfl (ok_call (rNeg_ok f 1 ‹_›) rfl) ?_
 refine dw_o rfl (ok_move rfl) ?_
 refine dw_o rfl (ok_call (rpScale_ok f (negF f 1) q ‹_› ‹_›) rfl) ?_
 refine dw_o rfl (ok_call (rpAdd_ok f p (sclP hF (negF f 1) q) ‹_› ‹_› (by omega)) rfl) ?_
 refine dw_o rfl (ok_assign rfl) ?_
 refine dw_nil ?_
 refine enk K2 ?_
 refine ent_ret ?_
 exact retR1 (.inr rfl) results136 (resr_tmp (res_cv rfl (cv_sl sub_x (by exact subP_add hF p q))))

theorem rpMul_ok (f : Fld) (p q : List Int) (hF : FOk f) (hp : p.length ≤ 500000) (hq : q.length ≤ 500000) : Ctr Try.prog 121 [aFld f, aSl 1 false aInt p, aSl 1 false aInt q] (aSl 1 false aInt (mulP hF p q)) := by
 have hS := hF.1
 have lp := cnrP_len hF p
 have lq := cnrP_len hF q
 refine ctr_of Try.call121 func121 rfl rfl ?_
 intro w O
 refine ent_lenC 0 2 rfl rfl (fun hlen0_2 => ?_)
 refine ent_len 1 rfl (fun hlen1 => ?_)
 refine ent_len 2 rfl (fun hlen2 => ?_)
 refine esr rfl fun _ K1 => ?_
 refine ent_boxS rfl rfl (AllOne.mem ⟨(one_int _), (one_int _), one_sl, trivial⟩) (fun b3_1 => ?_)
 refine emm rfl ?_
 refine enk K1 ?_
 refine esr rfl fun _ K2 => ?_
 refine ent_o rfl (ok_loadBS (k := 0) ti24 rfl rfl rfl) ?_
 refine emm rfl ?_
 refine ent_o rfl (ok_call (rpCanon_ok f p ‹_› (by omega)) rfl) ?_
 refine emm rfl ?_
 refine enk K2 ?_
 refine esr rfl fun _ K3 => ?_
 refine ent_o rfl (ok_loadBS (k := 0) ti24 rfl rfl rfl) ?_
 refine emm rfl ?_
 refine ent_o rfl (ok_call (rpCanon_ok f q ‹_› (by omega)) rfl) ?_
 refine emm rfl ?_
 refine enk K3 ?_
 refine esr rfl fun _ K4 => ?_
 refine ent_o rfl (ok_len rfl runUnderlying22 rfl) ?_
 refine emm rfl ?_
 refine ent_o rfl (ok_len rfl runUnderlying22 rfl) ?_
 refine ent_o rfl (ok_add rfl rfl (by omega) (by omega)) ?_
 refine ent_make aInt 0 rfl vt22 rfl rfl (by omega) (by omega) (by omega) (fun _ _ => rfl) (AllV.mem ⟨rfl, trivial⟩) (fun b21_2 => ?_)
 refine emm rfl ?_
 refine enk K4 ?_
 refine ent_seq fun _ K5 => ?_
 refine esk rfl ?_
 refine ent_block ?_
 refine ent_loop (fun (ss : Int × List Int) => match ss with | (i, L) => (⟨[(1, aSl 1 false aInt (cnrP hF p)), (2, aSl 1 false aInt (cnrP hF q)), (3, aEx (.pointer (some ⟨b3_1, 0, none⟩))), (7, aEx (vec (some b21_2) (((↑(cnrP hF p).length : Int) + (↑(cnrP hF q).length : Int)).toNat) (((↑(cnrP hF p).length : Int) + (↑(cnrP hF q).length : Int)).toNat))), (8, aInt i)], [oVec (some b21_2) (((↑(cnrP hF p).length : Int) + (↑(cnrP hF q).length : Int)).toNat) 3 1 false aInt L, oBox b3_1 24 [aInt f.P, aInt f.M, aSl 1 false aInt f.mod]]⟩ : St)) (fun (ss : Int × List Int) => match ss with | (i, L) => (0 ≤ i) ∧ (i ≤ (cnrP hF p).length) ∧ ((L.length : Int) = (cnrP hF p).length + (cnrP hF q).length) ∧ (pS hF L = prT hF (cnrP hF p) (cnrP hF q) i 0)) (fun (ss : Int × List Int) => match ss with | (i, L) => ((cnrP hF p).length - i).toNat) (0, List.replicate (((↑(cnrP hF p).length : Int) + (↑(cnrP hF q).length : Int)).toNat) 0) ⟨(by omega), (by omega), (by rw [List.length_replicate]; omega), (by rw [pS_repl, prT_zero])⟩ (ent_rep ⟨rfl, rfl, rfl, rfl, slot_av (av_int (show 0 = (0 : Int) by rfl)), trivial⟩ rfl) ?_
 rintro ⟨i, L⟩ ⟨i0, i1, lL, eL⟩
 show Ent _ ⟨_, [_, _]⟩ _
 refine ent_seq fun _ K7 => ?_
 refine esr rfl fun _ K8 => ?_
 refine ent_o rfl (ok_len rfl runUnderlying22 rfl) ?_
 refine ent_o rfl (ok_lss rfl rfl) ?_
 refine enk K8 ?_
 refine ent_condD rfl (fun h25 => ?_) (fun h25 => ?_)
 ·refine esp K7 ?_
  refine ent_seq fun _ K9 => ?_
  refine ent_block ?_
  refine esk rfl ?_
  refine ent_block ?_
  refine ent_loop (fun (ss : Int × List Int) => match ss with | (j, M) => (⟨[(1, aSl 1 false aInt (cnrP hF p)), (2, aSl 1 false aInt (cnrP hF q)), (3, aEx (.pointer (some ⟨b3_1, 0, none⟩))), (7, aEx (vec (some b21_2) (((↑(cnrP hF p).length : Int) + (↑(cnrP hF q).length : Int)).toNat) (((↑(cnrP hF p).length : Int) + (↑(cnrP hF q).length : Int)).toNat))), (8, aInt i), (9, aInt j)], [oVec (some b21_2) (((↑(cnrP hF p).length : Int) + (↑(cnrP hF q).length : Int)).toNat) 3 1 false aInt M, oBox b3_1 24 [aInt f.P, aInt f.M, aSl 1 false aInt f.mod]]⟩ : St)) (fun (ss : Int × List Int) => match ss with | (j, M) => (0 ≤ j) ∧ (j ≤ (cnrP hF q).length) ∧ ((M.length : Int) = (cnrP hF p).length + (cnrP hF q).length) ∧ (pS hF M = prT hF (cnrP hF p) (cnrP hF q) i j)) (fun (ss : Int × List Int) => match ss with | (j, M) => ((cnrP hF q).length - j).toNat) (0, L) ⟨(by omega), (by omega), lL, eL⟩ (ent_rep ⟨rfl, rfl, rfl, rfl, rfl, slot_av (av_int (show 0 = (0 : Int) by rfl)), trivial⟩ rfl) ?_
  rintro ⟨j, M⟩ ⟨j0, j1, lM, eM⟩
  show Ent _ ⟨_, [_, _]⟩ _
  refine ent_seq fun _ K11 => ?_
  refine esr rfl fun _ K12 => ?_
  refine ent_o rfl (ok_len rfl runUnderlying22 rfl) ?_
  refine ent_o rfl (ok_lss rfl rfl) ?_
  refine enk K12 ?_
  refine ent_condD rfl (fun h31 => ?_) (fun h31 => ?_)
  ·refine esp K11 ?_
   refine ent_seq fun _ K13 => ?_
   refine ent_block ?_
   refine ent_draw 23 mixed (by kernel_rfl) (by kernel_rfl) (by kernel_rfl) ?_
   refine dw_o rfl (ok_move rfl) ?_
   refine dw_o rfl (ok_move rfl) ?_
   refine dw_o rfl (ok_move rfl) ?_
   refine dw_o rfl (ok_add rfl rfl (by omega) (by omega)) ?_
   refine dw_o rfl (ok_loadBS (k := 1) ti24 rfl rfl rfl) ?_
   refine dw_o rfl (ok_move rfl) ?_
   refine dw_o rfl (ok_move rfl) ?_
   refine dw_o rfl (ok_move rfl) ?_
   refine dw_o rfl (ok_add rfl rfl (by omega) (by omega)) ?_
   refine dw_o rfl (ok_indexV sl22 rfl rfl (by omega) (by omega)) ?_
   refine dw_o rfl (ok_loadV (k := 0) 0 ti3 rfl rfl (by omega) (by omega)) ?_
   refine dw_o rfl (ok_loadBS (k := 1) ti24 rfl rfl rfl) ?_
   refine dw_o rfl (ok_move rfl) ?_
   refine dw_o rfl (ok_move rfl) ?_
   refine dw_o rfl (ok_index 0 sl22 rfl rfl (by omega) (by omega)) ?_
   refine dw_o rfl (ok_load ti3 rfl) ?_
   refine dw_o rfl (ok_move rfl) ?_
   refine dw_o rfl (ok_move rfl) ?_
   refine dw_o rfl (ok_index 0 sl22 rfl rfl (by omega) (by omega)) ?_
   refine dw_o rfl (ok_load ti3 rfl) ?_
   refine dw_o rfl (ok_call (rMul_ok f (ix 0 (cnrP hF p) i) (ix 0 (cnrP hF q) j) ‹_›) rfl) ?_
   refine dw_o rfl (ok_call (rAdd_ok f (ix 0 M (i + j)) (mulF f (ix 0 (cnrP hF p) i) (ix 0 (cnrP hF q) j)) ‹_›) rfl) ?_
   refine dw_o rfl (ok_indexV sl22 rfl rfl (by omega) (by omega)) ?_
   refine dw_nil ?_
   refine ent_storeV (k := 0) (z := addF f (ix 0 M (i + j)) (mulF f (ix 0 (cnrP hF p) i) (ix 0 (cnrP hF q) j))) ti3 rfl rfl rfl (elem_one (one_int _)) (by omega) (by omega) ?_
   refine enk K13 ?_
   refine ent_region ?_
   refine emm rfl ?_
   refine ent_o rfl (ok_add rfl rfl (by omega) (by omega)) ?_
   refine emm rfl ?_
   refine ent_nil ?_
   refine ent_again (s := (j, M)) (j + 1, List.set M (i + j).toNat (addF f (ix 0 M (i + j)) (mulF f (ix 0 (cnrP hF p) i) (ix 0 (cnrP hF q) j)))) ⟨(by omega), ‹_›, (by rw [List.length_set]; exact lM), (prT_step hF _ _ i0 j0 (by omega) eM rfl)⟩ (by dsimp only; omega) (ent_rep ⟨rfl, rfl, rfl, rfl, rfl, rfl, trivial⟩ rfl)
  refine ent_exit ?_
  refine ent_k K9 ?_
  refine ent_region ?_
  refine emm rfl ?_
  refine ent_o rfl (ok_add rfl rfl (by omega) (by omega)) ?_
  refine emm rfl ?_
  refine ent_nil ?_
  refine ent_again (s := (i, L)) (i + 1, M) ⟨(by omega), ‹_›, lM, (by rw [eM]; exact prT_row hF _ _ i0 (by omega))⟩ (by dsimp only; omega) (ent_rep ⟨rfl, rfl, rfl, rfl, rfl, trivial⟩ rfl)
 refine ent_exit ?_
 refine ent_k K5 ?_
 refine ent_seq fun _ K14 => ?_
 refine ent_give 0 7 rfl (cv_vec (k := 0) (off_erase rfl) (by omega) rfl) ?_
 refine ent_region ?_
 refine ent_o rfl (ok_loadBS (k := 0) ti24 rfl rfl rfl) ?_
 refine emm rfl ?_
 refine ent_o rfl (ok_call (rpCanon_ok f L ‹_› (by omega)) rfl) ?_
 refine emm rfl ?_
 refine enk K14 ?_
 refine ent_ret ?_
 exact retR1 (.inr rfl) results121 (resr_tmp (res_cv rfl (cv_sl sub_x (by exact mulP_endR hF (by omega) eL))))

theorem rpPower_ok (n : Int) (n0 : 0 ≤ n) (n1 : n ≤ 1000000) : Ctr Try.prog 149 [aInt n] (aSl 1 false aInt (pwrL n)) := by
 refine ctr_of Try.call149 func149 rfl rfl ?_
 intro w O
 refine esk rfl ?_
 refine esr rfl fun _ K2 => ?_
 refine ent_o rfl (ok_add rfl rfl (by omega) (by omega)) ?_
 refine ent_make aInt 0 rfl vt22 rfl rfl (by omega) (by omega) (by omega) (fun _ _ => rfl) (AllV.mem ⟨rfl, trivial⟩) (fun b6_1 => ?_)
 refine emm rfl ?_
 refine enk K2 ?_
 refine esr rfl fun _ K3 => ?_
 refine ent_o rfl (ok_indexV sl22 rfl rfl (by omega) (by omega)) ?_
 refine ent_storeV (k := 0) (z := 1) ti3 rfl rfl rfl (elem_one (one_int _)) (by omega) (by simp only [List.length_replicate]; omega) ?_
 refine enk K3 ?_
 refine esk rfl ?_
 refine ent_ret ?_
 exact retR1 (.inr rfl) results149 (resr_tmp (res_cv rfl (cv_vec (k := 0) (off_x rfl) (by simp) rfl)))

theorem rpDivMod_ok (f : Fld) (p q : List Int) (hF : FOk f) (hp : p.length ≤ 100000) (hq : q.length ≤ 100000) (hne : (cnrP hF q).length ≠ 0) : Ctr Try.prog 137 [aFld f, aSl 1 false aInt p, aSl 1 false aInt q] (aTup [aSl 1 false aInt (quoP hF p q), aSl 1 false aInt (remP hF p q)]) := by
 have hS := hF.1
 have lp := cnrP_len hF p
 have lq := cnrP_len hF q
 have cp := cnrP_cn hF p
 have cq := cnrP_cn hF q
 refine ctr_of Try.call137 func137 rfl rfl ?_
 intro w O
 refine ent_lenC 0 2 rfl rfl (fun hlen0_2 => ?_)
 refine ent_len 1 rfl (fun hlen1 => ?_)
 refine ent_len 2 rfl (fun hlen2 => ?_)
 refine esr rfl fun _ K1 => ?_
 refine ent_boxS rfl rfl (AllOne.mem ⟨(one_int _), (one_int _), one_sl, trivial⟩) (fun b3_1 => ?_)
 refine emm rfl ?_
 refine enk K1 ?_
 refine esr rfl fun _ K2 => ?_
 refine ent_o rfl (ok_loadBS (k := 0) ti24 rfl rfl rfl) ?_
 refine emm rfl ?_
 refine ent_o rfl (ok_call (rpCanon_ok f q ‹_› (by omega)) rfl) ?_
 refine emm rfl ?_
 refine enk K2 ?_
 refine esr rfl fun _ K3 => ?_
 refine ent_o rfl (ok_loadBS (k := 0) ti24 rfl rfl rfl) ?_
 refine emm rfl ?_
 refine ent_o rfl (ok_call (rpCanon_ok f p ‹_› (by omega)) rfl) ?_
 refine emm rfl ?_
 refine enk K3 ?_
 refine esr rfl fun _ K4 => ?_
 refine ent_o rfl (ok_len rfl runUnderlying22 rfl) ?_
 refine ent_o rfl (ok_sub rfl rfl (by omega) (by omega)) ?_
 refine emm rfl ?_
 refine enk K4 ?_
 refine ent_seq fun _ K5 => ?_
 refine ent_draw 7 mixed (by kernel_rfl) (by kernel_rfl) (by kernel_rfl) ?_
 refine dw_o rfl (ok_loadBS (k := 0) ti24 rfl rfl rfl) ?_
 refine dw_o rfl (ok_move rfl) ?_
 refine dw_o rfl (ok_move rfl) ?_
 refine dw_o rfl (ok_index 0 sl22 rfl rfl (by omega) (by omega)) ?_
 refine dw_o rfl (ok_load ti3 rfl) ?_
 refine dw_o rfl (ok_call (rInv_ok f (ix 0 (cnrP hF q) ((↑(cnrP hF q).length : Int) - 1)) ‹_›) rfl) ?_
 refine dw_o rfl (ok_assign rfl) ?_
 refine dw_nil ?_
 refine enk K5 ?_
 refine esr rfl fun _ K6 => ?_
 refine ent_o rfl (ok_len rfl runUnderlying22 rfl) ?_
 refine emm rfl ?_
 refine ent_o rfl (ok_sub rfl rfl (by omega) (by omega)) ?_
 refine ent_o rfl (ok_max rfl rfl) ?_
 refine ent_make aInt 0 rfl vt22 rfl rfl (by omega) (by omega) (by omega) (fun _ _ => rfl) (AllV.mem ⟨rfl, trivial⟩) (fun b34_2 => ?_)
 refine emm rfl ?_
 refine enk K6 ?_
 refine ent_seq fun _ K7 => ?_
 refine ent_block ?_
 refine ent_loop (fun (ss : List Int × List Int) => match ss with | (R, Qs) => (⟨[(2, aSl 1 false aInt (cnrP hF q)), (3, aEx (.pointer (some ⟨b3_1, 0, none⟩))), (8, aSl 1 false aInt R), (9, aInt ((↑(cnrP hF q).length : Int) - 1)), (10, aInt (invF f (ix 0 (cnrP hF q) ((↑(cnrP hF q).length : Int) - 1)))), (11, aEx (vec (some b34_2) ((max ((↑(cnrP hF p).length : Int) - ((↑(cnrP hF q).length : Int) - 1)) 0).toNat) ((max ((↑(cnrP hF p).length : Int) - ((↑(cnrP hF q).length : Int) - 1)) 0).toNat)))], [oVec (some b34_2) ((max ((↑(cnrP hF p).length : Int) - ((↑(cnrP hF q).length : Int) - 1)) 0).toNat) 3 1 false aInt Qs, oBox b3_1 24 [aInt f.P, aInt f.M, aSl 1 false aInt f.mod]]⟩ : St)) (fun (ss : List Int × List Int) => match ss with | (R, Qs) => (RvI hF (cnrP hF p) (cnrP hF q) Qs R)) (fun (ss : List Int × List Int) => match ss with | (R, Qs) => R.length) (cnrP hF p, List.replicate ((max ((↑(cnrP hF p).length : Int) - ((↑(cnrP hF q).length : Int) - 1)) 0).toNat) 0) (RvI.start hF cp (by omega)) (ent_rep ⟨rfl, rfl, rfl, rfl, rfl, rfl, trivial⟩ rfl) ?_
 rintro ⟨R, Qs⟩ D
 show Ent _ ⟨_, [_, _]⟩ _
 replace D : RvI hF (cnrP hF p) (cnrP hF q) Qs R := D
 have lR := D.lR
 have lQ := D.lQ
 refine ent_seq fun _ K8 => ?_
 refine esr rfl fun _ K9 => ?_
 refine ent_o rfl (ok_len rfl runUnderlying22 rfl) ?_
 refine emm rfl ?_
 refine ent_o rfl (ok_gtr rfl rfl) ?_
 refine enk K9 ?_
 refine ent_condD rfl (fun h38 => ?_) (fun h38 => ?_)
 ·have hnx := RvI.next hF cq (by omega) D rfl (by omega) rfl
  have hsl := sclP_len hF (mulF f (ix 0 R ((R.length : Int) - 1)) (invF f (ix 0 (cnrP hF q) (((cnrP hF q).length : Int) - 1)))) (cnrP hF q)
  have hpl := length_pwrL (n := (R.length : Int) - 1 - ((cnrP hF q).length - 1)) (by omega)
  have hml := mulP_len hF (sclP hF (mulF f (ix 0 R ((R.length : Int) - 1)) (invF f (ix 0 (cnrP hF q) (((cnrP hF q).length : Int) - 1)))) (cnrP hF q)) (pwrL ((R.length : Int) - 1 - ((cnrP hF q).length - 1)))
  refine esp K8 ?_
  refine ent_block ?_
  refine esr rfl fun _ K10 => ?_
  refine ent_o rfl (ok_len rfl runUnderlying22 rfl) ?_
  refine ent_o rfl (ok_sub rfl rfl (by omega) (by omega)) ?_
  refine emm rfl ?_
  refine ent_o rfl (ok_sub rfl rfl (by omega) (by omega)) ?_
  refine emm rfl ?_
  refine enk K10 ?_
  refine ent_seq fun _ K11 => ?_
  refine ent_draw 10 mixed (by kernel_rfl) (by kernel_rfl) (by kernel_rfl) ?_
  refine dw_o rfl (ok_loadBS (k := 1) ti24 rfl rfl rfl) ?_
  refine dw_o rfl (ok_move rfl) ?_
  refine dw_o rfl (ok_move rfl) ?_
  refine dw_o rfl (ok_len rfl runUnderlying22 rfl) ?_
  refine dw_o rfl (ok_sub rfl rfl (by omega) (by omega)) ?_
  refine dw_o rfl (ok_index 0 sl22 rfl rfl (by omega) (by omega)) ?_
  refine dw_o rfl (ok_load ti3 rfl) ?_
  refine dw_o rfl (ok_move rfl) ?_
  refine dw_o rfl (ok_call (rMul_ok f (ix 0 R ((↑R.length : Int) - 1)) (invF f (ix 0 (cnrP hF q) ((↑(cnrP hF q).length : Int) - 1))) ‹_›) rfl) ?_
  refine dw_o rfl (ok_assign rfl) ?_
  refine dw_nil ?_
  refine enk K11 ?_
  refine esr rfl fun _ K12 => ?_
  refine ent_o rfl (ok_indexV sl22 rfl rfl (by omega) (by omega)) ?_
  refine ent_storeV (k := 0) (z := mulF f (ix 0 R ((↑R.length : Int) - 1)) (invF f (ix 0 (cnrP hF q) ((↑(cnrP hF q).length : Int) - 1)))) ti3 rfl rfl rfl (elem_one (one_int _)) (by omega) (by omega) ?_
  refine enk K12 ?_
  refine ent_draw 12 mixed (by kernel_rfl) (by kernel_rfl) (by kernel_rfl) ?_
  refine dw_o rfl (ok_loadBS (k := 1) ti24 rfl rfl rfl) ?_
  refine dw_o rfl (ok_move rfl) ?_
  refine dw_o rfl (ok_loadBS (k := 1) ti24 rfl rfl rfl) ?_
  refine dw_o rfl (ok_loadBS (k := 1) ti24 rfl rfl rfl) ?_
  refine dw_o rfl (ok_move rfl) ?_
  refine dw_o rfl (ok_move rfl) ?_
  refine dw_o rfl (ok_call (rpScale_ok f (mulF f (ix 0 R ((↑R.length : Int) - 1)) (invF f (ix 0 (cnrP hF q) ((↑(cnrP hF q).length : Int) - 1)))) (cnrP hF q) ‹_› (by omega)) rfl) ?_
  refine dw_o rfl (ok_move rfl) ?_
  refine dw_o rfl (ok_call (rpPower_ok (((↑R.length : Int) - 1) - ((↑(cnrP hF q).length : Int) - 1)) (by omega) (by omega)) rfl) ?_
  refine dw_o rfl (ok_call (rpMul_ok f (sclP hF (mulF f (ix 0 R ((↑R.length : Int) - 1)) (invF f (ix 0 (cnrP hF q) ((↑(cnrP hF q).length : Int) - 1)))) (cnrP hF q)) (pwrL (((↑R.length : Int) - 1) - ((↑(cnrP hF q).length : Int) - 1))) ‹_› (by omega) (by omega)) rfl) ?_
  refine dw_o rfl (ok_call (rpSub_ok f R (mulP hF (sclP hF (mulF f (ix 0 R ((↑R.length : Int) - 1)) (invF f (ix 0 (cnrP hF q) ((↑(cnrP hF q).length : Int) - 1)))) (cnrP hF q)) (pwrL (((↑R.length : Int) - 1) - ((↑(cnrP hF q).length : Int) - 1)))) ‹_› (by omega) (by omega)) rfl) ?_
  refine dw_o rfl (ok_assign rfl) ?_
  refine dw_nil ?_
  refine ent_nil ?_
  refine ent_again (s := (R, Qs)) (subP hF R (mulP hF (sclP hF (mulF f (ix 0 R ((↑R.length : Int) - 1)) (invF f (ix 0 (cnrP hF q) ((↑(cnrP hF q).length : Int) - 1)))) (cnrP hF q)) (pwrL (((↑R.length : Int) - 1) - ((↑(cnrP hF q).length : Int) - 1)))), List.set Qs (((↑R.length : Int) - 1) - ((↑(cnrP hF q).length : Int) - 1)).toNat (mulF f (ix 0 R ((↑R.length : Int) - 1)) (invF f (ix 0 (cnrP hF q) ((↑(cnrP hF q).length : Int) - 1))))) hnx.1 (hnx.2) (ent_rep ⟨rfl, rfl, rfl, rfl, rfl, rfl, trivial⟩ rfl)
 refine ent_exit ?_
 refine ent_k K7 ?_
 refine ent_seq fun _ K13 => ?_
 refine ent_give 0 11 rfl (cv_vec (k := 0) (off_erase rfl) (by omega) rfl) ?_
 have hdn := RvI.done hF cq (by omega) D (by omega)
 refine ent_region ?_
 refine ent_o rfl (ok_loadBS (k := 0) ti24 rfl rfl rfl) ?_
 refine emm rfl ?_
 refine ent_o rfl (ok_call (rpCanon_ok f Qs ‹_› (by omega)) rfl) ?_
 refine emm rfl ?_
 refine enk K13 ?_
 refine ent_ret ?_
 exact retR2 (.inr rfl) results137 (resr_tmp (res_cv rfl (cv_sl sub_x (by rw [hdn.1, quoP_cnr])))) (resr_tmp (res_cv rfl (cv_sl sub_x (by rw [hdn.2, remP_cnr]))))

theorem rpMonic_ok (f : Fld) (p : List Int) (hF : FOk f) (hp : p.length ≤ 1000000) : Ctr Try.prog 108 [aFld f, aSl 1 false aInt p] (aSl 1 false aInt (monP hF p)) := by
 have hS := hF.1
 have lp := cnrP_len hF p
 refine ctr_of Try.call108 func108 rfl rfl ?_
 intro w O
 refine ent_lenC 0 2 rfl rfl (fun hlen0_2 => ?_)
 refine ent_len 1 rfl (fun hlen1 => ?_)
 refine esr rfl fun _ K1 => ?_
 refine ent_boxS rfl rfl (AllOne.mem ⟨(one_int _), (one_int _), one_sl, trivial⟩) (fun b2_1 => ?_)
 refine emm rfl ?_
 refine enk K1 ?_
 refine esr rfl fun _ K2 => ?_
 refine ent_o rfl (ok_loadBS (k := 0) ti24 rfl rfl rfl) ?_
 refine emm rfl ?_
 refine ent_o rfl (ok_call (rpCanon_ok f p ‹_› ‹_›) rfl) ?_
 refine emm rfl ?_
 refine enk K2 ?_
 refine ent_seq fun _ K3 => ?_
 refine esr rfl fun _ K4 => ?_
 refine ent_o rfl (ok_len rfl runUnderlying22 rfl) ?_
 refine ent_o rfl (ok_eql rfl rfl) ?_
 refine enk K4 ?_
 refine ent_condD rfl (fun h10 => ?_) (fun h10 => ?_)
 ·refine esk rfl ?_
  refine ent_ret ?_
  exact retR1 (.inr rfl) results108 (resr_tmp (res_cv rfl (cv_sl sub_x (by rw [monP_nil hF (by omega)]; exact List.eq_nil_of_length_eq_zero (by omega)))))
 refine esp K3 ?_
 refine ent_seq fun _ K6 => ?_
 refine ent_draw 12 mixed (by kernel_rfl) (by kernel_rfl) (by kernel_rfl) ?_
 refine dw_o rfl (ok_loadBS (k := 0) ti24 rfl rfl rfl) ?_
 refine dw_o rfl (ok_loadBS (k := 0) ti24 rfl rfl rfl) ?_
 refine dw_o rfl (ok_move rfl) ?_
 refine dw_o rfl (ok_move rfl) ?_
 refine dw_o rfl (ok_len rfl runUnderlying22 rfl) ?_
 refine dw_o rfl (ok_sub rfl rfl (by omega) (by omega)) ?_
 refine dw_o rfl (ok_index 0 sl22 rfl rfl (by omega) (by omega)) ?_
 refine dw_o rfl (ok_load ti3 rfl) ?_
 refine dw_o rfl (ok_call (rInv_ok f (ix 0 (cnrP hF p) ((↑(cnrP hF p).length : Int) - 1)) ‹_›) rfl) ?_
 refine dw_o rfl (ok_move rfl) ?_
 refine dw_o rfl (ok_call (rpScale_ok f (invF f (ix 0 (cnrP hF p) ((↑(cnrP hF p).length : Int) - 1))) (cnrP hF p) ‹_› (by omega)) rfl) ?_
 refine dw_o rfl (ok_assign rfl) ?_
 refine dw_nil ?_
 refine enk K6 ?_
 refine ent_ret ?_
 exact retR1 (.inr rfl) results108 (resr_tmp (res_cv rfl (cv_sl sub_x (by rw [← monP_cnr]; exact monP_scl hF (cnrP_cn hF p) (by omega)))))

theorem rpGcd_ok (f : Fld) (p q : List Int) (hF : FOk f) (hp : p.length ≤ 100000) (hq : q.length ≤ 100000) : Ctr Try.prog 110 [aFld f, aSl 1 false aInt p, aSl 1 false aInt q] (aSl 1 false aInt (gcdP hF p q)) := by
 have hS := hF.1
 refine ctr_of Try.call110 func110 rfl rfl ?_
 intro w O
 refine ent_lenC 0 2 rfl rfl (fun hlen0_2 => ?_)
 refine ent_len 1 rfl (fun hlen1 => ?_)
 refine ent_len 2 rfl (fun hlen2 => ?_)
 refine esr rfl fun _ K1 => ?_
 refine ent_boxS rfl rfl (AllOne.mem ⟨(one_int _), (one_int _), one_sl, trivial⟩) (fun b3_1 => ?_)
 refine emm rfl ?_
 refine enk K1 ?_
 refine esr rfl fun _ K2 => ?_
 refine ent_o rfl (ok_loadBS (k := 0) ti24 rfl rfl rfl) ?_
 refine emm rfl ?_
 refine ent_o rfl (ok_call (rpCanon_ok f p ‹_› (by omega)) rfl) ?_
 refine emm rfl ?_
 refine enk K2 ?_
 refine esr rfl fun _ K3 => ?_
 refine ent_o rfl (ok_loadBS (k := 0) ti24 rfl rfl rfl) ?_
 refine emm rfl ?_
 refine ent_o rfl (ok_call (rpCanon_ok f q ‹_› (by omega)) rfl) ?_
 refine emm rfl ?_
 refine enk K3 ?_
 refine ent_seq fun _ K4 => ?_
 refine ent_block ?_
 refine ent_loop (fun (ss : List Int × List Int) => match ss with | (A, B) => (⟨[(1, aSl 1 false aInt A), (2, aSl 1 false aInt B), (3, aEx (.pointer (some ⟨b3_1, 0, none⟩)))], [oBox b3_1 24 [aInt f.P, aInt f.M, aSl 1 false aInt f.mod]]⟩ : St)) (fun (ss : List Int × List Int) => match ss with | (A, B) => (EuI hF p q A B)) (fun (ss : List Int × List Int) => match ss with | (A, B) => B.length) (cnrP hF p, cnrP hF q) (EuI.start hF p q) (ent_rep ⟨rfl, rfl, rfl, trivial⟩ rfl) ?_
 rintro ⟨A, B⟩ E
 show Ent _ ⟨_, [_]⟩ _
 replace E : EuI hF p q A B := E
 have lA := E.lP
 have lB := E.lQ
 refine ent_seq fun _ K5 => ?_
 refine esr rfl fun _ K6 => ?_
 refine ent_o rfl (ok_len rfl runUnderlying22 rfl) ?_
 refine ent_o rfl (ok_gtr rfl rfl) ?_
 refine enk K6 ?_
 refine ent_condD rfl (fun h17 => ?_) (fun h17 => ?_)
 ·refine esp K5 ?_
  refine ent_block ?_
  refine esr rfl fun _ K7 => ?_
  refine ent_o rfl (ok_loadBS (k := 0) ti24 rfl rfl rfl) ?_
  refine emm rfl ?_
  refine ent_o rfl (ok_call (rpDivMod_ok f A B ‹_› (by omega) (by omega) (by rw [cnrP_id hF E.cQ]; omega)) rfl) ?_
  refine emm rfl ?_
  refine ent_o rfl (ok_extract rfl rfl) ?_
  refine ent_o rfl (ok_extract rfl rfl) ?_
  refine emm rfl ?_
  refine enk K7 ?_
  refine esk rfl ?_
  refine ent_region ?_
  refine emm rfl ?_
  refine ent_nil ?_
  refine ent_again (s := (A, B)) (B, remP hF A B) (EuI.next hF E (by omega)) ((remP_len hF E.cQ (by omega))) (ent_rep ⟨rfl, rfl, rfl, trivial⟩ rfl)
 refine ent_exit ?_
 refine ent_k K4 ?_
 refine esr rfl fun _ K9 => ?_
 refine ent_o rfl (ok_loadBS (k := 0) ti24 rfl rfl rfl) ?_
 refine emm rfl ?_
 refine ent_o rfl (ok_call (rpMonic_ok f A ‹_› (by omega)) rfl) ?_
 refine emm rfl ?_
 refine enk K9 ?_
 refine ent_ret ?_
 exact retR1 (.inr rfl) results110 (resr_tmp (res_cv rfl (cv_sl sub_x (by exact EuI.done hF E (by omega)))))
end Go.Proofs.Ytfjhbdfgbpcchaa

