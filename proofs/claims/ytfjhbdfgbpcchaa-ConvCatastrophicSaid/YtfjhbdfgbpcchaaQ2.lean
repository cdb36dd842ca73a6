/-
  Walks of functions of the program and the reference.
-/
import Derived.Test.YtfjhbdfgbpcchaaQ1
open Go Go.Cw
namespace Go.Proofs.Ytfjhbdfgbpcchaa
open Try
set_option maxRecDepth 100000
set_option linter.unusedVariables false
set_option linter.unusedSimpArgs false
theorem combine_ok (f : Fld) (p : List Int) (a : Int) (q : List Int) (hF : FOk f) (hp : p.length ≤ 1000000) (hq : q.length ≤ 1000000) : Ctr Try.prog 117 [aGF f, aSl 1 false aInt p, aInt a, aSl 1 false aInt q] (aSl 1 false aInt (cmbP hF p a q)) := by
 have hS := hF.1
 refine ctr_of Try.call117 func117 rfl rfl ?_
 intro w O
 refine ent_lenP 0 4 rfl rfl (fun hlen0_4 => ?_)
 refine ent_lenP 0 5 rfl rfl (fun hlen0_5 => ?_)
 refine ent_len 1 rfl (fun hlen1 => ?_)
 refine ent_len 3 rfl (fun hlen3 => ?_)
 refine esk rfl ?_
 refine esr rfl fun _ K2 => ?_
 refine ent_o rfl (ok_len rfl runUnderlying22 rfl) ?_
 refine emm rfl ?_
 refine ent_o rfl (ok_len rfl runUnderlying22 rfl) ?_
 refine ent_o rfl (ok_max rfl rfl) ?_
 refine ent_make aInt 0 rfl vt22 rfl rfl (by omega) (by omega) (by omega) (fun _ _ => rfl) (AllV.mem ⟨rfl, trivial⟩) (fun b19_1 => ?_)
 refine emm rfl ?_
 refine enk K2 ?_
 refine ent_seq fun _ K3 => ?_
 refine esr rfl fun _ K4 => ?_
 refine ent_o rfl (ok_len rfl runUnderlying22 rfl) ?_
 refine emm rfl ?_
 refine enk K4 ?_
 refine ent_block ?_
 refine ent_loop (fun (ss : Int × List Int) => match ss with | (i, L) => (⟨[(0, aGF f), (2, aInt a), (3, aSl 1 false aInt q), (9, aEx (vec (some b19_1) ((max (↑p.length : Int) (↑q.length : Int)).toNat) ((max (↑p.length : Int) (↑q.length : Int)).toNat))), (20, aSl 1 false aInt p), (21, aInt (↑p.length : Int)), (22, aInt i)], [oVec (some b19_1) ((max (↑p.length : Int) (↑q.length : Int)).toNat) 3 1 false aInt L]⟩ : St)) (fun (ss : Int × List Int) => match ss with | (i, L) => (0 ≤ i) ∧ (i ≤ p.length) ∧ ((L.length : Int) = max p.length q.length) ∧ (¬ outF f L) ∧ (pS hF L = tk hF (pS hF p) i.toNat)) (fun (ss : Int × List Int) => match ss with | (i, L) => (p.length - i).toNat) (0, List.replicate ((max (↑p.length : Int) (↑q.length : Int)).toNat) 0) ⟨(by omega), (by omega), (by rw [List.length_replicate]; omega), (outF_repl hS _), (by rw [pS_repl, show (0 : Int).toNat = 0 from rfl, tk_zero])⟩ (ent_rep ⟨rfl, rfl, rfl, rfl, rfl, rfl, slot_av (av_int (show 0 = (0 : Int) by rfl)), trivial⟩ rfl) ?_
 rintro ⟨i, L⟩ ⟨i0, i1, lL, oL, eL⟩
 show Ent _ ⟨_, [_]⟩ _
 refine esr rfl fun _ K5 => ?_
 refine ent_o rfl (ok_lss rfl rfl) ?_
 refine enk K5 ?_
 refine ent_seq fun _ K6 => ?_
 refine ent_condD rfl (fun h23 => ?_) (fun h23 => ?_)
 ·refine esp K6 ?_
  refine ent_seq fun _ K7 => ?_
  refine ent_block ?_
  refine esr rfl fun _ K8 => ?_
  refine ent_o rfl (ok_index 0 sl22 rfl rfl (by omega) (by omega)) ?_
  refine ent_o rfl (ok_load ti3 rfl) ?_
  refine emm rfl ?_
  refine enk K8 ?_
  refine ent_region ?_
  refine emm rfl ?_
  refine ent_o rfl (ok_call (Add_ok f (ix 0 p i) 0 ‹_›) rfl) ?_
  refine ent_o rfl (ok_indexV sl22 rfl rfl (by omega) (by omega)) ?_
  refine ent_storeV (k := 0) (z := addF f (ix 0 p i) 0) ti3 rfl rfl rfl (elem_one (one_int _)) (by omega) (by omega) ?_
  refine enk K7 ?_
  refine ent_region ?_
  refine ent_o rfl (ok_add rfl rfl (by omega) (by omega)) ?_
  refine emm rfl ?_
  refine ent_nil ?_
  refine ent_again (s := (i, L)) (i + 1, List.set L (i).toNat (addF f (ix 0 p i) 0)) ⟨(by omega), ‹_›, (by rw [List.length_set]; exact lL), (outF_set oL (hS.addF_lt _ _) _), (cmbP_one hF i0 (by omega) eL)⟩ (by dsimp only; omega) (ent_rep ⟨rfl, rfl, rfl, rfl, rfl, rfl, rfl, trivial⟩ rfl)
 refine ent_exit ?_
 refine ent_k K3 ?_
 refine ent_seq fun _ K9 => ?_
 refine esr rfl fun _ K10 => ?_
 refine ent_o rfl (ok_len rfl runUnderlying22 rfl) ?_
 refine emm rfl ?_
 refine enk K10 ?_
 refine ent_block ?_
 refine ent_loop (fun (ss : Int × List Int) => match ss with | (j, M) => (⟨[(0, aGF f), (2, aInt a), (9, aEx (vec (some b19_1) ((max (↑p.length : Int) (↑q.length : Int)).toNat) ((max (↑p.length : Int) (↑q.length : Int)).toNat))), (34, aSl 1 false aInt q), (35, aInt (↑q.length : Int)), (36, aInt j)], [oVec (some b19_1) ((max (↑p.length : Int) (↑q.length : Int)).toNat) 3 1 false aInt M]⟩ : St)) (fun (ss : Int × List Int) => match ss with | (j, M) => (0 ≤ j) ∧ (j ≤ q.length) ∧ ((M.length : Int) = max p.length q.length) ∧ (¬ outF f M) ∧ (pS hF M = pS hF p + Ps.con (ke hF a) * tk hF (pS hF q) j.toNat)) (fun (ss : Int × List Int) => match ss with | (j, M) => (q.length - j).toNat) (0, L) ⟨(by omega), (by omega), lL, oL, (cmbP_mid hF (by omega) eL)⟩ (ent_rep ⟨rfl, rfl, rfl, rfl, rfl, slot_av (av_int (show 0 = (0 : Int) by rfl)), trivial⟩ rfl) ?_
 rintro ⟨j, M⟩ ⟨j0, j1, lM, oM, eM⟩
 show Ent _ ⟨_, [_]⟩ _
 refine esr rfl fun _ K11 => ?_
 refine ent_o rfl (ok_lss rfl rfl) ?_
 refine enk K11 ?_
 refine ent_seq fun _ K12 => ?_
 refine ent_condD rfl (fun h37 => ?_) (fun h37 => ?_)
 ·refine esp K12 ?_
  refine ent_seq fun _ K13 => ?_
  refine ent_block ?_
  refine esr rfl fun _ K14 => ?_
  refine ent_o rfl (ok_index 0 sl22 rfl rfl (by omega) (by omega)) ?_
  refine ent_o rfl (ok_load ti3 rfl) ?_
  refine emm rfl ?_
  refine enk K14 ?_
  refine ent_draw 13 mixed (by kernel_rfl) (by kernel_rfl) (by kernel_rfl) ?_
  refine dw_o rfl (ok_move rfl) ?_
  refine dw_o rfl (ok_move rfl) ?_
  refine dw_o rfl (ok_move rfl) ?_
  refine dw_o rfl (ok_move rfl) ?_
  refine dw_o rfl (ok_move rfl) ?_
  refine dw_o rfl (ok_indexV sl22 rfl rfl (by omega) (by omega)) ?_
  refine dw_o rfl (ok_loadV (k := 0) 0 ti3 rfl rfl (by omega) (by omega)) ?_
  refine dw_o rfl (ok_move rfl) ?_
  refine dw_o rfl (ok_move rfl) ?_
  refine dw_o rfl (ok_move rfl) ?_
  refine dw_o rfl (ok_call (Mul_ok f a (ix 0 q j) ‹_›) rfl) ?_
  refine dw_o rfl (ok_call (Add_ok f (ix 0 M j) (mulF f a (ix 0 q j)) ‹_›) rfl) ?_
  refine dw_o rfl (ok_indexV sl22 rfl rfl (by omega) (by omega)) ?_
  refine dw_nil ?_
  refine ent_storeV (k := 0) (z := addF f (ix 0 M j) (mulF f a (ix 0 q j))) ti3 rfl rfl rfl (elem_one (one_int _)) (by omega) (by omega) ?_
  refine enk K13 ?_
  refine ent_region ?_
  refine ent_o rfl (ok_add rfl rfl (by omega) (by omega)) ?_
  refine emm rfl ?_
  refine ent_nil ?_
  refine ent_again (s := (j, M)) (j + 1, List.set M (j).toNat (addF f (ix 0 M j) (mulF f a (ix 0 q j)))) ⟨(by omega), ‹_›, (by rw [List.length_set]; exact lM), (outF_set oM (hS.addF_lt _ _) _), (cmbP_two hF j0 (by omega) eM)⟩ (by dsimp only; omega) (ent_rep ⟨rfl, rfl, rfl, rfl, rfl, rfl, trivial⟩ rfl)
 refine ent_exit ?_
 refine ent_k K9 ?_
 refine ent_seq fun _ K15 => ?_
 refine ent_give 0 9 rfl (cv_vec (k := 0) (off_erase rfl) (by omega) rfl) ?_
 refine ent_region ?_
 refine emm rfl ?_
 refine ent_o rfl (ok_call (trim_ok M) rfl) ?_
 refine emm rfl ?_
 refine enk K15 ?_
 refine ent_ret ?_
 exact retR1 (.inr rfl) results117 (resr_tmp (res_cv rfl (cv_sl sub_x (by exact (cmbP_end hF (by omega) oM eM)))))

theorem polySub_ok (f : Fld) (p q : List Int) (hF : FOk f) (hp : p.length ≤ 1000000) (hq : q.length ≤ 1000000) : Ctr Try.prog 81 [aGF f, aSl 1 false aInt p, aSl 1 false aInt q] (aSl 1 false aInt (subP hF p q)) := by
 refine ctr_of Try.call81 func81 rfl rfl ?_
 intro w O
 refine ent_lenP 0 4 rfl rfl (fun hlen0_4 => ?_)
 refine ent_lenP 0 5 rfl rfl (fun hlen0_5 => ?_)
 refine ent_len 1 rfl (fun hlen1 => ?_)
 refine ent_len 2 rfl (fun hlen2 => ?_)
 refine esk rfl ?_
 refine esr rfl fun _ K2 => ?_
 refine ent_o rfl (ok_call (Neg_ok f 1 ‹_›) rfl) ?_
 refine emm rfl ?_
 refine ent_o rfl (ok_call (combine_ok f p (negF f 1) q ‹_› ‹_› ‹_›) rfl) ?_
 refine emm rfl ?_
 refine enk K2 ?_
 refine ent_ret ?_
 exact retR1 (.inr rfl) results81 (resr_tmp (res_cv rfl (cv_sl sub_x (by exact (cmbP_neg hF p q)))))

theorem product_ok (f : Fld) (p q : List Int) (hF : FOk f) (hp : p.length ≤ 1000000) (hq : q.length ≤ 1000000) : Ctr Try.prog 119 [aGF f, aSl 1 false aInt p, aSl 1 false aInt q] (aSl 1 false aInt (mulP hF p q)) := by
 have hS := hF.1
 have lp := cnrP_len hF p
 have lq := cnrP_len hF q
 have cp := cnrP_cn hF p
 have cq := cnrP_cn hF q
 refine ctr_of Try.call119 func119 rfl rfl ?_
 intro w O
 refine ent_lenP 0 4 rfl rfl (fun hlen0_4 => ?_)
 refine ent_lenP 0 5 rfl rfl (fun hlen0_5 => ?_)
 refine ent_len 1 rfl (fun hlen1 => ?_)
 refine ent_len 2 rfl (fun hlen2 => ?_)
 refine esk rfl ?_
 refine esr rfl fun _ K2 => ?_
 refine ent_o rfl (ok_call (CtrF.ctr (CtrF.sl (CanonF_ok f p hF ‹_›))) rfl) ?_
 refine emm rfl ?_
 refine ent_o rfl (ok_call (CtrF.ctr (CtrF.sl (CanonF_ok f q hF ‹_›))) rfl) ?_
 refine emm rfl ?_
 refine enk K2 ?_
 refine ent_seq fun _ K3 => ?_
 refine ent_seq fun _ K4 => ?_
 refine ent_cut (⟨[(0, aGF f), (1, aSl 1 false aInt (cnrP hF p)), (2, aSl 1 false aInt (cnrP hF q)), (25, aBool (decide (((↑(cnrP hF p).length : Int) = 0) ∨ ((↑(cnrP hF q).length : Int) = 0))))], []⟩) ?_ ?_
 ·refine ent_region ?_
  refine emm rfl ?_
  refine ent_o rfl (ok_len rfl runUnderlying22 rfl) ?_
  refine ent_o rfl (ok_eql rfl rfl) ?_
  refine emm rfl ?_
  refine ent_guardXDf rfl rfl rfl rfl (fun hg21 => ?_) (fun hg21 => ?_)
  ·refine emm rfl ?_
   refine ent_guardXT rfl rfl rfl rfl (decide_eq_false hg21) ?_
   refine ent_o rfl (ok_len rfl runUnderlying22 rfl) ?_
   refine ent_guardXT rfl rfl rfl rfl (decide_eq_false hg21) ?_
   refine ent_o rfl (ok_eql rfl rfl) ?_
   refine ent_o rfl (ok_pickF rfl (decide_eq_false hg21) rfl) ?_
   refine ent_nil ?_
   exact ent_rep ⟨rfl, rfl, rfl, slot_bool (dq_Q ((or_iff_right hg21).trans Iff.rfl)), trivial⟩ rfl
  refine ent_guardXF rfl rfl rfl rfl (decide_eq_true hg21) ?_
  refine ent_guardXF rfl rfl rfl rfl (decide_eq_true hg21) ?_
  refine ent_o rfl (ok_pickT rfl (decide_eq_true hg21) rfl) ?_
  refine ent_nil ?_
  exact ent_rep ⟨rfl, rfl, rfl, slot_bool (dq_T rfl (Or.inl hg21)), trivial⟩ rfl
 refine ent_k K4 ?_
 refine ent_condD rfl (fun h25 => ?_) (fun h25 => ?_)
 ·refine esk rfl ?_
  refine ent_ret ?_
  exact retR1 (.inr rfl) results119 (resr_tmp (res_cv rfl (cv_nil (fun _ => rfl) (by exact (mulP_nil hF (by omega)).symm))))
 refine esp K3 ?_
 refine esr rfl fun _ K6 => ?_
 refine ent_o rfl (ok_len rfl runUnderlying22 rfl) ?_
 refine emm rfl ?_
 refine ent_o rfl (ok_len rfl runUnderlying22 rfl) ?_
 refine ent_o rfl (ok_add rfl rfl (by omega) (by omega)) ?_
 refine ent_o rfl (ok_sub rfl rfl (by omega) (by omega)) ?_
 refine ent_make aInt 0 rfl vt22 rfl rfl (by omega) (by omega) (by omega) (fun _ _ => rfl) (AllV.mem ⟨rfl, trivial⟩) (fun b32_1 => ?_)
 refine emm rfl ?_
 refine enk K6 ?_
 refine ent_seq fun _ K7 => ?_
 refine esr rfl fun _ K8 => ?_
 refine ent_o rfl (ok_len rfl runUnderlying22 rfl) ?_
 refine emm rfl ?_
 refine enk K8 ?_
 refine ent_block ?_
 refine ent_loop (fun (ss : Int × List Int) => match ss with | (i, L) => (⟨[(0, aGF f), (2, aSl 1 false aInt (cnrP hF q)), (7, aEx (vec (some b32_1) ((((↑(cnrP hF p).length : Int) + (↑(cnrP hF q).length : Int)) - 1).toNat) ((((↑(cnrP hF p).length : Int) + (↑(cnrP hF q).length : Int)) - 1).toNat))), (33, aSl 1 false aInt (cnrP hF p)), (34, aInt (↑(cnrP hF p).length : Int)), (35, aInt i)], [oVec (some b32_1) ((((↑(cnrP hF p).length : Int) + (↑(cnrP hF q).length : Int)) - 1).toNat) 3 1 false aInt L]⟩ : St)) (fun (ss : Int × List Int) => match ss with | (i, L) => (0 ≤ i) ∧ (i ≤ (cnrP hF p).length) ∧ ((L.length : Int) = (cnrP hF p).length + (cnrP hF q).length - 1) ∧ (¬ outF f L) ∧ (pS hF L = prT hF (cnrP hF p) (cnrP hF q) i 0)) (fun (ss : Int × List Int) => match ss with | (i, L) => ((cnrP hF p).length - i).toNat) (0, List.replicate ((((↑(cnrP hF p).length : Int) + (↑(cnrP hF q).length : Int)) - 1).toNat) 0) ⟨(by omega), (by omega), (by rw [List.length_replicate]; omega), (outF_repl hS _), (by rw [pS_repl, prT_zero])⟩ (ent_rep ⟨rfl, rfl, rfl, rfl, rfl, slot_av (av_int (show 0 = (0 : Int) by rfl)), trivial⟩ rfl) ?_
 rintro ⟨i, L⟩ ⟨i0, i1, lL, oL, eL⟩
 show Ent _ ⟨_, [_]⟩ _
 refine esr rfl fun _ K9 => ?_
 refine ent_o rfl (ok_lss rfl rfl) ?_
 refine enk K9 ?_
 refine ent_seq fun _ K10 => ?_
 refine ent_condD rfl (fun h36 => ?_) (fun h36 => ?_)
 ·refine esp K10 ?_
  refine ent_seq fun _ K11 => ?_
  refine ent_block ?_
  refine esr rfl fun _ K12 => ?_
  refine ent_o rfl (ok_index 0 sl22 rfl rfl (by omega) (by omega)) ?_
  refine ent_o rfl (ok_load ti3 rfl) ?_
  refine emm rfl ?_
  refine enk K12 ?_
  refine esr rfl fun _ K13 => ?_
  refine ent_o rfl (ok_len rfl runUnderlying22 rfl) ?_
  refine emm rfl ?_
  refine enk K13 ?_
  refine ent_block ?_
  refine ent_loop (fun (ss : Int × List Int) => match ss with | (j, M) => (⟨[(0, aGF f), (2, aSl 1 false aInt (cnrP hF q)), (7, aEx (vec (some b32_1) ((((↑(cnrP hF p).length : Int) + (↑(cnrP hF q).length : Int)) - 1).toNat) ((((↑(cnrP hF p).length : Int) + (↑(cnrP hF q).length : Int)) - 1).toNat))), (8, aInt i), (9, aInt (ix 0 (cnrP hF p) i)), (33, aSl 1 false aInt (cnrP hF p)), (34, aInt (↑(cnrP hF p).length : Int)), (35, aInt i), (40, aSl 1 false aInt (cnrP hF q)), (41, aInt (↑(cnrP hF q).length : Int)), (42, aInt j)], [oVec (some b32_1) ((((↑(cnrP hF p).length : Int) + (↑(cnrP hF q).length : Int)) - 1).toNat) 3 1 false aInt M]⟩ : St)) (fun (ss : Int × List Int) => match ss with | (j, M) => (0 ≤ j) ∧ (j ≤ (cnrP hF q).length) ∧ ((M.length : Int) = (cnrP hF p).length + (cnrP hF q).length - 1) ∧ (¬ outF f M) ∧ (pS hF M = prT hF (cnrP hF p) (cnrP hF q) i j)) (fun (ss : Int × List Int) => match ss with | (j, M) => ((cnrP hF q).length - j).toNat) (0, L) ⟨(by omega), (by omega), lL, oL, eL⟩ (ent_rep ⟨rfl, rfl, rfl, rfl, rfl, rfl, rfl, rfl, rfl, rfl, slot_av (av_int (show 0 = (0 : Int) by rfl)), trivial⟩ rfl) ?_
  rintro ⟨j, M⟩ ⟨j0, j1, lM, oM, eM⟩
  show Ent _ ⟨_, [_]⟩ _
  refine esr rfl fun _ K14 => ?_
  refine ent_o rfl (ok_lss rfl rfl) ?_
  refine enk K14 ?_
  refine ent_seq fun _ K15 => ?_
  refine ent_condD rfl (fun h43 => ?_) (fun h43 => ?_)
  ·refine esp K15 ?_
   refine ent_seq fun _ K16 => ?_
   refine ent_block ?_
   refine esr rfl fun _ K17 => ?_
   refine ent_o rfl (ok_index 0 sl22 rfl rfl (by omega) (by omega)) ?_
   refine ent_o rfl (ok_load ti3 rfl) ?_
   refine emm rfl ?_
   refine enk K17 ?_
   refine ent_draw 17 mixed (by kernel_rfl) (by kernel_rfl) (by kernel_rfl) ?_
   refine dw_o rfl (ok_move rfl) ?_
   refine dw_o rfl (ok_move rfl) ?_
   refine dw_o rfl (ok_move rfl) ?_
   refine dw_o rfl (ok_add rfl rfl (by omega) (by omega)) ?_
   refine dw_o rfl (ok_move rfl) ?_
   refine dw_o rfl (ok_move rfl) ?_
   refine dw_o rfl (ok_move rfl) ?_
   refine dw_o rfl (ok_move rfl) ?_
   refine dw_o rfl (ok_add rfl rfl (by omega) (by omega)) ?_
   refine dw_o rfl (ok_indexV sl22 rfl rfl (by omega) (by omega)) ?_
   refine dw_o rfl (ok_loadV (k := 0) 0 ti3 rfl rfl (by omega) (by omega)) ?_
   refine dw_o rfl (ok_move rfl) ?_
   refine dw_o rfl (ok_move rfl) ?_
   refine dw_o rfl (ok_move rfl) ?_
   refine dw_o rfl (ok_call (Mul_ok f (ix 0 (cnrP hF p) i) (ix 0 (cnrP hF q) j) ‹_›) rfl) ?_
   refine dw_o rfl (ok_call (Add_ok f (ix 0 M (i + j)) (mulF f (ix 0 (cnrP hF p) i) (ix 0 (cnrP hF q) j)) ‹_›) rfl) ?_
   refine dw_o rfl (ok_indexV sl22 rfl rfl (by omega) (by omega)) ?_
   refine dw_nil ?_
   refine ent_storeV (k := 0) (z := addF f (ix 0 M (i + j)) (mulF f (ix 0 (cnrP hF p) i) (ix 0 (cnrP hF q) j))) ti3 rfl rfl rfl (elem_one (one_int _)) (by omega) (by omega) ?_
   refine enk K16 ?_
   refine ent_region ?_
   refine ent_o rfl (ok_add rfl rfl (by omega) (by omega)) ?_
   refine emm rfl ?_
   refine ent_nil ?_
   refine ent_again (s := (j, M)) (j + 1, List.set M (i + j).toNat (addF f (ix 0 M (i + j)) (mulF f (ix 0 (cnrP hF p) i) (ix 0 (cnrP hF q) j)))) ⟨(by omega), ‹_›, (by rw [List.length_set]; exact lM), (outF_set oM (hS.addF_lt _ _) _), (prT_step hF _ _ i0 j0 (by omega) eM rfl)⟩ (by dsimp only; omega) (ent_rep ⟨rfl, rfl, rfl, rfl, rfl, rfl, rfl, rfl, rfl, rfl, rfl, trivial⟩ rfl)
  refine ent_exit ?_
  refine ent_k K11 ?_
  refine ent_region ?_
  refine ent_o rfl (ok_add rfl rfl (by omega) (by omega)) ?_
  refine emm rfl ?_
  refine ent_nil ?_
  refine ent_again (s := (i, L)) (i + 1, M) ⟨(by omega), ‹_›, lM, oM, (by rw [eM]; exact prT_row hF _ _ i0 (by omega))⟩ (by dsimp only; omega) (ent_rep ⟨rfl, rfl, rfl, rfl, rfl, rfl, trivial⟩ rfl)
 refine ent_exit ?_
 refine ent_k K7 ?_
 refine ent_seq fun _ K18 => ?_
 refine ent_give 0 7 rfl (cv_vec (k := 0) (off_erase rfl) (by omega) rfl) ?_
 refine ent_region ?_
 refine emm rfl ?_
 refine enk K18 ?_
 refine ent_ret ?_
 exact retR1 (.inr rfl) results119 (resr_tmp (res_cv rfl (cv_sl sub_x (by rw [mulP_end hF cp cq (by omega) (by omega) (by omega) oL lL eL, mulP_cnr]))))
end Go.Proofs.Ytfjhbdfgbpcchaa

