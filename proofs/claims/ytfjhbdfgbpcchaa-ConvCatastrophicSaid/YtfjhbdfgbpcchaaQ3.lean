/-
  Walks of functions of the program and the reference.
-/
import Derived.Test.YtfjhbdfgbpcchaaQ2
open Go Go.Cw
namespace Go.Proofs.Ytfjhbdfgbpcchaa
open Try
set_option maxRecDepth 100000
set_option linter.unusedVariables false
set_option linter.unusedSimpArgs false
theorem polyMul_ok (f : Fld) (p q : List Int) (hF : FOk f) (hp : p.length ≤ 400000) (hq : q.length ≤ 400000) : Ctr Try.prog 82 [aGF f, aSl 1 false aInts [p, q]] (aSl 1 false aInt (mulP hF p q)) := by
 have hl2 : (([p, q] : List (List Int)).length : Int) = 2 := rfl
 have hmo : mulP hF [1] p = cnrP hF p := mulP_one hF p
 have lp := cnrP_len hF p
 have m0 : ∀ i : Int, 0 ≤ i → i < 2 → (prd2 hF p q i).length ≤ 400001 := fun i a b => prd2_len hF hp a b
 have m1 : ∀ i : Int, 0 ≤ i → i < 2 → (ix [] ([p, q] : List (List Int)) i).length ≤ 400000 := fun i a b => by rcases (show i = 0 ∨ i = 1 by omega) with h | h <;> subst h <;> assumption
 refine ctr_of Try.call82 func82 rfl rfl ?_
 intro w O
 refine ent_lenP 0 4 rfl rfl (fun hlen0_4 => ?_)
 refine ent_lenP 0 5 rfl rfl (fun hlen0_5 => ?_)
 refine ent_len 1 rfl (fun hlen1 => ?_)
 refine esk rfl ?_
 refine esr rfl fun _ K2 => ?_
 refine ent_buildN aInt [1] rfl vt22 (by decide) (⟨0, 1, rfl, .inl ⟨rfl, _, rfl, (one_int _), rfl, rfl⟩⟩) rfl (fun b8_1 => ?_)
 refine emm rfl ?_
 refine enk K2 ?_
 refine ent_seq fun _ K3 => ?_
 refine ent_seq fun _ K4 => ?_
 refine ent_give 0 5 rfl (cv_vec (k := 0) (off_erase rfl) rfl rfl) ?_
 refine ent_region ?_
 refine emm rfl ?_
 refine ent_o rfl (ok_len rfl runUnderlying42 rfl) ?_
 refine emm rfl ?_
 refine enk K4 ?_
 refine ent_block ?_
 refine ent_loop (fun (i : Int) => (⟨[(0, aGF f), (5, aSl 1 false aInt (prd2 hF p q i)), (9, aSl 1 false aInts [p, q]), (10, aInt (↑[p, q].length : Int)), (11, aInt i)], []⟩ : St)) (fun (i : Int) => (0 ≤ i) ∧ (i ≤ 2)) (fun (i : Int) => (2 - i).toNat) 0 ⟨(by omega), (by omega)⟩ (ent_rep ⟨rfl, slot_av (av_sl (show [1] = prd2 hF p q (0 : Int) by rfl)), rfl, rfl, slot_av (av_int (show 0 = (0 : Int) by rfl)), trivial⟩ rfl) ?_
 rintro i ⟨i0, i1⟩
 show Ent _ ⟨_, []⟩ _
 refine esr rfl fun _ K5 => ?_
 refine ent_o rfl (ok_lss rfl rfl) ?_
 refine enk K5 ?_
 refine ent_seq fun _ K6 => ?_
 refine ent_condD rfl (fun h12 => ?_) (fun h12 => ?_)
 ·have m0i := m0 i i0 h12
  have m1i := m1 i i0 h12
  refine esp K6 ?_
  refine ent_seq fun _ K7 => ?_
  refine ent_block ?_
  refine esr rfl fun _ K8 => ?_
  refine ent_o rfl (ok_index [] sl42 rfl rfl (by omega) (by omega)) ?_
  refine ent_o rfl (ok_load ti22 rfl) ?_
  refine emm rfl ?_
  refine enk K8 ?_
  refine ent_region ?_
  refine emm rfl ?_
  refine ent_o rfl (ok_call (product_ok f (prd2 hF p q i) (ix [] [p, q] i) ‹_› (by omega) (by omega)) rfl) ?_
  refine emm rfl ?_
  refine enk K7 ?_
  refine ent_region ?_
  refine ent_o rfl (ok_add rfl rfl (by omega) (by omega)) ?_
  refine emm rfl ?_
  refine ent_nil ?_
  refine ent_again (s := (i)) (i + 1) ⟨(by omega), ‹_›⟩ (by omega) (ent_rep ⟨rfl, slot_av (av_sl (show mulP hF (prd2 hF p q i) (ix [] [p, q] i) = prd2 hF p q (i + 1) by exact prd2_succ hF p q i0 (by omega))), rfl, rfl, rfl, trivial⟩ rfl)
 refine ent_exit ?_
 refine ent_k K3 ?_
 refine esk rfl ?_
 refine ent_ret ?_
 exact retR1 (.inr rfl) results82 (resr_tmp (res_cv rfl (cv_sl sub_x (by rw [show i = 2 by omega]; exact prd2_two hF p q))))

theorem polyMonic_ok (f : Fld) (p : List Int) (hF : FOk f) (hp : p.length ≤ 1000000) : Ctr Try.prog 107 [aGF f, aSl 1 false aInt p] (aTup [aSl 1 false aInt (monP hF p), aInt (if (cnrP hF p).length = 0 then 7 else 0)]) := by
 have lp := cnrP_len hF p
 refine ctr_of Try.call107 func107 rfl rfl ?_
 intro w O
 refine ent_lenP 0 4 rfl rfl (fun hlen0_4 => ?_)
 refine ent_lenP 0 5 rfl rfl (fun hlen0_5 => ?_)
 refine ent_len 1 rfl (fun hlen1 => ?_)
 refine esk rfl ?_
 refine esr rfl fun _ K2 => ?_
 refine ent_o rfl (ok_call (CtrF.ctr (CtrF.sl (CanonF_ok f p hF ‹_›))) rfl) ?_
 refine emm rfl ?_
 refine enk K2 ?_
 refine ent_seq fun _ K3 => ?_
 refine esr rfl fun _ K4 => ?_
 refine ent_o rfl (ok_len rfl runUnderlying22 rfl) ?_
 refine ent_o rfl (ok_eql rfl rfl) ?_
 refine enk K4 ?_
 refine ent_condD rfl (fun h14 => ?_) (fun h14 => ?_)
 ·refine esk rfl ?_
  refine ent_ret ?_
  exact retR2 (.inr rfl) results107 (resr_tmp (res_cv rfl (cv_nil (fun _ => rfl) (by exact (monP_nil hF (by omega)).symm)))) (resr_tmp (res_cv rfl (cv_int (by rw [if_pos (by omega)]))))
 refine esp K3 ?_
 refine esr rfl fun _ K6 => ?_
 refine ent_o rfl (ok_len rfl runUnderlying22 rfl) ?_
 refine ent_o rfl (ok_sub rfl rfl (by omega) (by omega)) ?_
 refine ent_o rfl (ok_index 0 sl22 rfl rfl (by omega) (by omega)) ?_
 refine ent_o rfl (ok_load ti3 rfl) ?_
 refine ent_o rfl (ok_call (Inv_ok f (ix 0 (cnrP hF p) ((↑(cnrP hF p).length : Int) - 1)) ‹_›) rfl) ?_
 refine emm rfl ?_
 refine ent_o rfl (ok_extract rfl rfl) ?_
 refine ent_o rfl (ok_extract rfl rfl) ?_
 refine emm rfl ?_
 refine enk K6 ?_
 refine esr rfl fun _ K7 => ?_
 refine ent_o rfl (ok_call (CtrF.ctr (CtrF.sl (Scale_ok f (invF f (ix 0 (cnrP hF p) ((↑(cnrP hF p).length : Int) - 1))) (cnrP hF p) ‹_› (by omega)))) rfl) ?_
 refine emm rfl ?_
 refine enk K7 ?_
 refine ent_ret ?_
 exact retR2 (.inr rfl) results107 (resr_tmp (res_cv rfl (cv_sl sub_x (by rw [← monP_cnr]; exact monP_eq hF (cnrP_cn hF p) (by omega))))) (resr_tmp (res_cv rfl (cv_int (by rw [if_neg (by omega)]))))

theorem polyDivMod_ok (f : Fld) (p q : List Int) (hF : FOk f) (hp : p.length ≤ 1000000) (hq : q.length ≤ 1000000) (hne : (cnrP hF q).length ≠ 0) : Ctr Try.prog 138 [aGF f, aSl 1 false aInt p, aSl 1 false aInt q] (aTup [aSl 1 false aInt (quoP hF p q), aSl 1 false aInt (remP hF p q), aInt 0]) := by
 have hS := hF.1
 have lp := cnrP_len hF p
 have lq := cnrP_len hF q
 have cp := cnrP_cn hF p
 have cq := cnrP_cn hF q
 refine ctr_of Try.call138 func138 rfl rfl ?_
 intro w O
 refine ent_lenP 0 4 rfl rfl (fun hlen0_4 => ?_)
 refine ent_lenP 0 5 rfl rfl (fun hlen0_5 => ?_)
 refine ent_len 1 rfl (fun hlen1 => ?_)
 refine ent_len 2 rfl (fun hlen2 => ?_)
 refine esk rfl ?_
 refine esr rfl fun _ K2 => ?_
 refine ent_callV [] rfl (CanonF_ok f p hF ‹_›) (ArgsA.ok ⟨arg_a rfl (cv_id (sub_lent _)), arg_a rfl (cv_id (sub_lent _)), trivial⟩) (fun r17 c17 => ?_)
 refine emm rfl ?_
 refine ent_o rfl (ok_call (CtrF.ctr (CtrF.sl (CanonF_ok f q hF ‹_›))) rfl) ?_
 refine emm rfl ?_
 refine enk K2 ?_
 refine ent_seq fun _ K3 => ?_
 refine esr rfl fun _ K4 => ?_
 refine ent_o rfl (ok_len rfl runUnderlying22 rfl) ?_
 refine ent_o rfl (ok_eql rfl rfl) ?_
 refine enk K4 ?_
 refine ent_condD rfl (fun h23 => ?_) (fun h23 => ?_)
 ·omega
 refine esp K3 ?_
 refine esr rfl fun _ K5 => ?_
 refine ent_o rfl (ok_len rfl runUnderlying22 rfl) ?_
 refine ent_o rfl (ok_sub rfl rfl (by omega) (by omega)) ?_
 refine ent_o rfl (ok_index 0 sl22 rfl rfl (by omega) (by omega)) ?_
 refine ent_o rfl (ok_load ti3 rfl) ?_
 refine ent_o rfl (ok_call (Inv_ok f (ix 0 (cnrP hF q) ((↑(cnrP hF q).length : Int) - 1)) ‹_›) rfl) ?_
 refine emm rfl ?_
 refine ent_o rfl (ok_extract rfl rfl) ?_
 refine ent_o rfl (ok_extract rfl rfl) ?_
 refine emm rfl ?_
 refine enk K5 ?_
 refine esr rfl fun _ K6 => ?_
 refine ent_o rfl (ok_lenEx rfl runUnderlying22 rfl) ?_
 refine emm rfl ?_
 refine ent_o rfl (ok_len rfl runUnderlying22 rfl) ?_
 refine ent_o rfl (ok_sub rfl rfl (by omega) (by omega)) ?_
 refine ent_o rfl (ok_add rfl rfl (by omega) (by omega)) ?_
 refine ent_o rfl (ok_max rfl rfl) ?_
 refine ent_make aInt 0 rfl vt22 rfl rfl (by omega) (by omega) (by omega) (fun _ _ => rfl) (AllV.mem ⟨rfl, trivial⟩) (fun b42_1 => ?_)
 refine emm rfl ?_
 refine enk K6 ?_
 refine ent_seq fun _ K7 => ?_
 refine esr rfl fun _ K8 => ?_
 refine ent_o rfl (ok_lenEx rfl runUnderlying22 rfl) ?_
 refine emm rfl ?_
 refine ent_o rfl (ok_len rfl runUnderlying22 rfl) ?_
 refine ent_o rfl (ok_sub rfl rfl (by omega) (by omega)) ?_
 refine emm rfl ?_
 refine enk K8 ?_
 refine ent_block ?_
 refine ent_loop (fun (ss : Int × List Int × List Int) => match ss with | (n, R, Qs) => (⟨[(0, aGF f), (2, aSl 1 false aInt (cnrP hF q)), (6, aEx (vec (some b42_1) ((max 0 (((↑((cnrP hF p).length) : Int) - (↑(cnrP hF q).length : Int)) + 1)).toNat) ((max 0 (((↑((cnrP hF p).length) : Int) - (↑(cnrP hF q).length : Int)) + 1)).toNat))), (7, aEx (vec r17 ((cnrP hF p).length) c17)), (9, aInt (invF f (ix 0 (cnrP hF q) ((↑(cnrP hF q).length : Int) - 1)))), (11, aInt n)], [oVec (some b42_1) ((max 0 (((↑((cnrP hF p).length) : Int) - (↑(cnrP hF q).length : Int)) + 1)).toNat) 3 1 false aInt Qs, oVec r17 c17 3 1 false aInt R]⟩ : St)) (fun (ss : Int × List Int × List Int) => match ss with | (n, R, Qs) => (DvI hF (cnrP hF p) (cnrP hF q) Qs R n) ∧ (-1 ≤ n ∨ n = ((cnrP hF p).length : Int) - (cnrP hF q).length) ∧ (n ≤ ((cnrP hF p).length : Int) - (cnrP hF q).length)) (fun (ss : Int × List Int × List Int) => match ss with | (n, R, Qs) => (n + 1).toNat) ((↑((cnrP hF p).length) : Int) - (↑(cnrP hF q).length : Int), cnrP hF p, List.replicate ((max 0 (((↑((cnrP hF p).length) : Int) - (↑(cnrP hF q).length : Int)) + 1)).toNat) 0) ⟨(DvI.start hF cp (by omega)), (.inr rfl), (by omega)⟩ (ent_rep ⟨rfl, rfl, rfl, rfl, rfl, rfl, trivial⟩ rfl) ?_
 rintro ⟨n, R, Qs⟩ ⟨D, n0, n1⟩
 show Ent _ ⟨_, [_, _]⟩ _
 have lR := D.lR
 have lQ := D.lQ
 refine ent_seq fun _ K9 => ?_
 refine esr rfl fun _ K10 => ?_
 refine ent_o rfl (ok_geq rfl rfl) ?_
 refine enk K10 ?_
 refine ent_condD rfl (fun h49 => ?_) (fun h49 => ?_)
 ·refine esp K9 ?_
  refine ent_seq fun _ K11 => ?_
  refine ent_block ?_
  refine esr rfl fun _ K12 => ?_
  refine ent_o rfl (ok_len rfl runUnderlying22 rfl) ?_
  refine ent_o rfl (ok_add rfl rfl (by omega) (by omega)) ?_
  refine ent_o rfl (ok_sub rfl rfl (by omega) (by omega)) ?_
  refine ent_rsome 1 rfl (by omega) (fun b59_2 hb59_2 => ?_)
  subst hb59_2
  refine ent_o rfl (ok_indexV sl22 rfl rfl (by omega) (by omega)) ?_
  refine ent_o rfl (ok_loadV (k := 1) 0 ti3 rfl rfl (by omega) (by omega)) ?_
  refine emm rfl ?_
  refine ent_o rfl (ok_call (Mul_ok f (ix 0 R ((n + (↑(cnrP hF q).length : Int)) - 1)) (invF f (ix 0 (cnrP hF q) ((↑(cnrP hF q).length : Int) - 1))) ‹_›) rfl) ?_
  refine emm rfl ?_
  refine enk K12 ?_
  refine esr rfl fun _ K13 => ?_
  refine ent_o rfl (ok_indexV sl22 rfl rfl (by omega) (by omega)) ?_
  refine ent_storeV (k := 0) (z := mulF f (ix 0 R ((n + (↑(cnrP hF q).length : Int)) - 1)) (invF f (ix 0 (cnrP hF q) ((↑(cnrP hF q).length : Int) - 1)))) ti3 rfl rfl rfl (elem_one (one_int _)) (by omega) (by omega) ?_
  refine enk K13 ?_
  refine esr rfl fun _ K14 => ?_
  refine ent_o rfl (ok_len rfl runUnderlying22 rfl) ?_
  refine emm rfl ?_
  refine enk K14 ?_
  refine ent_block ?_
  refine ent_loop (fun (ss : Int × List Int) => match ss with | (j, R2) => (⟨[(0, aGF f), (2, aSl 1 false aInt (cnrP hF q)), (6, aEx (vec (some b42_1) ((max 0 (((↑((cnrP hF p).length) : Int) - (↑(cnrP hF q).length : Int)) + 1)).toNat) ((max 0 (((↑((cnrP hF p).length) : Int) - (↑(cnrP hF q).length : Int)) + 1)).toNat))), (7, aEx (vec (some b59_2) ((cnrP hF p).length) c17)), (9, aInt (invF f (ix 0 (cnrP hF q) ((↑(cnrP hF q).length : Int) - 1)))), (11, aInt n), (12, aInt (mulF f (ix 0 R ((n + (↑(cnrP hF q).length : Int)) - 1)) (invF f (ix 0 (cnrP hF q) ((↑(cnrP hF q).length : Int) - 1))))), (67, aSl 1 false aInt (cnrP hF q)), (68, aInt (↑(cnrP hF q).length : Int)), (69, aInt j)], [oVec (some b42_1) ((max 0 (((↑((cnrP hF p).length) : Int) - (↑(cnrP hF q).length : Int)) + 1)).toNat) 3 1 false aInt (List.set Qs (n).toNat (mulF f (ix 0 R ((n + (↑(cnrP hF q).length : Int)) - 1)) (invF f (ix 0 (cnrP hF q) ((↑(cnrP hF q).length : Int) - 1))))), oVec (some b59_2) c17 3 1 false aInt R2]⟩ : St)) (fun (ss : Int × List Int) => match ss with | (j, R2) => (0 ≤ j) ∧ (j ≤ (cnrP hF q).length) ∧ (DvJ hF (cnrP hF p) (cnrP hF q) Qs R n (mulF f (ix 0 R (n + (cnrP hF q).length - 1)) (invF f (ix 0 (cnrP hF q) (((cnrP hF q).length : Int) - 1)))) j R2)) (fun (ss : Int × List Int) => match ss with | (j, R2) => ((cnrP hF q).length - j).toNat) (0, R) ⟨(by omega), (by omega), (DvJ.start hF D _)⟩ (ent_rep ⟨rfl, rfl, rfl, rfl, rfl, rfl, rfl, rfl, rfl, slot_av (av_int (show 0 = (0 : Int) by rfl)), trivial⟩ rfl) ?_
  rintro ⟨j, R2⟩ ⟨j0, j1, E⟩
  show Ent _ ⟨_, [_, _]⟩ _
  have lR2 := E.lR
  refine esr rfl fun _ K15 => ?_
  refine ent_o rfl (ok_lss rfl rfl) ?_
  refine enk K15 ?_
  refine ent_seq fun _ K16 => ?_
  refine ent_condD rfl (fun h70 => ?_) (fun h70 => ?_)
  ·refine esp K16 ?_
   refine ent_seq fun _ K17 => ?_
   refine ent_block ?_
   refine esr rfl fun _ K18 => ?_
   refine ent_o rfl (ok_index 0 sl22 rfl rfl (by omega) (by omega)) ?_
   refine ent_o rfl (ok_load ti3 rfl) ?_
   refine emm rfl ?_
   refine enk K18 ?_
   refine ent_draw 17 mixed (by kernel_rfl) (by kernel_rfl) (by kernel_rfl) ?_
   refine dw_o rfl (ok_move rfl) ?_
   refine dw_o rfl (ok_move rfl) ?_
   refine dw_o rfl (ok_move rfl) ?_
   refine dw_o rfl (ok_add rfl rfl (by omega) (by omega)) ?_
   refine dw_o rfl (ok_move rfl) ?_
   refine dw_o rfl (ok_move rfl) ?_
   refine dw_o rfl (ok_move rfl) ?_
   refine dw_o rfl (ok_move rfl) ?_
   refine dw_o rfl (ok_add rfl rfl (by omega) (by omega)) ?_
   refine dw_o rfl (ok_indexV sl22 rfl rfl (by omega) (by omega)) ?_
   refine dw_o rfl (ok_loadV (k := 1) 0 ti3 rfl rfl (by omega) (by omega)) ?_
   refine dw_o rfl (ok_move rfl) ?_
   refine dw_o rfl (ok_move rfl) ?_
   refine dw_o rfl (ok_move rfl) ?_
   refine dw_o rfl (ok_call (Mul_ok f (mulF f (ix 0 R ((n + (↑(cnrP hF q).length : Int)) - 1)) (invF f (ix 0 (cnrP hF q) ((↑(cnrP hF q).length : Int) - 1)))) (ix 0 (cnrP hF q) j) ‹_›) rfl) ?_
   refine dw_o rfl (ok_call (Sub_ok f (ix 0 R2 (n + j)) (mulF f (mulF f (ix 0 R ((n + (↑(cnrP hF q).length : Int)) - 1)) (invF f (ix 0 (cnrP hF q) ((↑(cnrP hF q).length : Int) - 1)))) (ix 0 (cnrP hF q) j)) ‹_›) rfl) ?_
   refine dw_o rfl (ok_indexV sl22 rfl rfl (by omega) (by omega)) ?_
   refine dw_nil ?_
   refine ent_storeV (k := 1) (z := addF f (ix 0 R2 (n + j)) (negF f (mulF f (mulF f (ix 0 R ((n + (↑(cnrP hF q).length : Int)) - 1)) (invF f (ix 0 (cnrP hF q) ((↑(cnrP hF q).length : Int) - 1)))) (ix 0 (cnrP hF q) j)))) ti3 rfl rfl rfl (elem_one (one_int _)) (by omega) (by omega) ?_
   refine enk K17 ?_
   refine ent_region ?_
   refine ent_o rfl (ok_add rfl rfl (by omega) (by omega)) ?_
   refine emm rfl ?_
   refine ent_nil ?_
   refine ent_again (s := (j, R2)) (j + 1, List.set R2 (n + j).toNat (addF f (ix 0 R2 (n + j)) (negF f (mulF f (mulF f (ix 0 R ((n + (↑(cnrP hF q).length : Int)) - 1)) (invF f (ix 0 (cnrP hF q) ((↑(cnrP hF q).length : Int) - 1)))) (ix 0 (cnrP hF q) j))))) ⟨(by omega), ‹_›, (DvJ.next hF E (by omega) j0 (by omega))⟩ (by dsimp only; omega) (ent_rep ⟨rfl, rfl, rfl, rfl, rfl, rfl, rfl, rfl, rfl, rfl, trivial⟩ rfl)
  refine ent_exit ?_
  refine ent_k K11 ?_
  refine ent_region ?_
  refine emm rfl ?_
  refine ent_o rfl (ok_sub rfl rfl (by omega) (by omega)) ?_
  refine emm rfl ?_
  refine ent_nil ?_
  refine ent_again (s := (n, R, Qs)) (n - 1, R2, List.set Qs (n).toNat (mulF f (ix 0 R ((n + (↑(cnrP hF q).length : Int)) - 1)) (invF f (ix 0 (cnrP hF q) ((↑(cnrP hF q).length : Int) - 1))))) ⟨(DvI.next hF cq (by omega) D (by omega) (by omega) (by omega) rfl (by omega) E), (by omega), (by omega)⟩ (by dsimp only; omega) (ent_rep ⟨rfl, rfl, rfl, slot_av (av_vec rfl), rfl, rfl, trivial⟩ (own_cons (rfl) (own_cons (own_vec (show R2 = R2 by rfl)) (rfl))))
 refine ent_exit ?_
 refine ent_k K7 ?_
 refine ent_seq fun _ K19 => ?_
 refine ent_give 0 6 rfl (cv_vec (k := 0) (off_erase rfl) (by omega) rfl) ?_
 refine ent_give 0 7 rfl (cv_vec (k := 0) (off_erase rfl) (by simp_all) rfl) ?_
 have hdn := DvI.done hF cq (by omega) D (by omega)
 refine ent_region ?_
 refine emm rfl ?_
 refine ent_o rfl (ok_call (trim_ok Qs) rfl) ?_
 refine emm rfl ?_
 refine ent_o rfl (ok_call (trim_ok R) rfl) ?_
 refine emm rfl ?_
 refine enk K19 ?_
 refine ent_ret ?_
 exact retR3 (.inr rfl) results138 (resr_tmp (res_cv rfl (cv_sl sub_x (by rw [hdn.1, quoP_cnr])))) (resr_tmp (res_cv rfl (cv_sl sub_x (by rw [hdn.2, remP_cnr])))) (resr_tmp (res_cv rfl (cv_int rfl)))
end Go.Proofs.Ytfjhbdfgbpcchaa

