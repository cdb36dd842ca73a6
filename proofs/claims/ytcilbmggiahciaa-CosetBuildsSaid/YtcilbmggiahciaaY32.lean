/-
  Walks of functions of the program and the reference.
-/
import Derived.Test.YtcilbmggiahciaaPlainJ2
import Derived.Test.YtcilbmggiahciaaY31
open Go Go.Cw
namespace Go.Proofs.Ytcilbmggiahciaa
open Try
set_option maxRecDepth 100000
set_option linter.unusedVariables false
set_option linter.unusedSimpArgs false
theorem rspCheck_ok (f : Fld) (m : Mat)  : Ctr Try.prog 41 [aFld f, aMat m] (aInt (spcE f m)) := by
 refine ctr_of Try.call41 func41 rfl rfl ?_
 intro w O
 refine ent_lenC 0 2 rfl rfl (fun hlen0_2 => ?_)
 refine ent_lenC 1 1 rfl rfl (fun hlen1_1 => ?_)
 refine esr rfl fun _ K1 => ?_
 refine ent_boxS rfl rfl (AllOne.mem ⟨(one_int _), (one_int _), one_sl, trivial⟩) (fun b2_1 => ?_)
 refine ent_boxS rfl rfl (AllOne.mem ⟨(one_int _), one_sl, trivial⟩) (fun b3_2 => ?_)
 refine emm rfl ?_
 refine enk K1 ?_
 refine esr rfl fun _ K2 => ?_
 refine ent_o rfl (ok_loadBS (k := 1) ti24 rfl rfl rfl) ?_
 refine ent_o rfl (ok_loadBS (k := 0) ti76 rfl rfl rfl) ?_
 refine ent_o rfl (ok_call (rMCheck_ok f m) rfl) ?_
 refine emm rfl ?_
 refine enk K2 ?_
 refine ent_seq fun _ K3 => ?_
 refine esr rfl fun _ K4 => ?_
 refine ent_o rfl (ok_neq rfl rfl) ?_
 refine enk K4 ?_
 refine ent_condD rfl (fun h12 => ?_) (fun h12 => ?_)
 ·refine esk rfl ?_
  refine ent_ret ?_
  exact retR1 (.inr rfl) results41 (resr_tmp (res_cv rfl (cv_int (by unfold spcE; rw [if_neg h12]))))
 have hme := Classical.not_not.1 h12
 have hF := (mErr_zero.1 hme).1
 have hgm := mat_good (mErr_zero.1 hme).2
 have hsz := mat_size (mErr_zero.1 hme).2
 have hcm : (canM f m).rows = canR (elim f m.rows [] m.cols.toNat) := by rw [canM_ok hme]; rfl
 refine esp K3 ?_
 refine esr rfl fun _ K6 => ?_
 refine ent_o rfl (ok_loadBS (k := 1) ti24 rfl rfl rfl) ?_
 refine ent_o rfl (ok_fieldAddrEx runUnderlying76 rfl sizeOf25 (by decide) rfl) ?_
 refine ent_o rfl (ok_loadB (k := 0) isAgg25 rfl rfl rfl) ?_
 refine ent_o rfl (ok_fieldAddrEx runUnderlying76 rfl sizeOf3 (by decide) rfl) ?_
 refine ent_o rfl (ok_loadB (k := 0) isAgg3 rfl rfl rfl) ?_
 refine ent_o rfl (ok_call (rCanon_ok f m.rows m.cols m.cols.toNat hF hgm (by omega) (by omega) (by omega) (by omega)) rfl) ?_
 refine emm rfl ?_
 refine ent_o rfl (ok_extract rfl rfl) ?_
 refine ent_o rfl (ok_extract rfl rfl) ?_
 refine emm rfl ?_
 refine enk K6 ?_
 refine ent_seq fun _ K7 => ?_
 refine esr rfl fun _ K8 => ?_
 refine ent_o rfl (ok_fieldAddrEx runUnderlying76 rfl sizeOf25 (by decide) rfl) ?_
 refine ent_o rfl (ok_loadB (k := 0) isAgg25 rfl rfl rfl) ?_
 refine ent_o rfl (ok_call (SameRows_ok (canR (elim f m.rows [] m.cols.toNat)) m.rows) rfl) ?_
 refine ent_o rfl (ok_notD rfl) ?_
 refine enk K8 ?_
 refine ent_condD rfl (fun h27 => ?_) (fun h27 => ?_)
 ·refine esk rfl ?_
  refine ent_ret ?_
  exact retR1 (.inr rfl) results41 (resr_tmp (res_cv rfl (cv_int (by unfold spcE; rw [if_pos hme, hcm, if_neg h27]))))
 refine esp K7 ?_
 refine esk rfl ?_
 refine ent_ret ?_
 exact retR1 (.inr rfl) results41 (resr_tmp (res_cv rfl (cv_int (by unfold spcE; rw [if_pos hme, hcm, if_pos (Classical.not_not.1 h27)]))))

theorem rcCheck_ok (c : Cod)  : Ctr Try.prog 20 [aCod c] (aInt (codE c)) := by
 refine ctr_of Try.call20 func20 rfl rfl ?_
 intro w O
 refine ent_lenC 0 2 rfl rfl (fun hlen0_2 => ?_)
 refine ent_lenC 0 4 rfl rfl (fun hlen0_4 => ?_)
 refine esr rfl fun _ K1 => ?_
 refine ent_boxS rfl rfl (AllOne.mem ⟨(one_int _), (one_int _), one_sl, (one_int _), one_sl, trivial⟩) (fun b1_1 => ?_)
 refine emm rfl ?_
 refine enk K1 ?_
 refine esr rfl fun _ K2 => ?_
 refine ent_o rfl (ok_fieldAddrEx runUnderlying27 rfl sizeOf24 (by decide) rfl) ?_
 refine ent_o rfl (ok_loadBS (k := 0) ti24 rfl rfl rfl) ?_
 refine ent_o rfl (ok_call (rCheck_ok c.F) rfl) ?_
 refine emm rfl ?_
 refine enk K2 ?_
 refine ent_seq fun _ K3 => ?_
 refine esr rfl fun _ K4 => ?_
 refine ent_o rfl (ok_neq rfl rfl) ?_
 refine enk K4 ?_
 refine ent_condD rfl (fun h8 => ?_) (fun h8 => ?_)
 ·have hF : ¬ FOk c.F := fun h => h8 (fErr_zero.2 h)
  have h1 := fErr_no hF
  refine esk rfl ?_
  refine ent_ret ?_
  exact retR1 (.inr rfl) results20 (resr_tmp (res_cv rfl (cv_int (by rw [h1]; exact codE_no hF))))
 have hF := fErr_zero.1 (Classical.not_not.1 h8)
 refine esp K3 ?_
 refine ent_seq fun _ K6 => ?_
 refine ent_seq fun _ K7 => ?_
 refine ent_cut (⟨[(1, aEx (.pointer (some ⟨b1_1, 0, none⟩))), (17, aBool (decide ((c.N < 1) ∨ (64 < c.N))))], [oBox b1_1 27 [aInt c.F.P, aInt c.F.M, aSl 1 false aInt c.F.mod, aInt c.N, aSl 1 false aInts c.Gen]]⟩) ?_ ?_
 ·refine ent_region ?_
  refine ent_o rfl (ok_fieldAddrEx runUnderlying27 rfl sizeOf3 (by decide) rfl) ?_
  refine ent_o rfl (ok_loadB (k := 0) isAgg3 rfl rfl rfl) ?_
  refine ent_o rfl (ok_lss rfl rfl) ?_
  refine emm rfl ?_
  refine ent_guardXDf rfl rfl rfl rfl (fun hg13 => ?_) (fun hg13 => ?_)
  ·refine ent_o rfl (ok_fieldAddrEx runUnderlying27 rfl sizeOf3 (by decide) rfl) ?_
   refine ent_guardXT rfl rfl rfl rfl (decide_eq_false hg13) ?_
   refine ent_o rfl (ok_loadB (k := 0) isAgg3 rfl rfl rfl) ?_
   refine ent_guardXT rfl rfl rfl rfl (decide_eq_false hg13) ?_
   refine ent_o rfl (ok_gtr rfl rfl) ?_
   refine ent_o rfl (ok_pickF rfl (decide_eq_false hg13) rfl) ?_
   refine ent_nil ?_
   exact ent_rep ⟨rfl, slot_bool (dq_Q ((or_iff_right hg13).trans Iff.rfl)), trivial⟩ rfl
  refine ent_guardXF rfl rfl rfl rfl (decide_eq_true hg13) ?_
  refine ent_guardXF rfl rfl rfl rfl (decide_eq_true hg13) ?_
  refine ent_o rfl (ok_pickT rfl (decide_eq_true hg13) rfl) ?_
  refine ent_nil ?_
  exact ent_rep ⟨rfl, slot_bool (dq_T rfl (Or.inl hg13)), trivial⟩ rfl
 refine ent_k K7 ?_
 refine ent_condD rfl (fun h17 => ?_) (fun h17 => ?_)
 ·refine esk rfl ?_
  refine ent_ret ?_
  exact retR1 (.inr rfl) results20 (resr_tmp (res_cv rfl (cv_int (by unfold codE; rw [if_pos hF, if_pos h17]))))
 refine esp K6 ?_
 refine esr rfl fun _ K9 => ?_
 refine ent_o rfl (ok_fieldAddrEx runUnderlying27 rfl sizeOf24 (by decide) rfl) ?_
 refine ent_o rfl (ok_loadBS (k := 0) ti24 rfl rfl rfl) ?_
 refine ent_o rfl (ok_fieldAddrEx runUnderlying27 rfl sizeOf3 (by decide) rfl) ?_
 refine ent_o rfl (ok_loadB (k := 0) isAgg3 rfl rfl rfl) ?_
 refine ent_o rfl (ok_fieldAddrEx runUnderlying27 rfl sizeOf25 (by decide) rfl) ?_
 refine ent_o rfl (ok_loadB (k := 0) isAgg25 rfl rfl rfl) ?_
 refine ent_o rfl (ok_build st76 (As := [aInt 0, aEx (.slice none 0 0)]) z76 (⟨0, 1, rfl, .inl ⟨rfl, _, rfl, (one_int _), rfl, ⟨1, 1, rfl, .inl ⟨rfl, _, rfl, one_sl, rfl, rfl⟩⟩⟩⟩)) ?_
 refine ent_o rfl (ok_callA (rspCheck_ok c.F c.m) ⟨arg_a rfl (cv_id sub_refl), arg_a rfl (cv_agg ⟨cv_int rfl, cv_sl sub_refl rfl, trivial⟩), trivial⟩) ?_
 refine emm rfl ?_
 refine enk K9 ?_
 refine ent_ret ?_
 exact retR1 (.inr rfl) results20 (resr_tmp (res_cv rfl (cv_int (by unfold codE; rw [if_pos hF, if_neg h17]))))

theorem own_ok (f : Fld) (hS : Shape f) : Ctr Try.prog 83 [aFld f] (aFld f) := by
 have hml := hS.mod_le
 refine ctr_of Try.call83 func83 rfl rfl ?_
 intro w O
 refine ent_lenC 0 2 rfl rfl (fun hlen0_2 => ?_)
 refine esr rfl fun _ K1 => ?_
 refine ent_boxS rfl rfl (AllOne.mem ⟨(one_int _), (one_int _), one_sl, trivial⟩) (fun b1_1 => ?_)
 refine ent_alloc (z := .agg #[.int .i64 0, .int .i64 0, .slice none 0 0]) [aInt 0, aInt 0, aEx (.slice none 0 0)] rfl zv24 rfl zc24 (fun b2_2 => ?_)
 refine enk K1 ?_
 refine esr rfl fun _ K2 => ?_
 refine ent_o rfl (ok_fieldAddrEx runUnderlying24 rfl sizeOf22 (by decide) rfl) ?_
 refine ent_o rfl (ok_loadB (k := 1) isAgg22 rfl rfl rfl) ?_
 refine ent_o rfl (ok_call (CtrN.ctr (Clone_ok f.mod (by omega))) rfl) ?_
 refine ent_o rfl (ok_fieldAddrEx runUnderlying24 rfl sizeOf22 (by decide) rfl) ?_
 refine ent_storeB (k := 1) sizeOf22 rfl rfl rfl one_sl rfl ?_
 refine enk K2 ?_
 refine esr rfl fun _ K3 => ?_
 refine ent_o rfl (ok_loadBS (k := 1) ti24 rfl rfl rfl) ?_
 refine ent_storeBS (k := 0) sizeOf24 rfl rfl rfl (AllOne.mem ⟨(one_int _), (one_int _), one_sl, trivial⟩) rfl rfl ?_
 show Ent _ ⟨_, [_, _]⟩ _
 refine enk K3 ?_
 refine ent_ret ?_
 exact retR1 (.inr rfl) results83 (resr_cell (k := 0) ti24 rfl rfl rfl (cv_agg ⟨cv_int rfl, cv_int rfl, cv_sl sub_x rfl, trivial⟩))

theorem of_ok (f : Fld) (m : Mat) (hS : Shape f) : Ctr Try.prog 57 [aFld f, aMat m, aInt 0] (aTup [aCod (⟨f, m.cols, m.rows⟩), aInt 0]) := by
 refine ctr_of Try.call57 func57 rfl rfl ?_
 intro w O
 refine ent_lenC 0 2 rfl rfl (fun hlen0_2 => ?_)
 refine ent_lenC 1 1 rfl rfl (fun hlen1_1 => ?_)
 refine esr rfl fun _ K1 => ?_
 refine ent_boxS rfl rfl (AllOne.mem ⟨(one_int _), (one_int _), one_sl, trivial⟩) (fun b3_1 => ?_)
 refine ent_boxS rfl rfl (AllOne.mem ⟨(one_int _), one_sl, trivial⟩) (fun b4_2 => ?_)
 refine ent_alloc (z := .agg #[.int .i64 0, .int .i64 0, .slice none 0 0, .int .i64 0, .slice none 0 0]) [aInt 0, aInt 0, aEx (.slice none 0 0), aInt 0, aEx (.slice none 0 0)] rfl zv27 rfl zc27 (fun b6_3 => ?_)
 refine emm rfl ?_
 refine enk K1 ?_
 refine ent_seq fun _ K2 => ?_
 refine esr rfl fun _ K3 => ?_
 refine ent_o rfl (ok_neq rfl rfl) ?_
 refine enk K3 ?_
 refine ent_condFP rfl (by decide) ?_
 refine esp K2 ?_
 refine ent_seq fun _ K4 => ?_
 refine ent_draw 7 mixed (by kernel_rfl) (by kernel_rfl) (by kernel_rfl) ?_
 refine dw_o rfl (ok_loadBS (k := 2) ti24 rfl rfl rfl) ?_
 refine dw_o rfl (ok_call (own_ok f ‹_›) rfl) ?_
 refine dw_o rfl (ok_fieldAddrEx runUnderlying76 rfl sizeOf3 (by decide) rfl) ?_
 refine dw_o rfl (ok_loadB (k := 1) isAgg3 rfl rfl rfl) ?_
 refine dw_o rfl (ok_fieldAddrEx runUnderlying76 rfl sizeOf25 (by decide) rfl) ?_
 refine dw_o rfl (ok_loadB (k := 1) isAgg25 rfl rfl rfl) ?_
 refine dw_o rfl (ok_build st27 (As := [aInt 0, aInt 0, aEx (.slice none 0 0), aInt 0, aEx (.slice none 0 0)]) z27 (⟨0, 3, rfl, .inr ⟨_, rfl, rfl, rfl, ⟨3, 1, rfl, .inl ⟨rfl, _, rfl, (one_int _), rfl, ⟨4, 1, rfl, .inl ⟨rfl, _, rfl, one_sl, rfl, rfl⟩⟩⟩⟩⟩⟩)) ?_
 refine dw_nil ?_
 refine ent_storeBS (k := 0) sizeOf27 rfl rfl rfl (AllOne.mem ⟨(one_int _), (one_int _), one_sl, (one_int _), one_sl, trivial⟩) rfl rfl ?_
 show Ent _ ⟨_, [_, _, _]⟩ _
 refine emm rfl ?_
 refine enk K4 ?_
 refine ent_ret ?_
 exact retR2 (.inr rfl) results57 (resr_cell (k := 0) ti27 rfl rfl rfl (cv_agg ⟨cv_int rfl, cv_int rfl, cv_sl sub_x rfl, cv_int rfl, cv_sl sub_x rfl, trivial⟩)) (resr_tmp (res_cv rfl (cv_int rfl)))

theorem Dual_ok (c : Cod) (hk : COk c) : Ctr Try.prog 35 [aCod c] (aTup [aCod (dua c), aInt 0]) := by
 have hc0 := codE_zero.2 hk
 have hkm := kerM_code hk
 have hme := hk.mat
 refine ctr_of Try.call35 func35 rfl rfl ?_
 intro w O
 refine ent_lenC 0 2 rfl rfl (fun hlen0_2 => ?_)
 refine ent_lenC 0 4 rfl rfl (fun hlen0_4 => ?_)
 refine esr rfl fun _ K1 => ?_
 refine ent_boxS rfl rfl (AllOne.mem ⟨(one_int _), (one_int _), one_sl, (one_int _), one_sl, trivial⟩) (fun b1_1 => ?_)
 refine ent_alloc (z := .agg #[.int .i64 0, .int .i64 0, .slice none 0 0, .int .i64 0, .slice none 0 0]) [aInt 0, aInt 0, aEx (.slice none 0 0), aInt 0, aEx (.slice none 0 0)] rfl zv27 rfl zc27 (fun b2_2 => ?_)
 refine emm rfl ?_
 refine enk K1 ?_
 refine ent_seq fun _ K2 => ?_
 refine esr rfl fun _ K3 => ?_
 refine ent_o rfl (ok_loadBS (k := 1) ti27 rfl rfl rfl) ?_
 refine ent_o rfl (ok_call (cCheck_ok c) rfl) ?_
 refine emm rfl ?_
 refine enk K3 ?_
 refine esr rfl fun _ K4 => ?_
 refine ent_o rfl (ok_neq rfl rfl) ?_
 refine enk K4 ?_
 refine ent_condD rfl (fun h10 => ?_) (fun h10 => ?_)
 ·exact absurd hc0 h10
 refine esp K2 ?_
 refine ent_seq fun _ K5 => ?_
 refine ent_drawB2 (T := 76) (z := .agg #[.int .i64 0, .slice none 0 0]) (As := [aInt 0, aEx (.slice none 0 0)]) 9 [7] 8 5 [(14, aEx (.pointer (some ⟨b1_1, 0, none⟩))), (15, aAgg [aInt c.F.P, aInt c.F.M, aSl 1 false aInt c.F.mod]), (16, aAgg [aInt c.F.P, aInt c.F.M, aSl 1 false aInt c.F.mod, aInt c.N, aSl 1 false aInts c.Gen]), (17, aMat c.m), (18, aTup [aMat (kerM c.F c.m), aInt (mErr c.F c.m)]), (13, aTup [aMat (kerM c.F c.m), aInt (mErr c.F c.m)]), (19, aMat (kerM c.F c.m)), (20, aInt (mErr c.F c.m)), (5, aBoxF w.heap.size 76 [aInt 0, aEx (.slice none 0 0)])] mixed (by kernel_rfl) (by kernel_rfl) (by kernel_rfl) (by kernel_rfl) (by kernel_rfl) (fun _ _ _ _ _ h => h) rfl (by kernel_rfl) (by kernel_rfl) (fun _ => by kernel_rfl) (fun _ => by kernel_rfl) (fun _ => by kernel_rfl) zv76 rfl zc76 (by kernel_rfl) ?_ (fun bb_3 => ?_)
 ·refine dwl_o rfl rfl (OpOK.eqv (ok_fieldAddrEx runUnderlying27 rfl sizeOf24 (by decide) rfl) rfl) ?_
  refine dwl_o rfl rfl (OpOK.eqv (ok_loadBS (k := 1) ti24 rfl rfl rfl) rfl) ?_
  refine dwl_o rfl rfl (OpOK.eqv (ok_loadBS (k := 1) ti27 rfl rfl rfl) rfl) ?_
  refine dwl_o rfl rfl (OpOK.eqv (ok_call (gen_ok c) rfl) rfl) ?_
  refine dwl_o rfl rfl (OpOK.eqv (ok_call (mKernel_ok c.F c.m) rfl) rfl) ?_
  refine dwl_o rfl rfl (OpOK.eqv (ok_move rfl) rfl) ?_
  refine dwl_o rfl rfl (OpOK.eqv (ok_extract rfl rfl) rfl) ?_
  refine dwl_o rfl rfl (OpOK.eqv (ok_extract rfl rfl) rfl) ?_
  refine dwl_o rfl rfl (OpOK.eqv (ok_allocF (z := .agg #[.int .i64 0, .slice none 0 0]) [aInt 0, aEx (.slice none 0 0)] zv76 rfl zc76) rfl) ?_
  exact dwl_nil trivial
 refine dwl_o rfl rfl (OpOK.eqv (ok_fieldAddrEx runUnderlying27 rfl sizeOf24 (by decide) rfl) rfl) ?_
 refine dwl_o rfl rfl (OpOK.eqv (ok_loadBS (k := 2) ti24 rfl rfl rfl) rfl) ?_
 refine dwl_o rfl rfl (OpOK.eqv (ok_loadBS (k := 2) ti27 rfl rfl rfl) rfl) ?_
 refine dwl_o rfl rfl (OpOK.eqv (ok_call (gen_ok c) rfl) rfl) ?_
 refine dwl_o rfl rfl (OpOK.eqv (ok_call (mKernel_ok c.F c.m) rfl) rfl) ?_
 refine dwl_o rfl rfl (OpOK.eqv (ok_move rfl) rfl) ?_
 refine dwl_o rfl rfl (OpOK.eqv (ok_extract rfl rfl) rfl) ?_
 refine dwl_o rfl rfl (OpOK.eqv (ok_extract rfl rfl) rfl) ?_
 refine dwl_o rfl rfl (ok_move rfl) ?_
 refine dwl_nil ?_
 refine ent_storeBS (k := 0) sizeOf76 rfl rfl rfl (AllOne.mem ⟨(one_int _), one_sl, trivial⟩) rfl rfl ?_
 show Ent _ ⟨_, [_, _, _]⟩ _
 refine emm rfl ?_
 refine enk K5 ?_
 refine esr rfl fun _ K6 => ?_
 refine ent_o rfl (ok_fieldAddrEx runUnderlying27 rfl sizeOf24 (by decide) rfl) ?_
 refine ent_o rfl (ok_loadBS (k := 2) ti24 rfl rfl rfl) ?_
 refine ent_o rfl (ok_loadBS (k := 0) ti76 rfl rfl rfl) ?_
 refine emm rfl ?_
 refine ent_o rfl (ok_callA (of_ok c.F (kerM c.F c.m) hk.fld.1) ⟨arg_a rfl (cv_id sub_refl), arg_a rfl (cv_id sub_refl), arg_a rfl (cv_int ‹_›), trivial⟩) ?_
 refine ent_o rfl (ok_extract rfl rfl) ?_
 refine ent_o rfl (ok_extract rfl rfl) ?_
 refine ent_storeBS (k := 1) sizeOf27 rfl rfl rfl (AllOne.mem ⟨(one_int _), (one_int _), one_sl, (one_int _), one_sl, trivial⟩) rfl rfl ?_
 show Ent _ ⟨_, [_, _, _]⟩ _
 refine emm rfl ?_
 refine enk K6 ?_
 refine ent_ret ?_
 exact retR2 (.inr rfl) results35 (resr_cell (k := 1) ti27 rfl rfl rfl (cv_agg ⟨cv_int rfl, cv_int rfl, cv_sl sub_x rfl, cv_int (by rw [hkm]; rfl), cv_sl sub_x (by rw [hkm]), trivial⟩)) (resr_tmp (res_cv rfl (cv_int rfl)))

theorem rParity_ok (c : Cod) (hk : COk c) : Ctr Try.prog 44 [aCod c] (aSl 1 false aInts ((dua c).Gen)) := by
 have hn1 := hk.n1
 have hn64 := hk.n64
 have hln := hk.len
 have hqb := hk.fld.1.bd
 refine ctr_of Try.call44 func44 rfl rfl ?_
 intro w O
 refine ent_lenC 0 2 rfl rfl (fun hlen0_2 => ?_)
 refine ent_lenC 0 4 rfl rfl (fun hlen0_4 => ?_)
 refine esr rfl fun _ K1 => ?_
 refine ent_boxS rfl rfl (AllOne.mem ⟨(one_int _), (one_int _), one_sl, (one_int _), one_sl, trivial⟩) (fun b1_1 => ?_)
 refine emm rfl ?_
 refine enk K1 ?_
 refine esr rfl fun _ K2 => ?_
 refine ent_o rfl (ok_fieldAddrEx runUnderlying27 rfl sizeOf24 (by decide) rfl) ?_
 refine ent_o rfl (ok_loadBS (k := 0) ti24 rfl rfl rfl) ?_
 refine ent_o rfl (ok_fieldAddrEx runUnderlying27 rfl sizeOf25 (by decide) rfl) ?_
 refine ent_o rfl (ok_loadB (k := 0) isAgg25 rfl rfl rfl) ?_
 refine ent_o rfl (ok_fieldAddrEx runUnderlying27 rfl sizeOf3 (by decide) rfl) ?_
 refine ent_o rfl (ok_loadB (k := 0) isAgg3 rfl rfl rfl) ?_
 refine ent_o rfl (ok_call (rNull_ok c.F c.Gen c.N c.N.toNat hk.fld hk.good (by omega) (by omega) (by omega) (by omega)) rfl) ?_
 refine emm rfl ?_
 refine enk K2 ?_
 refine ent_ret ?_
 exact retR1 (.inr rfl) results44 (resr_tmp (res_cv rfl (cv_sl sub_x rfl)))

theorem rCountN_ok (f : Fld) (n : Int) (hS : Shape f) (h0n : 0 ≤ n) (h1n : n ≤ 64) : Ctr Try.prog 21 [aFld f, aInt n] (aTup [aInt (expF f.q n 65536), aInt (expE f.q n 65536)]) := by
 have hqb := hS.bd
 refine ctr_of Try.call21 func21 rfl rfl ?_
 intro w O
 refine ent_lenC 0 2 rfl rfl (fun hlen0_2 => ?_)
 refine esr rfl fun _ K1 => ?_
 refine ent_boxS rfl rfl (AllOne.mem ⟨(one_int _), (one_int _), one_sl, trivial⟩) (fun b2_1 => ?_)
 refine emm rfl ?_
 refine enk K1 ?_
 refine ent_seq fun _ K2 => ?_
 refine ent_seq fun _ K3 => ?_
 refine ent_cut (⟨[(1, aInt n), (2, aEx (.pointer (some ⟨b2_1, 0, none⟩))), (14, aBool (decide ((n < 0) ∨ (64 < n))))], [oBox b2_1 24 [aInt f.P, aInt f.M, aSl 1 false aInt f.mod]]⟩) ?_ ?_
 ·refine ent_region ?_
  refine emm rfl ?_
  refine ent_o rfl (ok_lss rfl rfl) ?_
  refine emm rfl ?_
  refine ent_guardXDf rfl rfl rfl rfl (fun hg11 => ?_) (fun hg11 => ?_)
  ·refine emm rfl ?_
   refine ent_guardXT rfl rfl rfl rfl (decide_eq_false hg11) ?_
   refine ent_o rfl (ok_gtr rfl rfl) ?_
   refine ent_o rfl (ok_pickF rfl (decide_eq_false hg11) rfl) ?_
   refine ent_nil ?_
   exact ent_rep ⟨rfl, rfl, slot_bool (dq_Q ((or_iff_right hg11).trans Iff.rfl)), trivial⟩ rfl
  refine ent_guardXF rfl rfl rfl rfl (decide_eq_true hg11) ?_
  refine ent_o rfl (ok_pickT rfl (decide_eq_true hg11) rfl) ?_
  refine ent_nil ?_
  exact ent_rep ⟨rfl, rfl, slot_bool (dq_T rfl (Or.inl hg11)), trivial⟩ rfl
 refine ent_k K3 ?_
 refine ent_condD rfl (fun h14 => ?_) (fun h14 => ?_)
 ·omega
 refine esp K2 ?_
 refine esr rfl fun _ K4 => ?_
 refine ent_o rfl (ok_loadBS (k := 0) ti24 rfl rfl rfl) ?_
 refine ent_o rfl (ok_call (rOrder_ok f) rfl) ?_
 refine emm rfl ?_
 refine enk K4 ?_
 refine esk rfl ?_
 refine ent_seq fun _ K6 => ?_
 refine esk rfl ?_
 refine ent_block ?_
 refine ent_loop (fun (j : Int) => (⟨[(1, aInt n), (6, aInt f.q), (7, aInt (f.q ^ j.toNat)), (8, aInt j)], [oBox b2_1 24 [aInt f.P, aInt f.M, aSl 1 false aInt f.mod]]⟩ : St)) (fun (j : Int) => (0 ≤ j) ∧ (j ≤ n) ∧ (f.q ^ j.toNat ≤ 65536)) (fun (j : Int) => (n - j).toNat) 0 ⟨(by omega), ‹_›, (by simp)⟩ (ent_rep ⟨rfl, rfl, slot_av (av_int (show 1 = f.q ^ (0 : Int).toNat by simp)), slot_av (av_int (show 0 = (0 : Int) by rfl)), trivial⟩ rfl) ?_
 rintro j ⟨h0, h1, h2⟩
 show Ent _ ⟨_, [_]⟩ _
 refine ent_seq fun _ K8 => ?_
 refine esr rfl fun _ K9 => ?_
 refine ent_o rfl (ok_lss rfl rfl) ?_
 refine enk K9 ?_
 refine ent_condD rfl (fun h19 => ?_) (fun h19 => ?_)
 ·have hs := pow_succ_toNat f.q j h0
  have hp := pow_pos_of f.q (by omega) j.toNat
  have hpk := pow_mono_of f.q (by omega) (show (j + 1).toNat ≤ n.toNat by omega)
  have hmm : 0 ≤ f.q ^ j.toNat * f.q ∧ f.q ^ j.toNat * f.q ≤ 65536 * 256 := ⟨Int.mul_nonneg (by omega) (by omega), Int.mul_le_mul (by omega) (by omega) (by omega) (by omega)⟩
  refine esp K8 ?_
  refine ent_seq fun _ K10 => ?_
  refine ent_block ?_
  refine ent_seq fun _ K11 => ?_
  refine esr rfl fun _ K12 => ?_
  refine ent_o rfl (ok_quo rfl rfl (by omega) (by omega) (by omega)) ?_
  refine ent_o rfl (ok_gtr rfl rfl) ?_
  refine enk K12 ?_
  refine ent_condD rfl (fun h25 => ?_) (fun h25 => ?_)
  ·have hlt : 65536 < f.q ^ j.toNat * f.q := (Int.ediv_lt_iff_lt_mul (by omega)).1 h25
   refine esk rfl ?_
   refine ent_ret ?_
   exact retR2 (.inr rfl) results21 (resr_tmp (res_cv rfl (cv_int (by unfold expF; rw [if_neg (by omega)])))) (resr_tmp (res_cv rfl (cv_int (by unfold expE; rw [if_neg (by omega)]))))
  have hle : f.q ^ j.toNat * f.q ≤ 65536 := (Int.le_ediv_iff_mul_le (by omega)).1 (by omega)
  refine esp K11 ?_
  refine ent_region ?_
  refine emm rfl ?_
  refine ent_o rfl (ok_mul rfl rfl (by omega) (by omega)) ?_
  refine emm rfl ?_
  refine enk K10 ?_
  refine ent_region ?_
  refine emm rfl ?_
  refine ent_o rfl (ok_add rfl rfl (by omega) (by omega)) ?_
  refine emm rfl ?_
  refine ent_nil ?_
  refine ent_again (s := (j)) (j + 1) ⟨(by omega), ‹_›, (by rw [hs]; exact hle)⟩ (by omega) (ent_rep ⟨rfl, rfl, slot_av (av_int (show (f.q ^ j.toNat) * f.q = f.q ^ (j + 1).toNat by rw [hs])), rfl, trivial⟩ rfl)
 refine ent_exit ?_
 refine ent_k K6 ?_
 refine esk rfl ?_
 refine ent_ret ?_
 exact retR2 (.inr rfl) results21 (resr_tmp (res_cv rfl (cv_int (by unfold expF; rw [show n = j by omega, if_pos h2])))) (resr_tmp (res_cv rfl (cv_int (by unfold expE; rw [show n = j by omega, if_pos h2]))))

theorem Order_ok (f : Fld)  : Ctr Try.prog 38 [aGF f] (aInt f.q) := by
 refine ctr_of Try.call38 func38 rfl rfl ?_
 intro w O
 refine ent_lenP 0 4 rfl rfl (fun hlen0_4 => ?_)
 refine ent_lenP 0 5 rfl rfl (fun hlen0_5 => ?_)
 refine esk rfl ?_
 refine esr rfl fun _ K2 => ?_
 refine ent_o rfl (ok_nilCheck rfl) ?_
 refine ent_o rfl (ok_fieldAddr1 runUnderlying93 rfl sizeOf3 rfl rfl) ?_
 refine ent_o rfl (ok_load ti3 rfl) ?_
 refine emm rfl ?_
 refine enk K2 ?_
 refine ent_ret ?_
 exact retR1 (.inr rfl) results38 (resr_tmp (res_cv rfl (cv_int rfl)))

theorem Dual_no (c : Cod) (h : codE c ≠ 0) : Ctr Try.prog 35 [aCod c] (aTup [aCod Cod.no, aInt (codE c)]) := by
 refine ctr_of Try.call35 func35 rfl rfl ?_
 intro w O
 refine ent_lenC 0 2 rfl rfl (fun hlen0_2 => ?_)
 refine ent_lenC 0 4 rfl rfl (fun hlen0_4 => ?_)
 refine esr rfl fun _ K1 => ?_
 refine ent_boxS rfl rfl (AllOne.mem ⟨(one_int _), (one_int _), one_sl, (one_int _), one_sl, trivial⟩) (fun b1_1 => ?_)
 refine ent_alloc (z := .agg #[.int .i64 0, .int .i64 0, .slice none 0 0, .int .i64 0, .slice none 0 0]) [aInt 0, aInt 0, aEx (.slice none 0 0), aInt 0, aEx (.slice none 0 0)] rfl zv27 rfl zc27 (fun b2_2 => ?_)
 refine emm rfl ?_
 refine enk K1 ?_
 refine ent_seq fun _ K2 => ?_
 refine esr rfl fun _ K3 => ?_
 refine ent_o rfl (ok_loadBS (k := 1) ti27 rfl rfl rfl) ?_
 refine ent_o rfl (ok_call (cCheck_ok c) rfl) ?_
 refine emm rfl ?_
 refine enk K3 ?_
 refine esr rfl fun _ K4 => ?_
 refine ent_o rfl (ok_neq rfl rfl) ?_
 refine enk K4 ?_
 refine ent_condD rfl (fun h10 => ?_) (fun h10 => ?_)
 ·refine esr rfl fun _ K5 => ?_
  refine ent_o rfl (ok_build st27 (As := [aInt 0, aInt 0, aEx (.slice none 0 0), aInt 0, aEx (.slice none 0 0)]) z27 (rfl)) ?_
  refine emm rfl ?_
  refine ent_storeBS (k := 0) sizeOf27 rfl rfl rfl (AllOne.mem ⟨(one_int _), (one_int _), (one_ex rfl), (one_int _), (one_ex rfl), trivial⟩) rfl rfl ?_
  show Ent _ ⟨_, [_, _]⟩ _
  refine emm rfl ?_
  refine enk K5 ?_
  refine ent_ret ?_
  exact retR2 (.inr rfl) results35 (resr_cell (k := 0) ti27 rfl rfl rfl (cv_agg ⟨cv_int rfl, cv_int rfl, cv_nil (fun _ => rfl) rfl, cv_int rfl, cv_nil (fun _ => rfl) rfl, trivial⟩)) (resr_tmp (res_cv rfl (cv_int rfl)))
 exact absurd (Classical.not_not.1 h10) h

theorem listC_ok (f : Fld) (x : Int)  : Ctr Try.prog 100 [aInt x, aAt 1 false (aGF f)] (aBool (decide (¬ (0 ≤ x ∧ x < f.q)))) := by
 refine ctr_of Try.call100 func100 rfl rfl ?_
 intro w O
 refine esk rfl ?_
 refine esr rfl fun _ K2 => ?_
 refine ent_o rfl (ok_load ti48 rfl) ?_
 refine emm rfl ?_
 refine ent_o rfl (ok_call (Is_ok f x) rfl) ?_
 refine ent_o rfl (ok_notD rfl) ?_
 refine emm rfl ?_
 refine enk K2 ?_
 refine ent_ret ?_
 exact retR1 (.inr rfl) results100 (resr_tmp (res_cv rfl (cv_bool rfl)))

theorem IndexFunc_ok (f : Fld) (l : List Int)  : Ctr Try.prog 118 [aSl 1 false aInt l, aClo 100 [aAt 1 false (aGF f)]] (aInt (idxF f l 0)) := by
 refine ctr_of Try.call118 func118 rfl rfl ?_
 intro w O
 refine ent_len 0 rfl (fun hlen0 => ?_)
 refine esk rfl ?_
 refine ent_seq fun _ K2 => ?_
 refine esr rfl fun _ K3 => ?_
 refine ent_o rfl (ok_len rfl runUnderlying22 rfl) ?_
 refine emm rfl ?_
 refine enk K3 ?_
 refine ent_block ?_
 refine ent_loop (fun (i : Int) => (⟨[(0, aSl 1 false aInt l), (1, aClo 100 [aAt 1 false (aGF f)]), (7, aInt (↑l.length : Int)), (8, aInt i)], []⟩ : St)) (fun (i : Int) => (0 ≤ i) ∧ (i ≤ l.length) ∧ (idxF f l 0 = idxF f (l.drop i.toNat) i)) (fun (i : Int) => (l.length - i).toNat) 0 ⟨(by omega), (by omega), rfl⟩ (ent_rep ⟨rfl, rfl, rfl, slot_av (av_int (show 0 = (0 : Int) by rfl)), trivial⟩ rfl) ?_
 rintro i ⟨h0, h1, hd⟩
 show Ent _ ⟨_, []⟩ _
 refine esr rfl fun _ K4 => ?_
 refine ent_o rfl (ok_lss rfl rfl) ?_
 refine enk K4 ?_
 refine ent_seq fun _ K5 => ?_
 refine ent_condD rfl (fun h9 => ?_) (fun h9 => ?_)
 ·refine esp K5 ?_
  refine ent_seq fun _ K6 => ?_
  refine ent_block ?_
  refine esk rfl ?_
  refine esr rfl fun _ K8 => ?_
  refine ent_o rfl (ok_index 0 sl22 rfl rfl (by omega) (by omega)) ?_
  refine ent_o rfl (ok_load ti3 rfl) ?_
  refine ent_o rfl (ok_callFV (As := [aInt (ix 0 l i)]) (Bs := [aAt 1 false (aGF f)]) (listC_ok f (ix 0 l i)) rfl ⟨arg_a rfl (cv_id sub_refl), trivial⟩) ?_
  refine enk K8 ?_
  refine ent_condD rfl (fun h16 => ?_) (fun h16 => ?_)
  ·refine esk rfl ?_
   refine ent_ret ?_
   exact retR1 (.inr rfl) results118 (resr_tmp (res_cv rfl (cv_int (by rw [hd]; exact (idx_hit h0 (by omega) h16).symm))))
  refine esp K6 ?_
  refine ent_region ?_
  refine ent_o rfl (ok_add rfl rfl (by omega) (by omega)) ?_
  refine emm rfl ?_
  refine ent_nil ?_
  refine ent_again (s := (i)) (i + 1) ⟨(by omega), ‹_›, (hd.trans (idx_next h0 (by omega) (Classical.not_not.1 h16)))⟩ (by omega) (ent_rep ⟨rfl, rfl, rfl, rfl, trivial⟩ rfl)
 refine ent_exit ?_
 refine ent_k K2 ?_
 refine esk rfl ?_
 refine ent_ret ?_
 exact retR1 (.inr rfl) results118 (resr_tmp (res_cv rfl (cv_int (by rw [hd]; exact (idx_end (by omega)).symm))))

theorem ContainsFunc_ok (f : Fld) (l : List Int)  : Ctr Try.prog 99 [aSl 1 false aInt l, aClo 100 [aAt 1 false (aGF f)]] (aBool (decide (0 ≤ idxF f l 0))) := by
 refine ctr_of Try.call99 func99 rfl rfl ?_
 intro w O
 refine ent_len 0 rfl (fun hlen0 => ?_)
 refine esk rfl ?_
 refine esr rfl fun _ K2 => ?_
 refine ent_o rfl (ok_call (IndexFunc_ok f l) rfl) ?_
 refine ent_o rfl (ok_geq rfl rfl) ?_
 refine emm rfl ?_
 refine enk K2 ?_
 refine ent_ret ?_
 exact retR1 (.inr rfl) results99 (resr_tmp (res_cv rfl (cv_bool rfl)))

theorem cList_ok (f : Fld) (l : List Int) (n : Int) (hF : FOk f) : Ctr Try.prog 84 [aFld f, aSl 1 false aInt l, aInt n] (aInt (lisE f l n)) := by
 refine ctr_of Try.call84 func84 rfl rfl ?_
 intro w O
 refine ent_lenC 0 2 rfl rfl (fun hlen0_2 => ?_)
 refine ent_len 1 rfl (fun hlen1 => ?_)
 refine esr rfl fun _ K1 => ?_
 refine ent_boxS rfl rfl (AllOne.mem ⟨(one_int _), (one_int _), one_sl, trivial⟩) (fun b3_1 => ?_)
 refine emm rfl ?_
 refine enk K1 ?_
 refine ent_seq fun _ K2 => ?_
 refine esr rfl fun _ K3 => ?_
 refine ent_o rfl (ok_len rfl runUnderlying22 rfl) ?_
 refine emm rfl ?_
 refine ent_o rfl (ok_neq rfl rfl) ?_
 refine enk K3 ?_
 refine ent_condD rfl (fun h12 => ?_) (fun h12 => ?_)
 ·refine esk rfl ?_
  refine ent_ret ?_
  exact retR1 (.inr rfl) results84 (resr_tmp (res_cv rfl (cv_int (by unfold lisE; rw [if_pos h12]))))
 refine esp K2 ?_
 refine esr rfl fun _ K5 => ?_
 refine ent_o rfl (ok_loadBS (k := 0) ti24 rfl rfl rfl) ?_
 refine ent_o rfl (ok_call (CtrF.ctr (New_ok f hF)) rfl) ?_
 refine emm rfl ?_
 refine ent_o rfl (ok_extract rfl rfl) ?_
 refine ent_o rfl (ok_extract rfl rfl) ?_
 refine ent_alloc (z := (.pointer none)) [aEx (.pointer none)] rfl zv48 rfl zc48 (fun b7_2 => ?_)
 refine ent_storeB (k := 0) sizeOf48 rfl rfl rfl one_at rfl ?_
 refine emm rfl ?_
 refine enk K5 ?_
 refine ent_seq fun _ K6 => ?_
 refine esr rfl fun _ K7 => ?_
 refine ent_o rfl (ok_neq rfl rfl) ?_
 refine enk K7 ?_
 refine ent_condFP rfl (by decide) ?_
 refine esp K6 ?_
 refine ent_seq fun _ K8 => ?_
 refine esr rfl fun _ K9 => ?_
 refine ent_o rfl (ok_makeFunc (us := [.pointer (some ⟨b7_2, 0, none⟩)]) rfl) ?_
 refine ent_o rfl (ok_callP [0] (by exact pl_ex) (ContainsFunc_ok f l) ⟨arg_a rfl (cv_id (sub_lent _)), arg_a rfl (cv_clo ⟨cv_box1 (k := 0) (off_lent rfl (by decide)) (cv_id (sub_lent _)), trivial⟩), trivial⟩) ?_
 refine enk K9 ?_
 refine ent_condD rfl (fun h23 => ?_) (fun h23 => ?_)
 ·refine esk rfl ?_
  refine ent_ret ?_
  exact retR1 (.inr rfl) results84 (resr_tmp (res_cv rfl (cv_int (by unfold lisE; rw [if_neg h12]; unfold entErr; rw [if_pos ((idx_out (Int.le_refl 0)).1 h23)]))))
 refine esp K8 ?_
 refine esk rfl ?_
 refine ent_ret ?_
 exact retR1 (.inr rfl) results84 (resr_tmp (res_cv rfl (cv_int (by unfold lisE; rw [if_neg h12]; unfold entErr; rw [if_neg (fun h => h23 ((idx_out (Int.le_refl 0)).2 h))]))))

theorem cWord_ok (c : Cod) (y : List Int)  : Ctr Try.prog 58 [aCod c, aSl 1 false aInt y] (aInt (wrdE c y)) := by
 refine ctr_of Try.call58 func58 rfl rfl ?_
 intro w O
 refine ent_lenC 0 2 rfl rfl (fun hlen0_2 => ?_)
 refine ent_lenC 0 4 rfl rfl (fun hlen0_4 => ?_)
 refine ent_len 1 rfl (fun hlen1 => ?_)
 refine esr rfl fun _ K1 => ?_
 refine ent_boxS rfl rfl (AllOne.mem ⟨(one_int _), (one_int _), one_sl, (one_int _), one_sl, trivial⟩) (fun b2_1 => ?_)
 refine emm rfl ?_
 refine enk K1 ?_
 refine ent_seq fun _ K2 => ?_
 refine esr rfl fun _ K3 => ?_
 refine ent_o rfl (ok_loadBS (k := 0) ti27 rfl rfl rfl) ?_
 refine ent_o rfl (ok_call (cCheck_ok c) rfl) ?_
 refine emm rfl ?_
 refine enk K3 ?_
 refine esr rfl fun _ K4 => ?_
 refine ent_o rfl (ok_neq rfl rfl) ?_
 refine enk K4 ?_
 refine ent_condD rfl (fun h9 => ?_) (fun h9 => ?_)
 ·refine esk rfl ?_
  refine ent_ret ?_
  exact retR1 (.inr rfl) results58 (resr_tmp (res_cv rfl (cv_int (by exact (wrdE_code h9).symm))))
 have hc0 := Classical.not_not.1 h9
 have hk := codE_zero.1 hc0
 refine esp K2 ?_
 refine esr rfl fun _ K6 => ?_
 refine ent_o rfl (ok_fieldAddrEx runUnderlying27 rfl sizeOf24 (by decide) rfl) ?_
 refine ent_o rfl (ok_loadBS (k := 0) ti24 rfl rfl rfl) ?_
 refine emm rfl ?_
 refine ent_o rfl (ok_fieldAddrEx runUnderlying27 rfl sizeOf3 (by decide) rfl) ?_
 refine ent_o rfl (ok_loadB (k := 0) isAgg3 rfl rfl rfl) ?_
 refine ent_o rfl (ok_call (cList_ok c.F y c.N hk.fld) rfl) ?_
 refine emm rfl ?_
 refine enk K6 ?_
 refine ent_ret ?_
 exact retR1 (.inr rfl) results58 (resr_tmp (res_cv rfl (cv_int (by unfold wrdE; rw [if_pos hc0]))))
end Go.Proofs.Ytcilbmggiahciaa

