/-
  Walks of functions of the program and the reference.
-/
import Derived.Test.YtcilbmggiahciaaGreatZ42
open Go Go.Cw
namespace Go.Proofs.YtcilbmggiahciaaGreat
open Tryz
set_option maxRecDepth 100000
set_option linter.unusedVariables false
set_option linter.unusedSimpArgs false
theorem leader_ok (c : Cod) (ls : List Lab) (s : Int) (hc : csE c = 0) (h : Prv c ls) (s0 : 0 ≤ s) (s1 : s < c.F.q ^ (dua c).Gen.length) : Ctr Tryz.prog 35 [aSp c, aSl 3 true aLab ls, aInt s] (aSl 1 false aInt (leadW c ls s)) := by
 have hcs := csE_zero.1 hc
 have hk := hcs.1
 have hqb := hk.fld.1.bd
 have hq2 := hk.q2
 have hdd := hk.dim_dua
 have hn64 := hk.n64
 have hn1 := hk.n1
 have hct := hcs.2
 have hlen := h.len
 have ltn := length_turnL (dua c).Gen c.N
 refine ctr_of Tryz.call35 func35 rfl rfl ?_
 intro w O
 refine ent_lenP 0 5 rfl rfl (fun hlen0_5 => ?_)
 refine ent_len 1 rfl (fun hlen1 => ?_)
 refine esk rfl ?_
 refine esr rfl fun _ K2 => ?_
 refine ent_o rfl (ok_nilCheck rfl) ?_
 refine ent_o rfl (ok_fieldAddr1 runUnderlying70 rfl sizeOf3 rfl rfl) ?_
 refine ent_o rfl (ok_load ti3 rfl) ?_
 refine ent_make aInt 0 rfl vt22 rfl rfl (by omega) (by omega) (by omega) (fun _ _ => rfl) (AllV.mem ⟨rfl, trivial⟩) (fun b13_1 => ?_)
 refine emm rfl ?_
 refine enk K2 ?_
 refine ent_seq fun _ K3 => ?_
 refine ent_block ?_
 refine ent_loop (fun (ss : Int × List Int) => match ss with | (x, out) => (⟨[(0, aSp c), (1, aSl 3 true aLab ls), (2, aInt x), (7, aEx (vec (some b13_1) ((c.N).toNat) ((c.N).toNat)))], [oVec (some b13_1) ((c.N).toNat) 3 1 false aInt out]⟩ : St)) (fun (ss : Int × List Int) => match ss with | (x, out) => (0 ≤ x) ∧ (x < c.F.q ^ (dua c).Gen.length) ∧ (out.length = c.N.toNat) ∧ (ldr c ls (lbl ls x).1.toNat x out = leadW c ls s)) (fun (ss : Int × List Int) => match ss with | (x, out) => (lbl ls x).1.toNat) (s, List.replicate ((c.N).toNat) 0) ⟨‹_›, ‹_›, (by simp), rfl⟩ (ent_rep ⟨rfl, rfl, rfl, rfl, trivial⟩ rfl) ?_
 rintro ⟨x, out⟩ ⟨x0, x1, ho, hl⟩
 show Ent _ ⟨_, [_]⟩ _
 refine ent_seq fun _ K4 => ?_
 refine esr rfl fun _ K5 => ?_
 refine ent_o rfl (ok_neq rfl rfl) ?_
 refine enk K5 ?_
 refine ent_condD rfl (fun h15 => ?_) (fun h15 => ?_)
 ·have hlb := prv_lab h x0 x1 h15
  have hpj : 0 ≤ (ix (0, 0, 0) ls x).2.1 ∧ (ix (0, 0, 0) ls x).2.1 < c.N ∧ 1 ≤ (ix (0, 0, 0) ls x).2.2 ∧ (ix (0, 0, 0) ls x).2.2 < c.F.q := hlb.1
  have hmv := min_dig hk x (ix (0, 0, 0) ls x).2.1 (ix (0, 0, 0) ls x).2.2
  have hst := ldr_step (out := out) hlb
  have hw1 : 1 ≤ (lbl ls x).1 := hlb.2.1
  have hmw : (lbl ls (minV c x (ix (0, 0, 0) ls x).2.1 (ix (0, 0, 0) ls x).2.2)).1 = (lbl ls x).1 - 1 := hlb.2.2
  refine esp K4 ?_
  refine ent_block ?_
  refine esr rfl fun _ K6 => ?_
  refine ent_o rfl (ok_index (0, 0, 0) sl28 rfl rfl (by omega) (by omega)) ?_
  refine ent_o rfl (ok_load ti45 rfl) ?_
  refine ent_alloc (z := .agg #[.int .i64 0, .int .i64 0, .int .i64 0]) [aInt 0, aInt 0, aInt 0] rfl zv45 rfl zc45 (fun b8_2 => ?_)
  refine ent_storeBS (k := 0) sizeOf45 rfl rfl rfl (AllOne.mem ⟨(one_int _), (one_int _), (one_int _), trivial⟩) rfl rfl ?_
  show Ent _ ⟨_, [_, _]⟩ _
  refine enk K6 ?_
  refine ent_seq fun _ K7 => ?_
  refine ent_draw 16 mixed (by kernel_rfl) (by kernel_rfl) (by kernel_rfl) ?_
  refine dw_o rfl (ok_move rfl) ?_
  refine dw_o rfl (ok_fieldAddrEx runUnderlying45 rfl sizeOf3 (by decide) rfl) ?_
  refine dw_o rfl (ok_loadB (k := 0) isAgg3 rfl rfl rfl) ?_
  refine dw_o rfl (ok_move rfl) ?_
  refine dw_o rfl (ok_nilCheck rfl) ?_
  refine dw_o rfl (ok_fieldAddr1 runUnderlying70 rfl sizeOf68 rfl rfl) ?_
  refine dw_o rfl (ok_load ti68 rfl) ?_
  refine dw_o rfl (ok_move rfl) ?_
  refine dw_o rfl (ok_fieldAddrEx runUnderlying45 rfl sizeOf3 (by decide) rfl) ?_
  refine dw_o rfl (ok_loadB (k := 0) isAgg3 rfl rfl rfl) ?_
  refine dw_o rfl (ok_indexV sl22 rfl rfl (by omega) (by omega)) ?_
  refine dw_o rfl (ok_loadV (k := 1) 0 ti3 rfl rfl (by omega) (by omega)) ?_
  refine dw_o rfl (ok_fieldAddrEx runUnderlying45 rfl sizeOf3 (by decide) rfl) ?_
  refine dw_o rfl (ok_loadB (k := 0) isAgg3 rfl rfl rfl) ?_
  refine dw_o rfl (ok_call (Add_ok c.F (ix 0 out ((ix (0, 0, 0) ls x).2.1)) ((ix (0, 0, 0) ls x).2.2) hk.fld) rfl) ?_
  refine dw_o rfl (ok_indexV sl22 rfl rfl (by omega) (by omega)) ?_
  refine dw_nil ?_
  refine ent_storeV (k := 1) (z := addF c.F (ix 0 out ((ix (0, 0, 0) ls x).2.1)) ((ix (0, 0, 0) ls x).2.2)) ti3 rfl rfl rfl (elem_one (one_int _)) (by omega) (by omega) ?_
  refine enk K7 ?_
  refine ent_region ?_
  refine emm rfl ?_
  refine ent_o rfl (ok_fieldAddrEx runUnderlying45 rfl sizeOf3 (by decide) rfl) ?_
  refine ent_o rfl (ok_loadB (k := 0) isAgg3 rfl rfl rfl) ?_
  refine ent_o rfl (ok_fieldAddrEx runUnderlying45 rfl sizeOf3 (by decide) rfl) ?_
  refine ent_o rfl (ok_loadB (k := 0) isAgg3 rfl rfl rfl) ?_
  refine ent_o rfl (ok_call (minus_ok c x ((ix (0, 0, 0) ls x).2.1) ((ix (0, 0, 0) ls x).2.2) hk hct ‹_› (by omega) (by omega) (by omega)) rfl) ?_
  refine emm rfl ?_
  refine ent_nil ?_
  refine ent_drop 0 ?_
  refine ent_again (s := (x, out)) (minV c x ((ix (0, 0, 0) ls x).2.1) ((ix (0, 0, 0) ls x).2.2), List.set out ((ix (0, 0, 0) ls x).2.1).toNat (addF c.F (ix 0 out ((ix (0, 0, 0) ls x).2.1)) ((ix (0, 0, 0) ls x).2.2))) ⟨(by omega), (by omega), (by simp only [List.length_set]; exact ho), (hst.symm.trans hl)⟩ (by dsimp only; omega) (ent_rep ⟨rfl, rfl, rfl, rfl, trivial⟩ rfl)
 refine ent_exit ?_
 refine ent_k K3 ?_
 refine esk rfl ?_
 refine ent_ret ?_
 exact retR1 (.inr rfl) results35 (resr_tmp (res_cv rfl (cv_vec (k := 0) (off_x rfl) (by simp_all) (by rw [← hl, show x = 0 by omega]; exact (ldr_end h.zero out).symm))))

theorem rLeader_ok (c : Cod) (ls : List Lab) (s : Int) (hc : csE c = 0) (h : Prv c ls) (s0 : 0 ≤ s) (s1 : s < c.F.q ^ (dua c).Gen.length) : Ctr Tryz.prog 18 [aCod c, aSl 3 true aLab ls, aInt s] (aSl 1 false aInt (leadW c ls s)) := by
 have hcs := csE_zero.1 hc
 have hk := hcs.1
 have hqb := hk.fld.1.bd
 have hq2 := hk.q2
 have hdd := hk.dim_dua
 have hn64 := hk.n64
 have hn1 := hk.n1
 have hct := hcs.2
 have hlen := h.len
 have ltn := length_turnL (dua c).Gen c.N
 refine ctr_of Tryz.call18 func18 rfl rfl ?_
 intro w O
 refine ent_lenC 0 2 rfl rfl (fun hlen0_2 => ?_)
 refine ent_lenC 0 4 rfl rfl (fun hlen0_4 => ?_)
 refine ent_len 1 rfl (fun hlen1 => ?_)
 refine esr rfl fun _ K1 => ?_
 refine ent_boxS rfl rfl (AllOne.mem ⟨(one_int _), (one_int _), one_sl, (one_int _), one_sl, trivial⟩) (fun b3_1 => ?_)
 refine emm rfl ?_
 refine enk K1 ?_
 refine esr rfl fun _ K2 => ?_
 refine ent_o rfl (ok_loadBS (k := 0) ti27 rfl rfl rfl) ?_
 refine ent_o rfl (ok_call (rCols_ok c hk) rfl) ?_
 refine emm rfl ?_
 refine enk K2 ?_
 refine esr rfl fun _ K3 => ?_
 refine ent_o rfl (ok_fieldAddrEx runUnderlying27 rfl sizeOf3 (by decide) rfl) ?_
 refine ent_o rfl (ok_loadB (k := 0) isAgg3 rfl rfl rfl) ?_
 refine ent_make aInt 0 rfl vt22 rfl rfl (by omega) (by omega) (by omega) (fun _ _ => rfl) (AllV.mem ⟨rfl, trivial⟩) (fun b14_2 => ?_)
 refine emm rfl ?_
 refine enk K3 ?_
 refine ent_seq fun _ K4 => ?_
 refine ent_block ?_
 refine ent_loop (fun (ss : Int × List Int) => match ss with | (x, out) => (⟨[(1, aSl 3 true aLab ls), (2, aInt x), (3, aEx (.pointer (some ⟨b3_1, 0, none⟩))), (7, aSl 1 false aInts (turnL (dua c).Gen c.N)), (8, aEx (vec (some b14_2) ((c.N).toNat) ((c.N).toNat)))], [oVec (some b14_2) ((c.N).toNat) 3 1 false aInt out, oBox b3_1 27 [aInt c.F.P, aInt c.F.M, aSl 1 false aInt c.F.mod, aInt c.N, aSl 1 false aInts c.Gen]]⟩ : St)) (fun (ss : Int × List Int) => match ss with | (x, out) => (0 ≤ x) ∧ (x < c.F.q ^ (dua c).Gen.length) ∧ (out.length = c.N.toNat) ∧ (ldr c ls (lbl ls x).1.toNat x out = leadW c ls s)) (fun (ss : Int × List Int) => match ss with | (x, out) => (lbl ls x).1.toNat) (s, List.replicate ((c.N).toNat) 0) ⟨‹_›, ‹_›, (by simp), rfl⟩ (ent_rep ⟨rfl, rfl, rfl, rfl, rfl, trivial⟩ rfl) ?_
 rintro ⟨x, out⟩ ⟨x0, x1, ho, hl⟩
 show Ent _ ⟨_, [_, _]⟩ _
 refine ent_seq fun _ K5 => ?_
 refine esr rfl fun _ K6 => ?_
 refine ent_o rfl (ok_neq rfl rfl) ?_
 refine enk K6 ?_
 refine ent_condD rfl (fun h16 => ?_) (fun h16 => ?_)
 ·have hlb := prv_lab h x0 x1 h16
  have hpj : 0 ≤ (ix (0, 0, 0) ls x).2.1 ∧ (ix (0, 0, 0) ls x).2.1 < c.N ∧ 1 ≤ (ix (0, 0, 0) ls x).2.2 ∧ (ix (0, 0, 0) ls x).2.2 < c.F.q := hlb.1
  have hmv := min_dig hk x (ix (0, 0, 0) ls x).2.1 (ix (0, 0, 0) ls x).2.2
  have hst := ldr_step (out := out) hlb
  have hw1 : 1 ≤ (lbl ls x).1 := hlb.2.1
  have hmw : (lbl ls (minV c x (ix (0, 0, 0) ls x).2.1 (ix (0, 0, 0) ls x).2.2)).1 = (lbl ls x).1 - 1 := hlb.2.2
  have hsm : stpV c.F (ix [] (turnL (dua c).Gen c.N) (ix (0, 0, 0) ls x).2.1) x (negF c.F (ix (0, 0, 0) ls x).2.2) = minV c x (ix (0, 0, 0) ls x).2.1 (ix (0, 0, 0) ls x).2.2 := stp_min hk hpj.1 hpj.2.1
  have hmw2 : (lbl ls (stpV c.F (ix [] (turnL (dua c).Gen c.N) (ix (0, 0, 0) ls x).2.1) x (negF c.F (ix (0, 0, 0) ls x).2.2))).1 = (lbl ls x).1 - 1 := by rw [hsm]; exact hmw
  refine esp K5 ?_
  refine ent_block ?_
  refine esr rfl fun _ K7 => ?_
  refine ent_o rfl (ok_index (0, 0, 0) sl28 rfl rfl (by omega) (by omega)) ?_
  refine ent_o rfl (ok_load ti45 rfl) ?_
  refine ent_alloc (z := .agg #[.int .i64 0, .int .i64 0, .int .i64 0]) [aInt 0, aInt 0, aInt 0] rfl zv45 rfl zc45 (fun b9_3 => ?_)
  refine ent_storeBS (k := 0) sizeOf45 rfl rfl rfl (AllOne.mem ⟨(one_int _), (one_int _), (one_int _), trivial⟩) rfl rfl ?_
  show Ent _ ⟨_, [_, _, _]⟩ _
  refine enk K7 ?_
  refine ent_seq fun _ K8 => ?_
  refine ent_draw 14 mixed (by kernel_rfl) (by kernel_rfl) (by kernel_rfl) ?_
  refine dw_o rfl (ok_move rfl) ?_
  refine dw_o rfl (ok_fieldAddrEx runUnderlying45 rfl sizeOf3 (by decide) rfl) ?_
  refine dw_o rfl (ok_loadB (k := 0) isAgg3 rfl rfl rfl) ?_
  refine dw_o rfl (ok_fieldAddrEx runUnderlying27 rfl sizeOf24 (by decide) rfl) ?_
  refine dw_o rfl (ok_loadBS (k := 2) ti24 rfl rfl rfl) ?_
  refine dw_o rfl (ok_move rfl) ?_
  refine dw_o rfl (ok_fieldAddrEx runUnderlying45 rfl sizeOf3 (by decide) rfl) ?_
  refine dw_o rfl (ok_loadB (k := 0) isAgg3 rfl rfl rfl) ?_
  refine dw_o rfl (ok_indexV sl22 rfl rfl (by omega) (by omega)) ?_
  refine dw_o rfl (ok_loadV (k := 1) 0 ti3 rfl rfl (by omega) (by omega)) ?_
  refine dw_o rfl (ok_fieldAddrEx runUnderlying45 rfl sizeOf3 (by decide) rfl) ?_
  refine dw_o rfl (ok_loadB (k := 0) isAgg3 rfl rfl rfl) ?_
  refine dw_o rfl (ok_call (rAdd_ok c.F (ix 0 out ((ix (0, 0, 0) ls x).2.1)) ((ix (0, 0, 0) ls x).2.2) hk.fld.1) rfl) ?_
  refine dw_o rfl (ok_indexV sl22 rfl rfl (by omega) (by omega)) ?_
  refine dw_nil ?_
  refine ent_storeV (k := 1) (z := addF c.F (ix 0 out ((ix (0, 0, 0) ls x).2.1)) ((ix (0, 0, 0) ls x).2.2)) ti3 rfl rfl rfl (elem_one (one_int _)) (by omega) (by omega) ?_
  refine enk K8 ?_
  refine ent_draw 15 mixed (by kernel_rfl) (by kernel_rfl) (by kernel_rfl) ?_
  refine dw_o rfl (ok_fieldAddrEx runUnderlying27 rfl sizeOf24 (by decide) rfl) ?_
  refine dw_o rfl (ok_loadBS (k := 2) ti24 rfl rfl rfl) ?_
  refine dw_o rfl (ok_move rfl) ?_
  refine dw_o rfl (ok_fieldAddrEx runUnderlying45 rfl sizeOf3 (by decide) rfl) ?_
  refine dw_o rfl (ok_loadB (k := 0) isAgg3 rfl rfl rfl) ?_
  refine dw_o rfl (ok_index [] sl25 rfl rfl (by omega) (by omega)) ?_
  refine dw_o rfl (ok_load ti22 rfl) ?_
  refine dw_o rfl (ok_move rfl) ?_
  refine dw_o rfl (ok_fieldAddrEx runUnderlying27 rfl sizeOf24 (by decide) rfl) ?_
  refine dw_o rfl (ok_loadBS (k := 2) ti24 rfl rfl rfl) ?_
  refine dw_o rfl (ok_fieldAddrEx runUnderlying45 rfl sizeOf3 (by decide) rfl) ?_
  refine dw_o rfl (ok_loadB (k := 0) isAgg3 rfl rfl rfl) ?_
  refine dw_o rfl (ok_call (rNeg_ok c.F ((ix (0, 0, 0) ls x).2.2) hk.fld.1) rfl) ?_
  refine dw_o rfl (ok_call (rStep_ok c.F (ix [] (turnL (dua c).Gen c.N) ((ix (0, 0, 0) ls x).2.1)) x (negF c.F ((ix (0, 0, 0) ls x).2.2)) hk.fld.1 ‹_› (by omega) (by have := dcol_len c hpj.1 hpj.2.1; show (dcol c _).length ≤ 64; omega) (by have := dcol_len c hpj.1 hpj.2.1; show c.F.q ^ (dcol c _).length ≤ 65536; rw [this]; exact hct)) rfl) ?_
  refine dw_o rfl (ok_assign rfl) ?_
  refine dw_nil ?_
  refine ent_nil ?_
  refine ent_drop 0 ?_
  refine ent_again (s := (x, out)) (stpV c.F (ix [] (turnL (dua c).Gen c.N) ((ix (0, 0, 0) ls x).2.1)) x (negF c.F ((ix (0, 0, 0) ls x).2.2)), List.set out ((ix (0, 0, 0) ls x).2.1).toNat (addF c.F (ix 0 out ((ix (0, 0, 0) ls x).2.1)) ((ix (0, 0, 0) ls x).2.2))) ⟨(by rw [hsm]; exact hmv.1), (by rw [hsm]; exact hmv.2.1), (by simp only [List.length_set]; exact ho), (by rw [hsm]; exact hst.symm.trans hl)⟩ (by dsimp only; omega) (ent_rep ⟨rfl, rfl, rfl, rfl, rfl, trivial⟩ rfl)
 refine ent_exit ?_
 refine ent_k K4 ?_
 refine esk rfl ?_
 refine ent_ret ?_
 exact retR1 (.inr rfl) results18 (resr_tmp (res_cv rfl (cv_vec (k := 0) (off_x rfl) (by simp_all) (by rw [← hl, show x = 0 by omega]; exact (ldr_end h.zero out).symm))))

theorem rDeep_ok (ls : List Lab) (h1 : 1 ≤ ls.length) (h2 : ls.length ≤ 1000000) : Ctr Tryz.prog 20 [aSl 3 true aLab ls] (aTup [aInt ((lbl ls (dpI ls ls.length)).1), aInt (dpI ls ls.length)]) := by
 refine ctr_of Tryz.call20 func20 rfl rfl ?_
 intro w O
 refine ent_len 0 rfl (fun hlen0 => ?_)
 refine esk rfl ?_
 refine esk rfl ?_
 refine ent_seq fun _ K3 => ?_
 refine esk rfl ?_
 refine ent_block ?_
 refine ent_loop (fun (i : Int) => (⟨[(0, aSl 3 true aLab ls), (4, aInt (dpI ls i.toNat)), (5, aInt i)], []⟩ : St)) (fun (i : Int) => (0 ≤ i) ∧ (i ≤ ls.length)) (fun (i : Int) => (ls.length - i).toNat) 0 ⟨(by omega), (by omega)⟩ (ent_rep ⟨rfl, slot_av (av_int (show 0 = dpI ls (0 : Int).toNat by rfl)), slot_av (av_int (show 0 = (0 : Int) by rfl)), trivial⟩ rfl) ?_
 rintro i ⟨h0, hi⟩
 show Ent _ ⟨_, []⟩ _
 have hdb := dpI_bd ls i.toNat
 refine ent_seq fun _ K5 => ?_
 refine esr rfl fun _ K6 => ?_
 refine ent_o rfl (ok_len rfl runUnderlying28 rfl) ?_
 refine ent_o rfl (ok_lss rfl rfl) ?_
 refine enk K6 ?_
 refine ent_condD rfl (fun h9 => ?_) (fun h9 => ?_)
 ·refine esp K5 ?_
  refine ent_seq fun _ K7 => ?_
  refine ent_block ?_
  refine ent_seq fun _ K8 => ?_
  refine ent_draw 11 mixed (by kernel_rfl) (by kernel_rfl) (by kernel_rfl) ?_
  refine dw_o rfl (ok_move rfl) ?_
  refine dw_o rfl (ok_move rfl) ?_
  refine dw_o rfl (ok_index (0, 0, 0) sl28 rfl rfl (by omega) (by omega)) ?_
  refine dw_o rfl (ok_fieldAddr1 runUnderlying45 rfl sizeOf3 rfl rfl) ?_
  refine dw_o rfl (ok_load ti3 rfl) ?_
  refine dw_o rfl (ok_move rfl) ?_
  refine dw_o rfl (ok_move rfl) ?_
  refine dw_o rfl (ok_index (0, 0, 0) sl28 rfl rfl (by omega) (by omega)) ?_
  refine dw_o rfl (ok_fieldAddr1 runUnderlying45 rfl sizeOf3 rfl rfl) ?_
  refine dw_o rfl (ok_load ti3 rfl) ?_
  refine dw_o rfl (ok_gtr rfl rfl) ?_
  refine dw_nil ?_
  refine enk K8 ?_
  refine ent_condD rfl (fun h22 => ?_) (fun h22 => ?_)
  ·refine ent_region ?_
   refine emm rfl ?_
   refine enk K7 ?_
   refine ent_region ?_
   refine emm rfl ?_
   refine ent_o rfl (ok_add rfl rfl (by omega) (by omega)) ?_
   refine emm rfl ?_
   refine ent_nil ?_
   refine ent_again (s := (i)) (i + 1) ⟨(by omega), ‹_›⟩ (by omega) (ent_rep ⟨rfl, slot_av (av_int (show i = dpI ls (i + 1).toNat by exact (dpI_yes h0 h22).symm)), rfl, trivial⟩ rfl)
  refine esp K7 ?_
  refine ent_region ?_
  refine emm rfl ?_
  refine ent_o rfl (ok_add rfl rfl (by omega) (by omega)) ?_
  refine emm rfl ?_
  refine ent_nil ?_
  refine ent_again (s := (i)) (i + 1) ⟨(by omega), ‹_›⟩ (by omega) (ent_rep ⟨rfl, slot_av (av_int (show dpI ls i.toNat = dpI ls (i + 1).toNat by exact (dpI_no h0 h22).symm)), rfl, trivial⟩ rfl)
 refine ent_exit ?_
 refine ent_k K3 ?_
 refine esr rfl fun _ K9 => ?_
 refine ent_o rfl (ok_index (0, 0, 0) sl28 rfl rfl (by omega) (by omega)) ?_
 refine ent_o rfl (ok_fieldAddr1 runUnderlying45 rfl sizeOf3 rfl rfl) ?_
 refine ent_o rfl (ok_load ti3 rfl) ?_
 refine emm rfl ?_
 refine enk K9 ?_
 refine ent_ret ?_
 exact retR2 (.inr rfl) results20 (resr_tmp (res_cv rfl (cv_int (by rw [show i.toNat = ls.length by omega]; rfl)))) (resr_tmp (res_cv rfl (cv_int (by rw [show i.toNat = ls.length by omega]))))

theorem cRad_yes (c : Cod) (ls : List Lab) (h64 : ∀ t ∈ ls, -9223372036854775808 ≤ t.1 ∧ t.1 ≤ 9223372036854775807) (ho : chkL c ls = 0) : Ctr Tryz.prog 19 [aCod c, aSl 3 true aLab ls] (aTup [aInt (radV c ls), aSl 1 false aInt (radW c ls), aInt (chkL c ls)]) := by
 have hcz := chk_zero ho
 have hk := (csE_zero.1 hcz.1).1
 have hpv := hcz.2
 have hn64 := hk.n64
 have hn1 := hk.n1
 have hct := (csE_zero.1 hcz.1).2
 have hlen := hpv.len
 have hp1 := pow_pos_of c.F.q hk.q2 (dua c).Gen.length
 refine ctr_of Tryz.call19 func19 rfl rfl ?_
 intro w O
 refine ent_lenC 0 2 rfl rfl (fun hlen0_2 => ?_)
 refine ent_lenC 0 4 rfl rfl (fun hlen0_4 => ?_)
 refine ent_len 1 rfl (fun hlen1 => ?_)
 refine esr rfl fun _ K1 => ?_
 refine ent_boxS rfl rfl (AllOne.mem ⟨(one_int _), (one_int _), one_sl, (one_int _), one_sl, trivial⟩) (fun b2_1 => ?_)
 refine emm rfl ?_
 refine enk K1 ?_
 refine esr rfl fun _ K2 => ?_
 refine ent_o rfl (ok_loadBS (k := 0) ti27 rfl rfl rfl) ?_
 refine emm rfl ?_
 refine ent_o rfl (ok_callA (proved_ok c ls [] false ho ‹_›) ⟨arg_a rfl (cv_id sub_refl), arg_a rfl (cv_id sub_refl), arg_a rfl (cv_nil (fun _ => rfl) rfl), arg_a rfl (cv_id sub_refl), trivial⟩) ?_
 refine emm rfl ?_
 refine ent_o rfl (ok_extract rfl rfl) ?_
 refine ent_o rfl (ok_extract rfl rfl) ?_
 refine emm rfl ?_
 refine enk K2 ?_
 refine ent_seq fun _ K3 => ?_
 refine esr rfl fun _ K4 => ?_
 refine ent_o rfl (ok_neq rfl rfl) ?_
 refine enk K4 ?_
 refine ent_condFP rfl (by decide) ?_
 refine esp K3 ?_
 refine esk rfl ?_
 refine ent_seq fun _ K6 => ?_
 refine esr rfl fun _ K7 => ?_
 refine ent_o rfl (ok_len rfl runUnderlying28 rfl) ?_
 refine emm rfl ?_
 refine enk K7 ?_
 refine ent_block ?_
 refine ent_loop (fun (i : Int) => (⟨[(1, aSl 3 true aLab ls), (7, aSp c), (9, aInt (dpI ls i.toNat)), (21, aSl 3 true aLab ls), (22, aInt (↑ls.length : Int)), (23, aInt i)], [oBox b2_1 27 [aInt c.F.P, aInt c.F.M, aSl 1 false aInt c.F.mod, aInt c.N, aSl 1 false aInts c.Gen]]⟩ : St)) (fun (i : Int) => (0 ≤ i) ∧ (i ≤ ls.length)) (fun (i : Int) => (ls.length - i).toNat) 0 ⟨(by omega), (by omega)⟩ (ent_rep ⟨rfl, rfl, slot_av (av_int (show 0 = dpI ls (0 : Int).toNat by rfl)), rfl, rfl, slot_av (av_int (show 0 = (0 : Int) by rfl)), trivial⟩ rfl) ?_
 rintro i ⟨h0, h1⟩
 show Ent _ ⟨_, [_]⟩ _
 have hdb := dpI_bd ls i.toNat
 refine esr rfl fun _ K8 => ?_
 refine ent_o rfl (ok_lss rfl rfl) ?_
 refine enk K8 ?_
 refine ent_seq fun _ K9 => ?_
 refine ent_condD rfl (fun h24 => ?_) (fun h24 => ?_)
 ·refine esp K9 ?_
  refine ent_seq fun _ K10 => ?_
  refine ent_block ?_
  refine esr rfl fun _ K11 => ?_
  refine ent_o rfl (ok_index (0, 0, 0) sl28 rfl rfl (by omega) (by omega)) ?_
  refine ent_o rfl (ok_load ti45 rfl) ?_
  refine ent_alloc (z := .agg #[.int .i64 0, .int .i64 0, .int .i64 0]) [aInt 0, aInt 0, aInt 0] rfl zv45 rfl zc45 (fun b11_2 => ?_)
  refine emm rfl ?_
  refine ent_storeBS (k := 0) sizeOf45 rfl rfl rfl (AllOne.mem ⟨(one_int _), (one_int _), (one_int _), trivial⟩) rfl rfl ?_
  show Ent _ ⟨_, [_, _]⟩ _
  refine enk K11 ?_
  refine ent_seq fun _ K12 => ?_
  refine ent_draw 8 mixed (by kernel_rfl) (by kernel_rfl) (by kernel_rfl) ?_
  refine dw_o rfl (ok_fieldAddrEx runUnderlying45 rfl sizeOf3 (by decide) rfl) ?_
  refine dw_o rfl (ok_loadB (k := 0) isAgg3 rfl rfl rfl) ?_
  refine dw_o rfl (ok_move rfl) ?_
  refine dw_o rfl (ok_move rfl) ?_
  refine dw_o rfl (ok_index (0, 0, 0) sl28 rfl rfl (by omega) (by omega)) ?_
  refine dw_o rfl (ok_fieldAddr1 runUnderlying45 rfl sizeOf3 rfl rfl) ?_
  refine dw_o rfl (ok_load ti3 rfl) ?_
  refine dw_o rfl (ok_gtr rfl rfl) ?_
  refine dw_nil ?_
  refine enk K12 ?_
  refine ent_condD rfl (fun h35 => ?_) (fun h35 => ?_)
  ·refine ent_region ?_
   refine emm rfl ?_
   refine enk K10 ?_
   refine ent_region ?_
   refine ent_o rfl (ok_add rfl rfl (by omega) (by omega)) ?_
   refine emm rfl ?_
   refine ent_nil ?_
   refine ent_drop 0 ?_
   refine ent_again (s := (i)) (i + 1) ⟨(by omega), ‹_›⟩ (by omega) (ent_rep ⟨rfl, rfl, slot_av (av_int (show i = dpI ls (i + 1).toNat by exact (dpI_yes h0 h35).symm)), rfl, rfl, rfl, trivial⟩ rfl)
  refine esp K10 ?_
  refine ent_region ?_
  refine ent_o rfl (ok_add rfl rfl (by omega) (by omega)) ?_
  refine emm rfl ?_
  refine ent_nil ?_
  refine ent_drop 0 ?_
  refine ent_again (s := (i)) (i + 1) ⟨(by omega), ‹_›⟩ (by omega) (ent_rep ⟨rfl, rfl, slot_av (av_int (show dpI ls i.toNat = dpI ls (i + 1).toNat by exact (dpI_no h0 h35).symm)), rfl, rfl, rfl, trivial⟩ rfl)
 refine ent_exit ?_
 refine ent_k K6 ?_
 refine ent_seq fun _ K13 => ?_
 refine ent_draw 12 mixed (by kernel_rfl) (by kernel_rfl) (by kernel_rfl) ?_
 refine dw_o rfl (ok_move rfl) ?_
 refine dw_o rfl (ok_move rfl) ?_
 refine dw_o rfl (ok_index (0, 0, 0) sl28 rfl rfl (by omega) (by omega)) ?_
 refine dw_o rfl (ok_fieldAddr1 runUnderlying45 rfl sizeOf3 rfl rfl) ?_
 refine dw_o rfl (ok_load ti3 rfl) ?_
 refine dw_o rfl (ok_move rfl) ?_
 refine dw_o rfl (ok_move rfl) ?_
 refine dw_o rfl (ok_move rfl) ?_
 refine dw_o rfl (ok_call (leader_ok c ls (dpI ls i.toNat) hcz.1 hpv (by omega) (by omega)) rfl) ?_
 refine dw_o rfl (ok_assign rfl) ?_
 refine dw_o rfl (ok_assign rfl) ?_
 refine dw_o rfl (ok_assign rfl) ?_
 refine dw_nil ?_
 refine enk K13 ?_
 refine ent_ret ?_
 exact retR3 (.inr rfl) results19 (resr_tmp (res_cv rfl (cv_int (by unfold radV; rw [if_pos ho, show i.toNat = ls.length by omega]; rfl)))) (resr_tmp (res_cv rfl (cv_sl sub_x (by unfold radW; rw [if_pos ho, show i.toNat = ls.length by omega])))) (resr_tmp (res_cv rfl (cv_int (by exact ho.symm))))

theorem cRad_no (c : Cod) (ls : List Lab) (h64 : ∀ t ∈ ls, -9223372036854775808 ≤ t.1 ∧ t.1 ≤ 9223372036854775807) (ho : chkL c ls ≠ 0) : Ctr Tryz.prog 19 [aCod c, aSl 3 true aLab ls] (aTup [aInt (radV c ls), aSl 1 false aInt (radW c ls), aInt (chkL c ls)]) := by
 refine ctr_of Tryz.call19 func19 rfl rfl ?_
 intro w O
 refine ent_lenC 0 2 rfl rfl (fun hlen0_2 => ?_)
 refine ent_lenC 0 4 rfl rfl (fun hlen0_4 => ?_)
 refine ent_len 1 rfl (fun hlen1 => ?_)
 refine esr rfl fun _ K1 => ?_
 refine ent_boxS rfl rfl (AllOne.mem ⟨(one_int _), (one_int _), one_sl, (one_int _), one_sl, trivial⟩) (fun b2_1 => ?_)
 refine emm rfl ?_
 refine enk K1 ?_
 refine esr rfl fun _ K2 => ?_
 refine ent_o rfl (ok_loadBS (k := 0) ti27 rfl rfl rfl) ?_
 refine emm rfl ?_
 refine ent_o rfl (ok_callA (proved_no c ls [] false ho ‹_›) ⟨arg_a rfl (cv_id sub_refl), arg_a rfl (cv_id sub_refl), arg_a rfl (cv_nil (fun _ => rfl) rfl), arg_a rfl (cv_id sub_refl), trivial⟩) ?_
 refine emm rfl ?_
 refine ent_o rfl (ok_extract rfl rfl) ?_
 refine ent_o rfl (ok_extract rfl rfl) ?_
 refine emm rfl ?_
 refine enk K2 ?_
 refine ent_seq fun _ K3 => ?_
 refine esr rfl fun _ K4 => ?_
 refine ent_o rfl (ok_neq rfl rfl) ?_
 refine enk K4 ?_
 refine ent_condD rfl (fun h19 => ?_) (fun h19 => ?_)
 ·refine esk rfl ?_
  refine ent_ret ?_
  exact retR3 (.inr rfl) results19 (resr_tmp (res_cv rfl (cv_int (by exact (if_neg ho).symm)))) (resr_tmp (res_cv rfl (cv_nil (fun _ => rfl) (by exact (if_neg ho).symm)))) (resr_tmp (res_cv rfl (cv_int rfl)))
 exact absurd (Classical.not_not.1 h19) ho

theorem cRad_ok (c : Cod) (ls : List Lab) (h64 : ∀ t ∈ ls, -9223372036854775808 ≤ t.1 ∧ t.1 ≤ 9223372036854775807) : Ctr Tryz.prog 19 [aCod c, aSl 3 true aLab ls] (aTup [aInt (radV c ls), aSl 1 false aInt (radW c ls), aInt (chkL c ls)]) := by
 by_cases ho : chkL c ls = 0
 ·exact cRad_yes c ls h64 ho
 exact cRad_no c ls h64 ho

end Go.Proofs.YtcilbmggiahciaaGreat

