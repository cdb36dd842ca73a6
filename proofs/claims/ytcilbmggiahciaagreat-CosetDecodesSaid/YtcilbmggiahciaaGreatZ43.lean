/-
  Walks of functions of the program and the reference.
-/
import Derived.Test.YtcilbmggiahciaaGreatZ42
open Go Go.Cw
namespace Go.Proofs.YtcilbmggiahciaaGreat
open Tryz
set_option maxRecDepth 100000
set_option linter.unusedVariables false
set_option linter.unusedSimpArgs false

theorem leaderN_ok (c : Cod) (ls : List Lab) (s : Int) (hc : csE c = 0) (h : Prv c ls) (s0 : 0 ≤ s) (s1 : s < c.F.q ^ (dua c).Gen.length) : CtrN Tryz.prog 35 [aSp c, aSl 3 true aLab ls, aInt s] 3 1 false aInt (leadW c ls s) := by
 have hcs := csE_zero.1 hc
 have hk := hcs.1
 have hqb := hk.fld.1.bd
 have hq2 := hk.q2
 have hdd := hk.dim_dua
 have hn64 := hk.n64
 have hn1 := hk.n1
 have hct := hcs.2
 have hlen := h.len
 have ltn := length_turnL (dua c).Gen c.N
 refine ctrN_of Tryz.call35 func35 rfl rfl ?_
 intro w O
 refine ent_lenP 0 5 rfl rfl (fun hlen0_5 => ?_)
 refine ent_len 1 rfl (fun hlen1 => ?_)
 refine esk rfl ?_
 refine esr rfl fun _ K2 => ?_
 refine ent_o rfl (ok_nilCheck rfl) ?_
 refine ent_o rfl (ok_fieldAddr1 runUnderlying70 rfl sizeOf3 rfl rfl) ?_
 refine ent_o rfl (ok_load ti3 rfl) ?_
 refine ent_make aInt 0 rfl vt22 rfl rfl (by omega) (by omega) (by omega) (fun _ _ => rfl) (AllV.mem ⟨rfl, trivial⟩) (fun b13_1 => ?_)
 refine emm rfl ?_
 refine enk K2 ?_
 refine ent_seq fun _ K3 => ?_
 refine ent_block ?_
 refine ent_loop (fun (ss : Int × List Int) => match ss with | (x, out) => (⟨[(0, aSp c), (1, aSl 3 true aLab ls), (2, aInt x), (7, aEx (vec (some b13_1) ((c.N).toNat) ((c.N).toNat)))], [oVec (some b13_1) ((c.N).toNat) 3 1 false aInt out]⟩ : St)) (fun (ss : Int × List Int) => match ss with | (x, out) => (0 ≤ x) ∧ (x < c.F.q ^ (dua c).Gen.length) ∧ (out.length = c.N.toNat) ∧ (ldr c ls (lbl ls x).1.toNat x out = leadW c ls s)) (fun (ss : Int × List Int) => match ss with | (x, out) => (lbl ls x).1.toNat) (s, List.replicate ((c.N).toNat) 0) ⟨‹_›, ‹_›, (by simp), rfl⟩ (ent_rep ⟨rfl, rfl, rfl, rfl, trivial⟩ rfl) ?_
 rintro ⟨x, out⟩ ⟨x0, x1, ho, hl⟩
 show Ent _ ⟨_, [_]⟩ _
 refine ent_seq fun _ K4 => ?_
 refine esr rfl fun _ K5 => ?_
 refine ent_o rfl (ok_neq rfl rfl) ?_
 refine enk K5 ?_
 refine ent_condD rfl (fun h15 => ?_) (fun h15 => ?_)
 ·have hlb := prv_lab h x0 x1 h15
  have hpj : 0 ≤ (ix (0, 0, 0) ls x).2.1 ∧ (ix (0, 0, 0) ls x).2.1 < c.N ∧ 1 ≤ (ix (0, 0, 0) ls x).2.2 ∧ (ix (0, 0, 0) ls x).2.2 < c.F.q := hlb.1
  have hmv := min_dig hk x (ix (0, 0, 0) ls x).2.1 (ix (0, 0, 0) ls x).2.2
  have hst := ldr_step (out := out) hlb
  have hw1 : 1 ≤ (lbl ls x).1 := hlb.2.1
  have hmw : (lbl ls (minV c x (ix (0, 0, 0) ls x).2.1 (ix (0, 0, 0) ls x).2.2)).1 = (lbl ls x).1 - 1 := hlb.2.2
  refine esp K4 ?_
  refine ent_block ?_
  refine esr rfl fun _ K6 => ?_
  refine ent_o rfl (ok_index (0, 0, 0) sl28 rfl rfl (by omega) (by omega)) ?_
  refine ent_o rfl (ok_load ti45 rfl) ?_
  refine ent_alloc (z := .agg #[.int .i64 0, .int .i64 0, .int .i64 0]) [aInt 0, aInt 0, aInt 0] rfl zv45 rfl zc45 (fun b8_2 => ?_)
  refine ent_storeBS (k := 0) sizeOf45 rfl rfl rfl (AllOne.mem ⟨(one_int _), (one_int _), (one_int _), trivial⟩) rfl rfl ?_
  show Ent _ ⟨_, [_, _]⟩ _
  refine enk K6 ?_
  refine ent_seq fun _ K7 => ?_
  refine ent_draw 16 mixed (by kernel_rfl) (by kernel_rfl) (by kernel_rfl) ?_
  refine dw_o rfl (ok_move rfl) ?_
  refine dw_o rfl (ok_fieldAddrEx runUnderlying45 rfl sizeOf3 (by decide) rfl) ?_
  refine dw_o rfl (ok_loadB (k := 0) isAgg3 rfl rfl rfl) ?_
  refine dw_o rfl (ok_move rfl) ?_
  refine dw_o rfl (ok_nilCheck rfl) ?_
  refine dw_o rfl (ok_fieldAddr1 runUnderlying70 rfl sizeOf68 rfl rfl) ?_
  refine dw_o rfl (ok_load ti68 rfl) ?_
  refine dw_o rfl (ok_move rfl) ?_
  refine dw_o rfl (ok_fieldAddrEx runUnderlying45 rfl sizeOf3 (by decide) rfl) ?_
  refine dw_o rfl (ok_loadB (k := 0) isAgg3 rfl rfl rfl) ?_
  refine dw_o rfl (ok_indexV sl22 rfl rfl (by omega) (by omega)) ?_
  refine dw_o rfl (ok_loadV (k := 1) 0 ti3 rfl rfl (by omega) (by omega)) ?_
  refine dw_o rfl (ok_fieldAddrEx runUnderlying45 rfl sizeOf3 (by decide) rfl) ?_
  refine dw_o rfl (ok_loadB (k := 0) isAgg3 rfl rfl rfl) ?_
  refine dw_o rfl (ok_call (Add_ok c.F (ix 0 out ((ix (0, 0, 0) ls x).2.1)) ((ix (0, 0, 0) ls x).2.2) hk.fld) rfl) ?_
  refine dw_o rfl (ok_indexV sl22 rfl rfl (by omega) (by omega)) ?_
  refine dw_nil ?_
  refine ent_storeV (k := 1) (z := addF c.F (ix 0 out ((ix (0, 0, 0) ls x).2.1)) ((ix (0, 0, 0) ls x).2.2)) ti3 rfl rfl rfl (elem_one (one_int _)) (by omega) (by omega) ?_
  refine enk K7 ?_
  refine ent_region ?_
  refine emm rfl ?_
  refine ent_o rfl (ok_fieldAddrEx runUnderlying45 rfl sizeOf3 (by decide) rfl) ?_
  refine ent_o rfl (ok_loadB (k := 0) isAgg3 rfl rfl rfl) ?_
  refine ent_o rfl (ok_fieldAddrEx runUnderlying45 rfl sizeOf3 (by decide) rfl) ?_
  refine ent_o rfl (ok_loadB (k := 0) isAgg3 rfl rfl rfl) ?_
  refine ent_o rfl (ok_call (minus_ok c x ((ix (0, 0, 0) ls x).2.1) ((ix (0, 0, 0) ls x).2.2) hk hct ‹_› (by omega) (by omega) (by omega)) rfl) ?_
  refine emm rfl ?_
  refine ent_nil ?_
  refine ent_drop 0 ?_
  refine ent_again (s := (x, out)) (minV c x ((ix (0, 0, 0) ls x).2.1) ((ix (0, 0, 0) ls x).2.2), List.set out ((ix (0, 0, 0) ls x).2.1).toNat (addF c.F (ix 0 out ((ix (0, 0, 0) ls x).2.1)) ((ix (0, 0, 0) ls x).2.2))) ⟨(by omega), (by omega), (by simp only [List.length_set]; exact ho), (hst.symm.trans hl)⟩ (by dsimp only; omega) (ent_rep ⟨rfl, rfl, rfl, rfl, trivial⟩ rfl)
 refine ent_exit ?_
 refine ent_k K3 ?_
 refine esk rfl ?_
 refine ent_ret ?_
 exact retN (k := 0) (.inr rfl) results35 rfl rfl (by simp_all) (by rw [← hl, show x = 0 by omega]; exact (ldr_end h.zero out).symm)

end Go.Proofs.YtcilbmggiahciaaGreat

