/-
  Walks of functions of the program and the reference.
-/
import Derived.Test.YtcilbmggiahciaaY51
open Go Go.Cw
namespace Go.Proofs.Ytcilbmggiahciaa
open Try
set_option maxRecDepth 100000
set_option linter.unusedVariables false
set_option linter.unusedSimpArgs false
set_option maxHeartbeats 1000000 in
theorem rBuild_ok (c : Cod) (hc : csE c = 0) : Ctr Try.prog 18 [aCod c] (aSl 3 true aLab (bldL c)) := by
 have hcs := csE_zero.1 hc
 have hk := hcs.1
 have hqb := hk.fld.1.bd
 have hq2 := hk.q2
 have hdd := hk.dim_dua
 have hn64 := hk.n64
 have hn1 := hk.n1
 have hct := hcs.2
 have hp1 := pow_pos_of c.F.q hq2 (dua c).Gen.length
 have lnb : (nbL c).length = (c.F.q ^ (dua c).Gen.length).toNat := length_mapR _ _
 have hmb : (c.N * (c.F.q - 1)) ≤ 64 * 255 := Int.mul_le_mul (by omega) (by omega) (by omega) (by decide)
 refine ctr_of Try.call18 func18 rfl rfl ?_
 intro w O
 refine ent_lenC 0 2 rfl rfl (fun hlen0_2 => ?_)
 refine ent_lenC 0 4 rfl rfl (fun hlen0_4 => ?_)
 refine esr rfl fun _ K1 => ?_
 refine ent_boxS rfl rfl (AllOne.mem ⟨(one_int _), (one_int _), one_sl, (one_int _), one_sl, trivial⟩) (fun b1_1 => ?_)
 refine emm rfl ?_
 refine enk K1 ?_
 refine esr rfl fun _ K2 => ?_
 refine ent_o rfl (ok_loadBS (k := 0) ti27 rfl rfl rfl) ?_
 refine ent_o rfl (ok_call (rNbr_ok c hc) rfl) ?_
 refine emm rfl ?_
 refine enk K2 ?_
 refine esr rfl fun _ K3 => ?_
 refine ent_o rfl (ok_fieldAddrEx runUnderlying27 rfl sizeOf24 (by decide) rfl) ?_
 refine ent_o rfl (ok_loadBS (k := 0) ti24 rfl rfl rfl) ?_
 refine ent_o rfl (ok_call (rOrder_ok c.F) rfl) ?_
 refine emm rfl ?_
 refine enk K3 ?_
 refine esr rfl fun _ K4 => ?_
 refine ent_o rfl (ok_len rfl runUnderlying25 rfl) ?_
 refine ent_make aLab (0, 0, 0) rfl vt37 rfl rfl (by omega) (by omega) (by omega) (fun h O => zagg63 h O) (AllV.mem ⟨rfl, rfl, rfl, trivial⟩) (fun b19_2 => ?_)
 refine emm rfl ?_
 refine enk K4 ?_
 refine ent_seq fun _ K5 => ?_
 refine esk rfl ?_
 refine ent_block ?_
 refine ent_loop (fun (ss : Int × List Lab) => match ss with | (v, L0) => (⟨[(1, aEx (.pointer (some ⟨b1_1, 0, none⟩))), (3, aSl 1 false aInts (nbL c)), (4, aInt c.F.q), (5, aEx (vec (some b19_2) (((↑(nbL c).length : Int)).toNat) (((↑(nbL c).length : Int)).toNat))), (6, aInt v)], [oVec (some b19_2) (((↑(nbL c).length : Int)).toNat) 63 3 true aLab L0, oBox b1_1 27 [aInt c.F.P, aInt c.F.M, aSl 1 false aInt c.F.mod, aInt c.N, aSl 1 false aInts c.Gen]]⟩ : St)) (fun (ss : Int × List Lab) => match ss with | (v, L0) => (1 ≤ v) ∧ (v ≤ c.F.q ^ (dua c).Gen.length) ∧ ((L0.length : Int) = c.F.q ^ (dua c).Gen.length) ∧ (lbl L0 0 = (0, 0, 0)) ∧ (∀ z : Int, 1 ≤ z → z < v → lbl L0 z = (-1, 0, 0)) ∧ (∀ z : Int, v ≤ z → z < c.F.q ^ (dua c).Gen.length → lbl L0 z = (0, 0, 0))) (fun (ss : Int × List Lab) => match ss with | (v, L0) => (c.F.q ^ (dua c).Gen.length - v).toNat) (1, List.replicate (((↑(nbL c).length : Int)).toNat) (0, 0, 0)) ⟨(Int.le_refl 1), hp1, (by rw [List.length_replicate]; omega), (by unfold lbl; exact ix_repl2 _ _ (by omega) (by omega)), (fun z z0 z1 => by omega), (fun z z0 z1 => by unfold lbl; exact ix_repl2 _ _ (by omega) (by omega))⟩ (ent_rep ⟨rfl, rfl, rfl, rfl, slot_av (av_int (show 1 = (1 : Int) by rfl)), trivial⟩ rfl) ?_
 rintro ⟨v, L0⟩ ⟨v0, v1, hl0, hz0, hn0, hr0⟩
 show Ent _ ⟨_, [_, _]⟩ _
 refine ent_seq fun _ K7 => ?_
 refine esr rfl fun _ K8 => ?_
 refine ent_o rfl (ok_len rfl runUnderlying25 rfl) ?_
 refine ent_o rfl (ok_lss rfl rfl) ?_
 refine enk K8 ?_
 refine ent_condD rfl (fun h23 => ?_) (fun h23 => ?_)
 ·have hrv : lbl L0 v = (0, 0, 0) := hr0 v (Int.le_refl v) (by omega)
  have hst : ∀ z : Int, 0 ≤ z → lbl (L0.set v.toNat (-1, (ix (0, 0, 0) L0 v).2.1, (ix (0, 0, 0) L0 v).2.2)) z = if z = v then (-1, (lbl L0 v).2.1, (lbl L0 v).2.2) else lbl L0 z := fun z z0 => ix_setE _ _ _ (by omega) (by omega) z0
  refine esp K7 ?_
  refine ent_seq fun _ K9 => ?_
  refine ent_block ?_
  refine ent_region ?_
  refine emm rfl ?_
  refine ent_o rfl (ok_indexV sl37 rfl rfl (by omega) (by omega)) ?_
  refine ent_o rfl (ok_fieldAddrEx runUnderlying63 rfl sizeOf3 (by decide) rfl) ?_
  refine ent_storeVF (k := 0) (dflt := (0, 0, 0)) (z := ((-1), (ix (0, 0, 0) L0 v).2.1, (ix (0, 0, 0) L0 v).2.2)) (As := (fun t => [aInt t.1, aInt t.2.1, aInt t.2.2])) sizeOf3 rfl (fun _ => rfl) rfl rfl (one_int _) (by omega) (by omega) rfl (by decide) rfl ?_
  refine enk K9 ?_
  refine ent_region ?_
  refine emm rfl ?_
  refine ent_o rfl (ok_add rfl rfl (by omega) (by omega)) ?_
  refine emm rfl ?_
  refine ent_nil ?_
  refine ent_again (s := (v, L0)) (v + 1, List.set L0 (v).toNat ((-1), (ix (0, 0, 0) L0 v).2.1, (ix (0, 0, 0) L0 v).2.2)) ⟨(by omega), (by omega), (by rw [List.length_set]; exact hl0), (by rw [hst 0 (by omega), if_neg (by omega)]; exact hz0), (fun z z0 z1 => by rw [hst z (by omega)]; by_cases hz : z = v; (rw [if_pos hz, hrv]); (rw [if_neg hz]; exact hn0 z z0 (by omega))), (fun z z0 z1 => by rw [hst z (by omega), if_neg (by omega)]; exact hr0 z (by omega) z1)⟩ (by dsimp only; omega) (ent_rep ⟨rfl, rfl, rfl, rfl, rfl, trivial⟩ rfl)
 have hbg : RndI c L0 1 1 := RndI.begin hk hl0 hz0 (fun z z0 z1 => hn0 z z0 (by omega))
 refine ent_exit ?_
 refine ent_k K5 ?_
 refine ent_seq fun _ K10 => ?_
 refine esk rfl ?_
 refine ent_block ?_
 refine ent_loop (fun (ss : Int × List Lab) => match ss with | (w, L1) => (⟨[(1, aEx (.pointer (some ⟨b1_1, 0, none⟩))), (3, aSl 1 false aInts (nbL c)), (4, aInt c.F.q), (5, aEx (vec (some b19_2) (((↑(nbL c).length : Int)).toNat) (((↑(nbL c).length : Int)).toNat))), (7, aInt w)], [oVec (some b19_2) (((↑(nbL c).length : Int)).toNat) 63 3 true aLab L1, oBox b1_1 27 [aInt c.F.P, aInt c.F.M, aSl 1 false aInt c.F.mod, aInt c.N, aSl 1 false aInts c.Gen]]⟩ : St)) (fun (ss : Int × List Lab) => match ss with | (w, L1) => (1 ≤ w) ∧ (w ≤ c.N + 1) ∧ (RndI c L1 w 1)) (fun (ss : Int × List Lab) => match ss with | (w, L1) => (c.N + 1 - w).toNat) (1, L0) ⟨(Int.le_refl 1), (by omega), hbg⟩ (ent_rep ⟨rfl, rfl, rfl, rfl, slot_av (av_int (show 1 = (1 : Int) by rfl)), trivial⟩ rfl) ?_
 rintro ⟨w, L1⟩ ⟨w0, w1, hR⟩
 show Ent _ ⟨_, [_, _]⟩ _
 have hl1 := hR.len
 refine ent_seq fun _ K12 => ?_
 refine esr rfl fun _ K13 => ?_
 refine ent_o rfl (ok_fieldAddrEx runUnderlying27 rfl sizeOf3 (by decide) rfl) ?_
 refine ent_o rfl (ok_loadB (k := 1) isAgg3 rfl rfl rfl) ?_
 refine ent_o rfl (ok_leq rfl rfl) ?_
 refine enk K13 ?_
 refine ent_condD rfl (fun h33 => ?_) (fun h33 => ?_)
 ·refine esp K12 ?_
  refine ent_seq fun _ K14 => ?_
  refine ent_block ?_
  refine esk rfl ?_
  refine ent_block ?_
  refine ent_loop (fun (ss : Int × List Lab) => match ss with | (s, L2) => (⟨[(1, aEx (.pointer (some ⟨b1_1, 0, none⟩))), (3, aSl 1 false aInts (nbL c)), (4, aInt c.F.q), (5, aEx (vec (some b19_2) (((↑(nbL c).length : Int)).toNat) (((↑(nbL c).length : Int)).toNat))), (7, aInt w), (8, aInt s)], [oVec (some b19_2) (((↑(nbL c).length : Int)).toNat) 63 3 true aLab L2, oBox b1_1 27 [aInt c.F.P, aInt c.F.M, aSl 1 false aInt c.F.mod, aInt c.N, aSl 1 false aInts c.Gen]]⟩ : St)) (fun (ss : Int × List Lab) => match ss with | (s, L2) => (1 ≤ s) ∧ (s ≤ c.F.q ^ (dua c).Gen.length) ∧ (RndI c L2 w s)) (fun (ss : Int × List Lab) => match ss with | (s, L2) => (c.F.q ^ (dua c).Gen.length - s).toNat) (1, L1) ⟨(Int.le_refl 1), hp1, hR⟩ (ent_rep ⟨rfl, rfl, rfl, rfl, rfl, slot_av (av_int (show 1 = (1 : Int) by rfl)), trivial⟩ rfl) ?_
  rintro ⟨s, L2⟩ ⟨s0, s1, hS⟩
  show Ent _ ⟨_, [_, _]⟩ _
  have hl2 := hS.len
  refine ent_seq fun _ K16 => ?_
  refine esr rfl fun _ K17 => ?_
  refine ent_o rfl (ok_len rfl runUnderlying25 rfl) ?_
  refine ent_o rfl (ok_lss rfl rfl) ?_
  refine enk K17 ?_
  refine ent_condD rfl (fun h39 => ?_) (fun h39 => ?_)
  ·have hs1 : s < c.F.q ^ (dua c).Gen.length := by omega
   have hsn := hS.seen w0 s0 hs1
   refine esp K16 ?_
   refine ent_seq fun _ K18 => ?_
   refine ent_block ?_
   refine ent_seq fun _ K19 => ?_
   refine ent_seq fun _ K20 => ?_
   refine ent_cut (⟨[(1, aEx (.pointer (some ⟨b1_1, 0, none⟩))), (3, aSl 1 false aInts (nbL c)), (4, aInt c.F.q), (5, aEx (vec (some b19_2) (((↑(nbL c).length : Int)).toNat) (((↑(nbL c).length : Int)).toNat))), (7, aInt w), (8, aInt s), (56, aBool (decide ((0 ≤ ((ix (0, 0, 0) L2 s).1)) ∧ (((ix (0, 0, 0) L2 s).1) < w))))], [oVec (some b19_2) (((↑(nbL c).length : Int)).toNat) 63 3 true aLab L2, oBox b1_1 27 [aInt c.F.P, aInt c.F.M, aSl 1 false aInt c.F.mod, aInt c.N, aSl 1 false aInts c.Gen]]⟩) ?_ ?_
   ·refine ent_region ?_
    refine emm rfl ?_
    refine ent_o rfl (ok_indexV sl37 rfl rfl (by omega) (by omega)) ?_
    refine ent_o rfl (ok_fieldAddrEx runUnderlying63 rfl sizeOf3 (by decide) rfl) ?_
    refine ent_o rfl (ok_loadVF (k := 0) (As := (fun t => [aInt t.1, aInt t.2.1, aInt t.2.2])) (0, 0, 0) isAgg3 rfl (fun _ => rfl) rfl rfl (by omega) (by omega)) ?_
    refine ent_o rfl (ok_geq rfl rfl) ?_
    refine emm rfl ?_
    refine ent_guardXDt rfl rfl rfl rfl (fun hg48 => ?_) (fun hg48 => ?_)
    ·refine emm rfl ?_
     refine ent_guardXT rfl rfl rfl rfl (decide_eq_true hg48) ?_
     refine emm rfl ?_
     refine ent_guardXT rfl rfl rfl rfl (decide_eq_true hg48) ?_
     refine ent_o rfl (ok_indexV sl37 rfl rfl (by omega) (by omega)) ?_
     refine ent_guardXT rfl rfl rfl rfl (decide_eq_true hg48) ?_
     refine ent_o rfl (ok_fieldAddrEx runUnderlying63 rfl sizeOf3 (by decide) rfl) ?_
     refine ent_guardXT rfl rfl rfl rfl (decide_eq_true hg48) ?_
     refine ent_o rfl (ok_loadVF (k := 0) (As := (fun t => [aInt t.1, aInt t.2.1, aInt t.2.2])) (0, 0, 0) isAgg3 rfl (fun _ => rfl) rfl rfl (by omega) (by omega)) ?_
     refine ent_guardXT rfl rfl rfl rfl (decide_eq_true hg48) ?_
     refine emm rfl ?_
     refine ent_guardXT rfl rfl rfl rfl (decide_eq_true hg48) ?_
     refine ent_o rfl (ok_lss rfl rfl) ?_
     refine ent_o rfl (ok_pickT rfl (decide_eq_true hg48) rfl) ?_
     refine ent_nil ?_
     exact ent_rep ⟨rfl, rfl, rfl, rfl, rfl, rfl, slot_bool (dq_Q ((and_iff_right hg48).trans Iff.rfl)), trivial⟩ rfl
    refine ent_guardXF rfl rfl rfl rfl (decide_eq_false hg48) ?_
    refine ent_guardXF rfl rfl rfl rfl (decide_eq_false hg48) ?_
    refine ent_guardXF rfl rfl rfl rfl (decide_eq_false hg48) ?_
    refine ent_guardXF rfl rfl rfl rfl (decide_eq_false hg48) ?_
    refine ent_guardXF rfl rfl rfl rfl (decide_eq_false hg48) ?_
    refine ent_guardXF rfl rfl rfl rfl (decide_eq_false hg48) ?_
    refine ent_o rfl (ok_pickF rfl (decide_eq_false hg48) rfl) ?_
    refine ent_nil ?_
    exact ent_rep ⟨rfl, rfl, rfl, rfl, rfl, rfl, slot_bool (dq_F rfl (fun h => hg48 h.1)), trivial⟩ rfl
   refine ent_k K20 ?_
   refine ent_condD rfl (fun h56 => ?_) (fun h56 => ?_)
   ·have hskip := hS.skip (hsn.1 h56)
    refine ent_exit ?_
    refine ent_k K18 ?_
    refine ent_region ?_
    refine emm rfl ?_
    refine ent_o rfl (ok_add rfl rfl (by omega) (by omega)) ?_
    refine emm rfl ?_
    refine ent_nil ?_
    refine ent_again (s := (s, L2)) (s + 1, L2) ⟨(by omega), (by omega), (by exact hskip)⟩ (by dsimp only; omega) (ent_rep ⟨rfl, rfl, rfl, rfl, rfl, rfl, trivial⟩ rfl)
   have hge : w ≤ dsC c s := by have : ¬ dsC c s < w := fun h => h56 (hsn.2 h); omega
   refine esp K19 ?_
   refine esr rfl fun _ K21 => ?_
   refine ent_o rfl (ok_fieldAddrEx runUnderlying27 rfl sizeOf3 (by decide) rfl) ?_
   refine ent_o rfl (ok_loadB (k := 1) isAgg3 rfl rfl rfl) ?_
   refine ent_o rfl (ok_sub rfl rfl (by omega) (by omega)) ?_
   refine emm rfl ?_
   refine enk K21 ?_
   refine ent_block ?_
   refine ent_loop (fun (ss : Int × List Lab) => match ss with | (j, L3) => (⟨[(1, aEx (.pointer (some ⟨b1_1, 0, none⟩))), (3, aSl 1 false aInts (nbL c)), (4, aInt c.F.q), (5, aEx (vec (some b19_2) (((↑(nbL c).length : Int)).toNat) (((↑(nbL c).length : Int)).toNat))), (7, aInt w), (8, aInt s), (9, aInt j)], [oVec (some b19_2) (((↑(nbL c).length : Int)).toNat) 63 3 true aLab L3, oBox b1_1 27 [aInt c.F.P, aInt c.F.M, aSl 1 false aInt c.F.mod, aInt c.N, aSl 1 false aInts c.Gen]]⟩ : St)) (fun (ss : Int × List Lab) => match ss with | (j, L3) => (-1 ≤ j) ∧ (j < c.N) ∧ (SchI c L2 L3 w s (fun j2 _ => j < j2))) (fun (ss : Int × List Lab) => match ss with | (j, L3) => (j + 1).toNat) (c.N - 1, L2) ⟨(by omega), (by omega), (hS.start s0 hs1 hge (fun j2 a2 hn hlt => by have := hn.2.1; omega))⟩ (ent_rep ⟨rfl, rfl, rfl, rfl, rfl, rfl, rfl, trivial⟩ rfl) ?_
   rintro ⟨j, L3⟩ ⟨j0, j1, hJ⟩
   show Ent _ ⟨_, [_, _]⟩ _
   have hl3 := hJ.len
   refine ent_seq fun _ K22 => ?_
   refine ent_seq fun _ K23 => ?_
   refine ent_cut (⟨[(1, aEx (.pointer (some ⟨b1_1, 0, none⟩))), (3, aSl 1 false aInts (nbL c)), (4, aInt c.F.q), (5, aEx (vec (some b19_2) (((↑(nbL c).length : Int)).toNat) (((↑(nbL c).length : Int)).toNat))), (7, aInt w), (8, aInt s), (9, aInt j), (69, aBool (decide ((0 ≤ j) ∧ (((ix (0, 0, 0) L3 s).1) < 0))))], [oVec (some b19_2) (((↑(nbL c).length : Int)).toNat) 63 3 true aLab L3, oBox b1_1 27 [aInt c.F.P, aInt c.F.M, aSl 1 false aInt c.F.mod, aInt c.N, aSl 1 false aInts c.Gen]]⟩) ?_ ?_
   ·refine ent_region ?_
    refine emm rfl ?_
    refine ent_o rfl (ok_geq rfl rfl) ?_
    refine emm rfl ?_
    refine ent_guardXDt rfl rfl rfl rfl (fun hg62 => ?_) (fun hg62 => ?_)
    ·refine emm rfl ?_
     refine ent_guardXT rfl rfl rfl rfl (decide_eq_true hg62) ?_
     refine emm rfl ?_
     refine ent_guardXT rfl rfl rfl rfl (decide_eq_true hg62) ?_
     refine ent_o rfl (ok_indexV sl37 rfl rfl (by omega) (by omega)) ?_
     refine ent_guardXT rfl rfl rfl rfl (decide_eq_true hg62) ?_
     refine ent_o rfl (ok_fieldAddrEx runUnderlying63 rfl sizeOf3 (by decide) rfl) ?_
     refine ent_guardXT rfl rfl rfl rfl (decide_eq_true hg62) ?_
     refine ent_o rfl (ok_loadVF (k := 0) (As := (fun t => [aInt t.1, aInt t.2.1, aInt t.2.2])) (0, 0, 0) isAgg3 rfl (fun _ => rfl) rfl rfl (by omega) (by omega)) ?_
     refine ent_guardXT rfl rfl rfl rfl (decide_eq_true hg62) ?_
     refine ent_o rfl (ok_lss rfl rfl) ?_
     refine ent_o rfl (ok_pickT rfl (decide_eq_true hg62) rfl) ?_
     refine ent_nil ?_
     exact ent_rep ⟨rfl, rfl, rfl, rfl, rfl, rfl, rfl, slot_bool (dq_Q ((and_iff_right hg62).trans Iff.rfl)), trivial⟩ rfl
    refine ent_guardXF rfl rfl rfl rfl (decide_eq_false hg62) ?_
    refine ent_guardXF rfl rfl rfl rfl (decide_eq_false hg62) ?_
    refine ent_guardXF rfl rfl rfl rfl (decide_eq_false hg62) ?_
    refine ent_guardXF rfl rfl rfl rfl (decide_eq_false hg62) ?_
    refine ent_guardXF rfl rfl rfl rfl (decide_eq_false hg62) ?_
    refine ent_o rfl (ok_pickF rfl (decide_eq_false hg62) rfl) ?_
    refine ent_nil ?_
    exact ent_rep ⟨rfl, rfl, rfl, rfl, rfl, rfl, rfl, slot_bool (dq_F rfl (fun h => hg62 h.1)), trivial⟩ rfl
   refine ent_k K23 ?_
   refine ent_condD rfl (fun h69 => ?_) (fun h69 => ?_)
   ·refine esp K22 ?_
    refine ent_seq fun _ K24 => ?_
    refine ent_block ?_
    refine esk rfl ?_
    refine ent_block ?_
    refine ent_loop (fun (ss : Int × List Lab) => match ss with | (a, L4) => (⟨[(1, aEx (.pointer (some ⟨b1_1, 0, none⟩))), (3, aSl 1 false aInts (nbL c)), (4, aInt c.F.q), (5, aEx (vec (some b19_2) (((↑(nbL c).length : Int)).toNat) (((↑(nbL c).length : Int)).toNat))), (7, aInt w), (8, aInt s), (9, aInt j), (10, aInt a)], [oVec (some b19_2) (((↑(nbL c).length : Int)).toNat) 63 3 true aLab L4, oBox b1_1 27 [aInt c.F.P, aInt c.F.M, aSl 1 false aInt c.F.mod, aInt c.N, aSl 1 false aInts c.Gen]]⟩ : St)) (fun (ss : Int × List Lab) => match ss with | (a, L4) => (1 ≤ a) ∧ (a ≤ c.F.q) ∧ (SchI c L2 L4 w s (fun j2 a2 => j < j2 ∨ (j2 = j ∧ a2 < a)))) (fun (ss : Int × List Lab) => match ss with | (a, L4) => (c.F.q - a).toNat) (1, L3) ⟨(Int.le_refl 1), (by omega), (hJ.mono (fun j2 a2 hn hlt => hlt.resolve_right (fun e => by have := hn.2.2.1; omega)))⟩ (ent_rep ⟨rfl, rfl, rfl, rfl, rfl, rfl, rfl, slot_av (av_int (show 1 = (1 : Int) by rfl)), trivial⟩ rfl) ?_
    rintro ⟨a, L4⟩ ⟨a0, a1, hA⟩
    show Ent _ ⟨_, [_, _]⟩ _
    have hl4 := hA.len
    refine ent_seq fun _ K26 => ?_
    refine ent_seq fun _ K27 => ?_
    refine ent_cut (⟨[(1, aEx (.pointer (some ⟨b1_1, 0, none⟩))), (3, aSl 1 false aInts (nbL c)), (4, aInt c.F.q), (5, aEx (vec (some b19_2) (((↑(nbL c).length : Int)).toNat) (((↑(nbL c).length : Int)).toNat))), (7, aInt w), (8, aInt s), (9, aInt j), (10, aInt a), (82, aBool (decide ((a < c.F.q) ∧ (((ix (0, 0, 0) L4 s).1) < 0))))], [oVec (some b19_2) (((↑(nbL c).length : Int)).toNat) 63 3 true aLab L4, oBox b1_1 27 [aInt c.F.P, aInt c.F.M, aSl 1 false aInt c.F.mod, aInt c.N, aSl 1 false aInts c.Gen]]⟩) ?_ ?_
    ·refine ent_region ?_
     refine emm rfl ?_
     refine ent_o rfl (ok_lss rfl rfl) ?_
     refine emm rfl ?_
     refine ent_guardXDt rfl rfl rfl rfl (fun hg75 => ?_) (fun hg75 => ?_)
     ·refine emm rfl ?_
      refine ent_guardXT rfl rfl rfl rfl (decide_eq_true hg75) ?_
      refine emm rfl ?_
      refine ent_guardXT rfl rfl rfl rfl (decide_eq_true hg75) ?_
      refine ent_o rfl (ok_indexV sl37 rfl rfl (by omega) (by omega)) ?_
      refine ent_guardXT rfl rfl rfl rfl (decide_eq_true hg75) ?_
      refine ent_o rfl (ok_fieldAddrEx runUnderlying63 rfl sizeOf3 (by decide) rfl) ?_
      refine ent_guardXT rfl rfl rfl rfl (decide_eq_true hg75) ?_
      refine ent_o rfl (ok_loadVF (k := 0) (As := (fun t => [aInt t.1, aInt t.2.1, aInt t.2.2])) (0, 0, 0) isAgg3 rfl (fun _ => rfl) rfl rfl (by omega) (by omega)) ?_
      refine ent_guardXT rfl rfl rfl rfl (decide_eq_true hg75) ?_
      refine ent_o rfl (ok_lss rfl rfl) ?_
      refine ent_o rfl (ok_pickT rfl (decide_eq_true hg75) rfl) ?_
      refine ent_nil ?_
      exact ent_rep ⟨rfl, rfl, rfl, rfl, rfl, rfl, rfl, rfl, slot_bool (dq_Q ((and_iff_right hg75).trans Iff.rfl)), trivial⟩ rfl
     refine ent_guardXF rfl rfl rfl rfl (decide_eq_false hg75) ?_
     refine ent_guardXF rfl rfl rfl rfl (decide_eq_false hg75) ?_
     refine ent_guardXF rfl rfl rfl rfl (decide_eq_false hg75) ?_
     refine ent_guardXF rfl rfl rfl rfl (decide_eq_false hg75) ?_
     refine ent_guardXF rfl rfl rfl rfl (decide_eq_false hg75) ?_
     refine ent_o rfl (ok_pickF rfl (decide_eq_false hg75) rfl) ?_
     refine ent_nil ?_
     exact ent_rep ⟨rfl, rfl, rfl, rfl, rfl, rfl, rfl, rfl, slot_bool (dq_F rfl (fun h => hg75 h.1)), trivial⟩ rfl
    refine ent_k K27 ?_
    refine ent_condD rfl (fun h82 => ?_) (fun h82 => ?_)
    ·have hb : NbOk c j a := ⟨h69.1, j1, a0, h82.1⟩
     have hnl := nb_lt hq2 h69.1 j1 a0 h82.1
     have hmv := min_dig hk s j a
     have hnb : ix 0 (ix [] (nbL c) s) (j * (c.F.q - 1) + a - 1) = minV c s j a := nb_ent hq2 (by omega) (by omega) h69.1 j1 a0 h82.1
     have lrw : (ix [] (nbL c) s).length = ((c.N * (c.F.q - 1))).toNat := by rw [ix_nbL c (by omega) (by omega), length_mapR]
     have hcnd := hA.cnd hk hS w0 s0 hs1 hge h82.2 (j := j) (a := a)
     refine esp K26 ?_
     refine ent_seq fun _ K28 => ?_
     refine ent_block ?_
     refine esr rfl fun _ K29 => ?_
     refine ent_o rfl (ok_index [] sl25 rfl rfl (by omega) (by omega)) ?_
     refine ent_o rfl (ok_load ti22 rfl) ?_
     refine emm rfl ?_
     refine ent_o rfl (ok_sub rfl rfl (by omega) (by omega)) ?_
     refine ent_o rfl (ok_mul rfl rfl (by omega) (by omega)) ?_
     refine emm rfl ?_
     refine ent_o rfl (ok_add rfl rfl (by omega) (by omega)) ?_
     refine ent_o rfl (ok_sub rfl rfl (by omega) (by omega)) ?_
     refine ent_o rfl (ok_index 0 sl22 rfl rfl (by omega) (by omega)) ?_
     refine ent_o rfl (ok_load ti3 rfl) ?_
     refine emm rfl ?_
     refine enk K29 ?_
     refine ent_seq fun _ K30 => ?_
     refine ent_cut (⟨[(1, aEx (.pointer (some ⟨b1_1, 0, none⟩))), (3, aSl 1 false aInts (nbL c)), (4, aInt c.F.q), (5, aEx (vec (some b19_2) (((↑(nbL c).length : Int)).toNat) (((↑(nbL c).length : Int)).toNat))), (7, aInt w), (8, aInt s), (9, aInt j), (10, aInt a), (118, aBool (decide ((((ix (0, 0, 0) L4 (ix 0 (ix [] (nbL c) s) (((j * (c.F.q - 1)) + a) - 1))).1) = (w - 1)) ∧ ((w = 1) ∨ (j < ((ix (0, 0, 0) L4 (ix 0 (ix [] (nbL c) s) (((j * (c.F.q - 1)) + a) - 1))).2.1))))))], [oVec (some b19_2) (((↑(nbL c).length : Int)).toNat) 63 3 true aLab L4, oBox b1_1 27 [aInt c.F.P, aInt c.F.M, aSl 1 false aInt c.F.mod, aInt c.N, aSl 1 false aInts c.Gen]]⟩) ?_ ?_
     ·refine ent_region ?_
      refine emm rfl ?_
      refine ent_o rfl (ok_indexV sl37 rfl rfl (by omega) (by omega)) ?_
      refine ent_o rfl (ok_fieldAddrEx runUnderlying63 rfl sizeOf3 (by decide) rfl) ?_
      refine ent_o rfl (ok_loadVF (k := 0) (As := (fun t => [aInt t.1, aInt t.2.1, aInt t.2.2])) (0, 0, 0) isAgg3 rfl (fun _ => rfl) rfl rfl (by omega) (by omega)) ?_
      refine emm rfl ?_
      refine ent_o rfl (ok_sub rfl rfl (by omega) (by omega)) ?_
      refine ent_o rfl (ok_eql rfl rfl) ?_
      refine emm rfl ?_
      refine ent_guardXDt rfl rfl rfl rfl (fun hg106 => ?_) (fun hg106 => ?_)
      ·refine emm rfl ?_
       refine ent_guardXT rfl rfl rfl rfl (decide_eq_true hg106) ?_
       refine ent_o rfl (ok_eql rfl rfl) ?_
       refine ent_guardXT rfl rfl rfl rfl (decide_eq_true hg106) ?_
       refine emm rfl ?_
       refine ent_guardXDf rfl rfl rfl rfl (fun hg109 => ?_) (fun hg109 => ?_)
       ·refine emm rfl ?_
        refine ent_guardXT rfl rfl rfl rfl (decide_eq_false hg109) ?_
        refine emm rfl ?_
        refine ent_guardXT rfl rfl rfl rfl (decide_eq_false hg109) ?_
        refine emm rfl ?_
        refine ent_guardXT rfl rfl rfl rfl (decide_eq_false hg109) ?_
        refine ent_o rfl (ok_indexV sl37 rfl rfl (by omega) (by omega)) ?_
        refine ent_guardXT rfl rfl rfl rfl (decide_eq_false hg109) ?_
        refine ent_o rfl (ok_fieldAddrEx runUnderlying63 rfl sizeOf3 (by decide) rfl) ?_
        refine ent_guardXT rfl rfl rfl rfl (decide_eq_false hg109) ?_
        refine ent_o rfl (ok_loadVF (k := 0) (As := (fun t => [aInt t.1, aInt t.2.1, aInt t.2.2])) (0, 0, 0) isAgg3 rfl (fun _ => rfl) rfl rfl (by omega) (by omega)) ?_
        refine ent_guardXT rfl rfl rfl rfl (decide_eq_false hg109) ?_
        refine ent_o rfl (ok_lss rfl rfl) ?_
        refine ent_guardXT rfl rfl rfl rfl (decide_eq_true hg106) ?_
        refine ent_o rfl (ok_pickF rfl (decide_eq_false hg109) rfl) ?_
        refine ent_o rfl (ok_pickT rfl (decide_eq_true hg106) rfl) ?_
        refine ent_nil ?_
        exact ent_rep ⟨rfl, rfl, rfl, rfl, rfl, rfl, rfl, rfl, slot_bool (dq_Q ((and_iff_right hg106).trans ((or_iff_right hg109).trans Iff.rfl))), trivial⟩ rfl
       refine ent_guardXF rfl rfl rfl rfl (decide_eq_true hg109) ?_
       refine ent_guardXF rfl rfl rfl rfl (decide_eq_true hg109) ?_
       refine ent_guardXF rfl rfl rfl rfl (decide_eq_true hg109) ?_
       refine ent_guardXF rfl rfl rfl rfl (decide_eq_true hg109) ?_
       refine ent_guardXF rfl rfl rfl rfl (decide_eq_true hg109) ?_
       refine ent_guardXF rfl rfl rfl rfl (decide_eq_true hg109) ?_
       refine ent_guardXT rfl rfl rfl rfl (decide_eq_true hg106) ?_
       refine ent_o rfl (ok_pickT rfl (decide_eq_true hg109) rfl) ?_
       refine ent_o rfl (ok_pickT rfl (decide_eq_true hg106) rfl) ?_
       refine ent_nil ?_
       exact ent_rep ⟨rfl, rfl, rfl, rfl, rfl, rfl, rfl, rfl, slot_bool (dq_T rfl ⟨hg106, (Or.inl hg109)⟩), trivial⟩ rfl
      refine ent_guardXF rfl rfl rfl rfl (decide_eq_false hg106) ?_
      refine ent_guardXF rfl rfl rfl rfl (decide_eq_false hg106) ?_
      refine ent_guardU rfl rfl rfl rfl ?_
      refine ent_guardU rfl rfl rfl rfl ?_
      refine ent_guardU rfl rfl rfl rfl ?_
      refine ent_guardU rfl rfl rfl rfl ?_
      refine ent_guardU rfl rfl rfl rfl ?_
      refine ent_guardU rfl rfl rfl rfl ?_
      refine ent_guardU rfl rfl rfl rfl ?_
      refine ent_guardXF rfl rfl rfl rfl (decide_eq_false hg106) ?_
      refine ent_o rfl (ok_pickF rfl (decide_eq_false hg106) rfl) ?_
      refine ent_nil ?_
      exact ent_rep ⟨rfl, rfl, rfl, rfl, rfl, rfl, rfl, rfl, slot_bool (dq_F rfl (fun h => hg106 h.1)), trivial⟩ rfl
     refine ent_k K30 ?_
     refine ent_condD rfl (fun h118 => ?_) (fun h118 => ?_)
     ·have hcd : CndI c w s j a := hcnd.1 (by rw [hnb] at h118; exact h118)
      have hhit : SchI c L2 (L4.set s.toNat (w, j, a)) w s (fun j2 a2 => j < j2 ∨ (j2 = j ∧ a2 < a + 1)) := hA.hit hc w0 s0 hs1 hge h82.2 hb (fun j2 a2 _ hlt => hlt) hcd
      refine ent_region ?_
      refine emm rfl ?_
      refine ent_o rfl (ok_build st63 (As := [aInt 0, aInt 0, aInt 0]) z63 (⟨0, 1, rfl, .inl ⟨rfl, _, rfl, (one_int _), rfl, ⟨1, 1, rfl, .inl ⟨rfl, _, rfl, (one_int _), rfl, ⟨2, 1, rfl, .inl ⟨rfl, _, rfl, (one_int _), rfl, rfl⟩⟩⟩⟩⟩⟩)) ?_
      refine ent_o rfl (ok_indexV sl37 rfl rfl (by omega) (by omega)) ?_
      refine ent_storeV (k := 0) (z := (w, j, a)) ti63 rfl rfl rfl (elem_agg (AllOne.mem ⟨(one_int _), (one_int _), (one_int _), trivial⟩)) (by omega) (by omega) ?_
      refine enk K28 ?_
      refine ent_region ?_
      refine emm rfl ?_
      refine ent_o rfl (ok_add rfl rfl (by omega) (by omega)) ?_
      refine emm rfl ?_
      refine ent_nil ?_
      refine ent_again (s := (a, L4)) (a + 1, List.set L4 (s).toNat (w, j, a)) ⟨(by omega), (by omega), (by exact hhit)⟩ (by dsimp only; omega) (ent_rep ⟨rfl, rfl, rfl, rfl, rfl, rfl, rfl, rfl, trivial⟩ rfl)
     have hmor : SchI c L2 L4 w s (fun j2 a2 => j < j2 ∨ (j2 = j ∧ a2 < a + 1)) := hA.more (j := j) (a := a) (fun hq => h118 (by rw [hnb]; exact hcnd.2 hq)) (fun j2 a2 hn hlt => by by_cases e : j2 = j ∧ a2 = a; exact .inr e; exact .inl (by omega))
     refine esp K28 ?_
     refine ent_region ?_
     refine emm rfl ?_
     refine ent_o rfl (ok_add rfl rfl (by omega) (by omega)) ?_
     refine emm rfl ?_
     refine ent_nil ?_
     refine ent_again (s := (a, L4)) (a + 1, L4) ⟨(by omega), (by omega), (by exact hmor)⟩ (by dsimp only; omega) (ent_rep ⟨rfl, rfl, rfl, rfl, rfl, rfl, rfl, rfl, trivial⟩ rfl)
    have hback : SchI c L2 L4 w s (fun j2 _ => j - 1 < j2) := by
      by_cases hu : (lbl L4 s).1 < 0
      ·exact hA.mono (fun j2 a2 hn hlt => by have : ¬ a < c.F.q := fun h => h82 ⟨h, hu⟩; have := hn.2.2.2; omega)
      exact hA.any hu
    refine ent_exit ?_
    refine ent_k K24 ?_
    refine ent_region ?_
    refine emm rfl ?_
    refine ent_o rfl (ok_sub rfl rfl (by omega) (by omega)) ?_
    refine emm rfl ?_
    refine ent_nil ?_
    refine ent_again (s := (j, L3)) (j - 1, L4) ⟨(by omega), (by omega), hback⟩ (by dsimp only; omega) (ent_rep ⟨rfl, rfl, rfl, rfl, rfl, rfl, rfl, trivial⟩ rfl)
   have hdone := hJ.done hc hS w0 s0 hs1 hge (fun hu j2 a2 hn => by have h0 := hn.1; have : ¬ 0 ≤ j := fun hj => h69 ⟨hj, hu⟩; omega)
   refine ent_exit ?_
   refine ent_k K18 ?_
   refine ent_region ?_
   refine emm rfl ?_
   refine ent_o rfl (ok_add rfl rfl (by omega) (by omega)) ?_
   refine emm rfl ?_
   refine ent_nil ?_
   refine ent_again (s := (s, L2)) (s + 1, L3) ⟨(by omega), (by omega), (by exact hdone)⟩ (by dsimp only; omega) (ent_rep ⟨rfl, rfl, rfl, rfl, rfl, rfl, trivial⟩ rfl)
  refine ent_exit ?_
  refine ent_k K14 ?_
  refine ent_region ?_
  refine emm rfl ?_
  refine ent_o rfl (ok_add rfl rfl (by omega) (by omega)) ?_
  refine emm rfl ?_
  refine ent_nil ?_
  refine ent_again (s := (w, L1)) (w + 1, L2) ⟨(by omega), (by omega), (by have hS2 := hS; rw [show s = c.F.q ^ (dua c).Gen.length by omega] at hS2; exact hS2.round)⟩ (by dsimp only; omega) (ent_rep ⟨rfl, rfl, rfl, rfl, rfl, trivial⟩ rfl)
 refine ent_exit ?_
 refine ent_k K10 ?_
 refine esk rfl ?_
 refine ent_ret ?_
 exact retR1 (.inr rfl) results18 (resr_tmp (res_cv rfl (cv_vec (k := 0) (off_x rfl) (by omega) (by exact hR.last hc (by omega)))))
end Go.Proofs.Ytcilbmggiahciaa

