/-
  Walks of functions of the program and the reference.
-/
import Derived.Test.YtcilbmggiahciaaGreatZ48
open Go Go.Cw
namespace Go.Proofs.YtcilbmggiahciaaGreat
open Tryz
set_option maxRecDepth 100000
set_option linter.unusedVariables false
set_option linter.unusedSimpArgs false
set_option maxHeartbeats 1000000 in
theorem levels_ok (c : Cod) (hc : csE c = 0) : CtrF Tryz.prog 55 [aSp c] (aTup [aSl 1 false aInt (mapR (dsC c) (c.F.q ^ (dua c).Gen.length)), aExi (fun (Qo : List Int) => BfI c (mapR (dsC c) (c.F.q ^ (dua c).Gen.length)) Qo Qo.length) (fun (Qo : List Int) => aSl 1 false aInt Qo)]) := by
 have hcs := csE_zero.1 hc
 have hk := hcs.1
 have hqb := hk.fld.1.bd
 have hq2 := hk.q2
 have hdd := hk.dim_dua
 have hn64 := hk.n64
 have hn1 := hk.n1
 have hct := hcs.2
 have hp1 := pow_pos_of c.F.q hq2 (dua c).Gen.length
 have ltn := length_turnL (dua c).Gen c.N
 refine ctrF_of Tryz.call55 func55 rfl rfl ?_
 intro w O
 refine ent_lenP 0 5 rfl rfl (fun hlen0_5 => ?_)
 refine esk rfl ?_
 refine esr rfl fun _ K2 => ?_
 refine A_A rfl (A_k rfl) ?_
 refine A_A rfl (A_a runUnderlying70 rfl sizeOf3 rfl rfl) ?_
 refine A_A rfl (A_U ti3 rfl) ?_
 refine ent_make aInt 0 rfl vt22 rfl rfl (by omega) (by omega) (by omega) (fun _ _ => rfl) (AllV.mem ⟨rfl, trivial⟩) (fun b16_1 => ?_)
 refine emm rfl ?_
 refine enk K2 ?_
 refine A_C fun _ K3 => ?_
 refine esr rfl fun _ K4 => ?_
 refine A_A rfl (ok_lenEx rfl runUnderlying22 rfl) ?_
 refine emm rfl ?_
 refine enk K4 ?_
 refine A_K ?_
 refine A_e (fun (v : Int) => (⟨[(0, aSp c), (4, aEx (vec (some b16_1) ((c.F.q ^ (dua c).Gen.length).toNat) ((c.F.q ^ (dua c).Gen.length).toNat))), (18, aInt (↑((c.F.q ^ (dua c).Gen.length).toNat) : Int)), (19, aInt v)], [oVec (some b16_1) ((c.F.q ^ (dua c).Gen.length).toNat) 3 1 false aInt (fillR (fun _ => (-1 : Int)) 0 (c.F.q ^ (dua c).Gen.length) v)]⟩ : St)) (fun (v : Int) => (0 <= v) /\ (v <= c.F.q ^ (dua c).Gen.length)) (fun (v : Int) => (c.F.q ^ (dua c).Gen.length - v).toNat) 0 ⟨(by omega), (by omega)⟩ (A_G ⟨rfl, rfl, rfl, A_W (A_j (show 0 = (0 : Int) by rfl)), trivial⟩ (A_M (A_o (show fillR (fun _ => (-1 : Int)) 0 (c.F.q ^ (dua c).Gen.length) (0 : Int) = List.replicate ((c.F.q ^ (dua c).Gen.length).toNat) 0 by exact fillR_zero _ _ _)) (rfl))) ?_
 rintro v ⟨v0, v1⟩
 show Ent _ ⟨_, [_]⟩ _
 have lfl := length_fillR (fun _ => (-1 : Int)) 0 v0 v1
 refine esr rfl fun _ K5 => ?_
 refine A_A rfl (A_p rfl rfl) ?_
 refine enk K5 ?_
 refine A_C fun _ K6 => ?_
 refine A_E rfl (fun h20 => ?_) (fun h20 => ?_)
 ·refine esp K6 ?_
  refine A_C fun _ K7 => ?_
  refine A_K ?_
  refine esk rfl ?_
  refine A_F ?_
  refine emm rfl ?_
  refine A_A rfl (A_h sl22 rfl rfl (by omega) (by omega)) ?_
  refine A_w (k := 0) (z := (-1)) ti3 rfl rfl rfl (A_r (A_D _)) (by omega) (by omega) ?_
  refine enk K7 ?_
  refine A_F ?_
  refine A_A rfl (A_m rfl rfl (by omega) (by omega)) ?_
  refine emm rfl ?_
  refine A_O ?_
  refine A_V (s := (v)) (v + 1) ⟨(by omega), (by omega)⟩ (by omega) (A_G ⟨rfl, rfl, rfl, rfl, trivial⟩ (A_M (A_o (show fillR (fun _ => (-1 : Int)) 0 (c.F.q ^ (dua c).Gen.length) (v + 1) = List.set (fillR (fun _ => (-1 : Int)) 0 (c.F.q ^ (dua c).Gen.length) v) (v).toNat (-1) by exact (fillR_set (fun _ => (-1 : Int)) 0 v0 (show v < c.F.q ^ (dua c).Gen.length by omega)).symm)) (rfl)))
 have hst : BfI c ((fillR (fun _ => (-1 : Int)) 0 (c.F.q ^ (dua c).Gen.length) v).set (0 : Int).toNat 0) [0] 0 := BfI.start hk (by rw [List.length_set]; omega) (by rw [ix_setE 0 _ _ (by omega) (by omega) (by omega), if_pos rfl]) (fun z z0 z1 => by rw [ix_setE 0 _ _ (by omega) (by omega) (by omega), if_neg (by omega), fillR_all _ _ (by omega), ix_mapR _ _ (by omega) (by omega)])
 refine A_c ?_
 refine A_t K3 ?_
 refine esr rfl fun _ K9 => ?_
 refine A_A rfl (A_h sl22 rfl rfl (by omega) (by omega)) ?_
 refine A_w (k := 0) (z := 0) ti3 rfl rfl rfl (A_r (A_D _)) (by omega) (by omega) ?_
 refine enk K9 ?_
 refine esr rfl fun _ K10 => ?_
 refine A_A rfl (A_k rfl) ?_
 refine A_A rfl (A_a runUnderlying70 rfl sizeOf3 rfl rfl) ?_
 refine A_A rfl (A_U ti3 rfl) ?_
 refine ent_makeC aInt 0 rfl vt22 rfl rfl (by omega) (by omega) (by omega) (by omega) (fun _ _ => rfl) (AllV.mem ⟨rfl, trivial⟩) (fun b32_2 => ?_)
 refine ent_appendL (k := 0) (enc := aInt) (y := 0) rfl rfl vt22 rfl rfl rfl rfl ((A_r (A_D _))) (by simp) (by simp) (by decide) (fun b34_3 c34_3 => ?_)
 refine emm rfl ?_
 refine enk K10 ?_
 refine A_C fun _ K11 => ?_
 refine esk rfl ?_
 refine A_K ?_
 refine A_e (fun (ss : Int × List Int × List Int × Option Nat × Nat) => match ss with | (k, W, Q, rr4, cc4) => (⟨[(0, aSp c), (4, aEx (vec (some b16_1) ((c.F.q ^ (dua c).Gen.length).toNat) ((c.F.q ^ (dua c).Gen.length).toNat))), (6, aEx (vec rr4 ((Q).length) cc4)), (7, aInt k)], [oVec rr4 cc4 3 1 false aInt Q, oVec (some b16_1) ((c.F.q ^ (dua c).Gen.length).toNat) 3 1 false aInt W]⟩ : St)) (fun (ss : Int × List Int × List Int × Option Nat × Nat) => match ss with | (k, W, Q, rr4, cc4) => (0 <= k) /\ (BfI c W Q k) /\ (k <= Q.length)) (fun (ss : Int × List Int × List Int × Option Nat × Nat) => match ss with | (k, W, Q, rr4, cc4) => (c.F.q ^ (dua c).Gen.length - k).toNat) (0, List.set (fillR (fun _ => (-1 : Int)) 0 (c.F.q ^ (dua c).Gen.length) v) 0 0, (List.replicate ((0 : Int).toNat) (0 : Int)) ++ [0], (some b34_3), c34_3) ⟨(by omega), (by exact hst), (by simp)⟩ (A_G ⟨rfl, rfl, A_W (av_vec (congrArg List.length (show ((List.replicate ((0 : Int).toNat) (0 : Int)) ++ [0]) = (List.replicate ((0 : Int).toNat) (0 : Int)) ++ [0] by rfl).symm)), A_W (A_j (show 0 = (0 : Int) by rfl)), trivial⟩ rfl) ?_
 rintro ⟨k, W, Q, rr4, cc4⟩ ⟨k0, hB, hk1⟩
 show Ent _ ⟨_, [_, _]⟩ _
 have hfq := hB.few hk
 have hWl := hB.wl
 refine A_C fun _ K13 => ?_
 refine esr rfl fun _ K14 => ?_
 refine A_A rfl (ok_lenEx rfl runUnderlying22 rfl) ?_
 refine A_A rfl (A_p rfl rfl) ?_
 refine enk K14 ?_
 refine A_E rfl (fun h38 => ?_) (fun h38 => ?_)
 ·have hr := hB.rng k k0 h38
  refine esp K13 ?_
  refine A_C fun _ K15 => ?_
  refine A_K ?_
  refine esr rfl fun _ K16 => ?_
  refine ent_rsome 0 rfl (by omega) (fun b43_5 hb43_5 => ?_)
  subst hb43_5
  refine A_A rfl (A_h sl22 rfl rfl (by omega) (by omega)) ?_
  refine A_A rfl (ok_loadV (k := 0) 0 ti3 rfl rfl (by omega) (by omega)) ?_
  refine emm rfl ?_
  refine enk K16 ?_
  refine esr rfl fun _ K17 => ?_
  refine A_A rfl (A_k rfl) ?_
  refine A_A rfl (A_a runUnderlying70 rfl sizeOf25 rfl rfl) ?_
  refine A_A rfl (A_U ti25 rfl) ?_
  refine A_A rfl (ok_len rfl runUnderlying25 rfl) ?_
  refine emm rfl ?_
  refine enk K17 ?_
  refine A_K ?_
  refine A_e (fun (ss : Int × List Int × List Int × Option Nat × Nat) => match ss with | (j, W2, Q2, rr6, cc6) => (⟨[(0, aSp c), (4, aEx (vec (some b16_1) ((c.F.q ^ (dua c).Gen.length).toNat) ((c.F.q ^ (dua c).Gen.length).toNat))), (6, aEx (vec rr6 ((Q2).length) cc6)), (7, aInt k), (8, aInt (ix 0 Q k)), (49, aInt (↑(turnL (dua c).Gen c.N).length : Int)), (50, aInt j)], [oVec rr6 cc6 3 1 false aInt Q2, oVec (some b16_1) ((c.F.q ^ (dua c).Gen.length).toNat) 3 1 false aInt W2]⟩ : St)) (fun (ss : Int × List Int × List Int × Option Nat × Nat) => match ss with | (j, W2, Q2, rr6, cc6) => (0 <= j) /\ (j <= c.N) /\ (BfI c W2 Q2 k) /\ (k < Q2.length) /\ (ix 0 Q2 k = ix 0 Q k) /\ (∀ j2 a2 : Int, NbOk c j2 a2 -> j2 < j -> ∃ z : Int, 0 <= z /\ z < Q2.length /\ ix 0 Q2 z = minV c (ix 0 Q k) j2 a2)) (fun (ss : Int × List Int × List Int × Option Nat × Nat) => match ss with | (j, W2, Q2, rr6, cc6) => (c.N - j).toNat) (0, W, Q, (some b43_5), cc4) ⟨(by omega), (by omega), hB, h38, rfl, (fun j2 a2 hn hlt => by have := hn.1; omega)⟩ (A_G ⟨rfl, rfl, rfl, rfl, rfl, rfl, A_W (A_j (show 0 = (0 : Int) by rfl)), trivial⟩ rfl) ?_
  rintro ⟨j, W2, Q2, rr6, cc6⟩ ⟨j0, j1, hB2, hk2, hQ, hD⟩
  show Ent _ ⟨_, [_, _]⟩ _
  have hfq2 := hB2.few hk
  have hWl2 := hB2.wl
  refine esr rfl fun _ K18 => ?_
  refine A_A rfl (A_p rfl rfl) ?_
  refine enk K18 ?_
  refine A_C fun _ K19 => ?_
  refine A_E rfl (fun h51 => ?_) (fun h51 => ?_)
  ·refine esp K19 ?_
   refine A_C fun _ K20 => ?_
   refine A_K ?_
   refine esk rfl ?_
   refine esk rfl ?_
   refine A_K ?_
   refine A_e (fun (ss : Int × List Int × List Int × Option Nat × Nat) => match ss with | (a, W3, Q3, rr7, cc7) => (⟨[(0, aSp c), (4, aEx (vec (some b16_1) ((c.F.q ^ (dua c).Gen.length).toNat) ((c.F.q ^ (dua c).Gen.length).toNat))), (6, aEx (vec rr7 ((Q3).length) cc7)), (7, aInt k), (8, aInt (ix 0 Q k)), (9, aInt j), (10, aInt a), (49, aInt (↑(turnL (dua c).Gen c.N).length : Int)), (50, aInt j)], [oVec rr7 cc7 3 1 false aInt Q3, oVec (some b16_1) ((c.F.q ^ (dua c).Gen.length).toNat) 3 1 false aInt W3]⟩ : St)) (fun (ss : Int × List Int × List Int × Option Nat × Nat) => match ss with | (a, W3, Q3, rr7, cc7) => (1 <= a) /\ (a <= c.F.q) /\ (BfI c W3 Q3 k) /\ (k < Q3.length) /\ (ix 0 Q3 k = ix 0 Q k) /\ (∀ j2 a2 : Int, NbOk c j2 a2 -> (j2 < j \/ (j2 = j /\ a2 < a)) -> ∃ z : Int, 0 <= z /\ z < Q3.length /\ ix 0 Q3 z = minV c (ix 0 Q k) j2 a2)) (fun (ss : Int × List Int × List Int × Option Nat × Nat) => match ss with | (a, W3, Q3, rr7, cc7) => (c.F.q - a).toNat) (1, W2, Q2, rr6, cc6) ⟨(by omega), (by omega), hB2, hk2, hQ, (fun j2 a2 hn hlt => hD j2 a2 hn (by have := hn.2.2.1; omega))⟩ (A_G ⟨rfl, rfl, rfl, rfl, rfl, rfl, A_W (A_j (show 1 = (1 : Int) by rfl)), rfl, rfl, trivial⟩ rfl) ?_
   rintro ⟨a, W3, Q3, rr7, cc7⟩ ⟨a0, a1, hB3, hk3, hQ3, hD3⟩
   show Ent _ ⟨_, [_, _]⟩ _
   have hfq3 := hB3.few hk
   have hWl3 := hB3.wl
   refine A_C fun _ K23 => ?_
   refine esr rfl fun _ K24 => ?_
   refine A_A rfl (A_k rfl) ?_
   refine A_A rfl (A_a runUnderlying70 rfl sizeOf3 rfl rfl) ?_
   refine A_A rfl (A_U ti3 rfl) ?_
   refine A_A rfl (A_p rfl rfl) ?_
   refine enk K24 ?_
   refine A_E rfl (fun h58 => ?_) (fun h58 => ?_)
   ·have hn : NbOk c j a := ⟨j0, by omega, a0, h58⟩
    have hmv := min_dig hk (ix 0 Q k) j a
    have hwx := hB3.wq k k0 hk3
    rw [hQ3] at hwx
    have hdn := dsC_nonneg c (ix 0 Q k)
    have hdN := dsC_N hk (x := ix 0 Q k) hr.1 hr.2
    have hadd : ix 0 W3 (minV c (ix 0 Q k) j a) < 0 -> BfI c (W3.set (minV c (ix 0 Q k) j a).toNat (ix 0 W3 (ix 0 Q k) + 1)) (Q3 ++ [minV c (ix 0 Q k) j a]) k := fun hs => by have := hB3.add hk k0 hk3 hn (by rw [hQ3]; exact hs); rw [hQ3] at this; exact this
    have hold : ¬ ix 0 W3 (minV c (ix 0 Q k) j a) < 0 -> ∀ j2 a2 : Int, NbOk c j2 a2 -> (j2 < j \/ (j2 = j /\ a2 < a + 1)) -> ∃ z : Int, 0 <= z /\ z < Q3.length /\ ix 0 Q3 z = minV c (ix 0 Q k) j2 a2 := fun hs j2 a2 hn2 hlt => by rcases hB3.seen hmv.1 hmv.2.1 with ⟨h1, _⟩ | ⟨_, h1⟩; (exact absurd h1 hs); by_cases hz : j2 = j /\ a2 = a; (rw [hz.1, hz.2]; exact h1); exact hD3 j2 a2 hn2 (by omega)
    have hnew : ∀ j2 a2 : Int, NbOk c j2 a2 -> (j2 < j \/ (j2 = j /\ a2 < a + 1)) -> ∃ z : Int, 0 <= z /\ z < (Q3 ++ [minV c (ix 0 Q k) j a]).length /\ ix 0 (Q3 ++ [minV c (ix 0 Q k) j a]) z = minV c (ix 0 Q k) j2 a2 := fun j2 a2 hn2 hlt => by by_cases hz : j2 = j /\ a2 = a; (exact ⟨Q3.length, by omega, by rw [List.length_append]; simp; omega, by rw [hz.1, hz.2]; simp [ix]⟩); (obtain ⟨z, z0, z1, e⟩ := hD3 j2 a2 hn2 (by omega)); exact ⟨z, z0, by rw [List.length_append]; omega, by rw [ix_apl z0 z1]; exact e⟩
    refine esp K23 ?_
    refine A_C fun _ K25 => ?_
    refine A_K ?_
    refine esr rfl fun _ K26 => ?_
    refine A_A rfl (A_S (minus_ok c (ix 0 Q k) j a hk hct (by omega) (by omega) ‹_› (by omega)) rfl) ?_
    refine emm rfl ?_
    refine enk K26 ?_
    refine esr rfl fun _ K27 => ?_
    refine A_A rfl (A_h sl22 rfl rfl (by omega) (by omega)) ?_
    refine A_A rfl (ok_loadV (k := 1) 0 ti3 rfl rfl (by omega) (by omega)) ?_
    refine A_A rfl (A_p rfl rfl) ?_
    refine enk K27 ?_
    refine A_E rfl (fun h70 => ?_) (fun h70 => ?_)
    ·refine esr rfl fun _ K28 => ?_
     refine A_A rfl (A_h sl22 rfl rfl (by omega) (by omega)) ?_
     refine A_A rfl (ok_loadV (k := 1) 0 ti3 rfl rfl (by omega) (by omega)) ?_
     refine A_A rfl (A_m rfl rfl (by omega) (by omega)) ?_
     refine A_A rfl (A_h sl22 rfl rfl (by omega) (by omega)) ?_
     refine A_w (k := 1) (z := (ix 0 W3 (ix 0 Q k)) + 1) ti3 rfl rfl rfl (A_r (A_D _)) (by omega) (by omega) ?_
     refine enk K28 ?_
     refine A_F ?_
     refine emm rfl ?_
     refine ent_appendL (k := 0) (enc := aInt) (y := minV c (ix 0 Q k) j a) rfl rfl vt22 rfl rfl rfl rfl ((A_r (A_D _))) (by omega) (by omega) (by decide) (fun b82_8 c82_8 => ?_)
     refine emm rfl ?_
     refine enk K25 ?_
     refine A_F ?_
     refine emm rfl ?_
     refine A_A rfl (A_m rfl rfl (by omega) (by omega)) ?_
     refine emm rfl ?_
     refine A_O ?_
     refine A_V (s := (a, W3, Q3, rr7, cc7)) (a + 1, List.set W3 (minV c (ix 0 Q k) j a).toNat ((ix 0 W3 (ix 0 Q k)) + 1), Q3 ++ [minV c (ix 0 Q k) j a], (some b82_8), c82_8) ⟨(by omega), ‹_›, (by exact hadd h70), (by rw [List.length_append]; omega), (by rw [ix_apl k0 hk3]; exact hQ3), (by exact hnew)⟩ (by dsimp only; omega) (A_G ⟨rfl, rfl, A_W (av_vec (congrArg List.length (show (Q3 ++ [minV c (ix 0 Q k) j a]) = Q3 ++ [minV c (ix 0 Q k) j a] by rfl).symm)), rfl, rfl, rfl, rfl, rfl, rfl, trivial⟩ rfl)
    refine esp K25 ?_
    refine A_F ?_
    refine emm rfl ?_
    refine A_A rfl (A_m rfl rfl (by omega) (by omega)) ?_
    refine emm rfl ?_
    refine A_O ?_
    refine A_V (s := (a, W3, Q3, rr7, cc7)) (a + 1, W3, Q3, rr7, cc7) ⟨(by omega), ‹_›, (by exact hB3), (by exact hk3), (by exact hQ3), (by exact hold h70)⟩ (by dsimp only; omega) (A_G ⟨rfl, rfl, rfl, rfl, rfl, rfl, rfl, rfl, rfl, trivial⟩ rfl)
   refine A_c ?_
   refine A_t K20 ?_
   refine A_F ?_
   refine A_A rfl (A_m rfl rfl (by omega) (by omega)) ?_
   refine emm rfl ?_
   refine A_O ?_
   refine A_V (s := (j, W2, Q2, rr6, cc6)) (j + 1, W3, Q3, rr7, cc7) ⟨(by omega), (by omega), hB3, hk3, hQ3, (fun j2 a2 hn hlt => hD3 j2 a2 hn (by have := hn.2.2.2; omega))⟩ (by dsimp only; omega) (A_G ⟨rfl, rfl, rfl, rfl, rfl, rfl, rfl, trivial⟩ rfl)
  refine A_c ?_
  refine A_t K15 ?_
  refine A_F ?_
  refine emm rfl ?_
  refine A_A rfl (A_m rfl rfl (by omega) (by omega)) ?_
  refine emm rfl ?_
  refine A_O ?_
  first | refine A_V (s := (k, W, Q, rr4, cc4)) (k + 1, W2, Q2, rr6, cc6) ⟨(by omega), (by have hq := hQ; exact hB2.step hk k0 hk2 (fun j2 a2 hn => by rw [hQ]; exact hD j2 a2 hn (by have := hn.2.1; omega))), (by omega)⟩ (by first | omega | (dsimp only; omega)) (A_G ⟨rfl, rfl, rfl, rfl, trivial⟩ rfl) | refine A_V (s := (k, W, Q, (some b43_5), cc4)) (k + 1, W2, Q2, rr6, cc6) ⟨(by omega), (by have hq := hQ; exact hB2.step hk k0 hk2 (fun j2 a2 hn => by rw [hQ]; exact hD j2 a2 hn (by have := hn.2.1; omega))), (by omega)⟩ (by dsimp only; omega) (A_G ⟨rfl, rfl, rfl, rfl, trivial⟩ rfl)
 have hfin := hB.fin hk (by omega)
 have hQf : BfI c (mapR (dsC c) (c.F.q ^ (dua c).Gen.length)) Q Q.length := by rw [<- hfin, show (Q.length : Int) = k by omega]; exact hB
 refine A_c ?_
 refine A_t K11 ?_
 refine esk rfl ?_
 refine A_Q ?_
 exact retR2 (.inr rfl) results55 (A_H (A_T rfl (cvF_vec (k := 1) flat_int rfl rfl (by simp_all) (by exact hfin)))) (A_H (A_T rfl (cv_exi (Q) (hQf) (cvF_vec (k := 0) flat_int rfl rfl rfl rfl))))
end Go.Proofs.YtcilbmggiahciaaGreat

