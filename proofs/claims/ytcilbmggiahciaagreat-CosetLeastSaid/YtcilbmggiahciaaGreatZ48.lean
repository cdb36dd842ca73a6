/-
  Walks of functions of the program and the reference.
-/
import Derived.Test.YtcilbmggiahciaaGreatCjLib
import Derived.Test.YtcilbmggiahciaaGreatZ47
open Go Go.Cw
namespace Go.Proofs.YtcilbmggiahciaaGreat
open Tryz
set_option maxRecDepth 100000
set_option linter.unusedVariables false
set_option linter.unusedSimpArgs false
theorem first_ok (c : Cod) (ws : List Int) (ls : List Lab) (x : Int) (hc : csE c = 0) (hW : ∀ z : Int, 0 <= z -> z < c.F.q ^ (dua c).Gen.length -> ix 0 ws z = dsC c z) (hWl : (ws.length : Int) = c.F.q ^ (dua c).Gen.length) (hLl : (ls.length : Int) = c.F.q ^ (dua c).Gen.length) (hL : ∀ z : Int, 0 <= z -> z < c.F.q ^ (dua c).Gen.length -> dsC c z < dsC c x -> lbl ls z = labB c z) (x0 : 1 <= x) (x1 : x < c.F.q ^ (dua c).Gen.length) : Ctr Tryz.prog 56 [aSp c, aSl 1 false aInt ws, aSl 3 true aLab ls, aInt x] (aAgg [aInt ((labB c x).1), aInt ((labB c x).2.1), aInt ((labB c x).2.2)]) := by
 have hcs := csE_zero.1 hc
 have hk := hcs.1
 have hqb := hk.fld.1.bd
 have hq2 := hk.q2
 have hdd := hk.dim_dua
 have hn64 := hk.n64
 have hn1 := hk.n1
 have hct := hcs.2
 have hdz := dsC_zero hk (x := x) (by omega) x1
 have hdn := dsC_nonneg c x
 have hdN := dsC_N hk (x := x) (by omega) x1
 have hd1 : dsC c x ≠ 0 := fun e => by have := hdz.1 e; omega
 obtain ⟨w0, hw0⟩ : ∃ n : Nat, dsC c x = ((n + 1 : Nat) : Int) := ⟨(dsC c x - 1).toNat, by omega⟩
 have hf := pos_ok hk hc (x := x) (by omega) x1 hw0
 have hlb : labB c x = (dsC c x, posT c (w0 + 1) x) := by unfold labB; rw [hw0]; rfl
 have hxd : ix 0 ws x = dsC c x := hW x (by omega) x1
 have hxw : ix 0 ws x = ((w0 + 1 : Nat) : Int) := hxd.trans hw0
 refine A_q Tryz.call56 func56 rfl rfl ?_
 intro w O
 refine ent_lenP 0 5 rfl rfl (fun hlen0_5 => ?_)
 refine A_u 1 rfl (fun hlen1 => ?_)
 refine A_u 2 rfl (fun hlen2 => ?_)
 refine esr rfl fun _ K1 => ?_
 refine ent_alloc (z := .agg #[.int .i64 0, .int .i64 0, .int .i64 0]) [aInt 0, aInt 0, aInt 0] rfl zv45 rfl zc45 (fun b8_1 => ?_)
 refine enk K1 ?_
 refine A_C fun _ K2 => ?_
 refine esr rfl fun _ K3 => ?_
 refine A_A rfl (A_k rfl) ?_
 refine A_A rfl (A_a runUnderlying70 rfl sizeOf3 rfl rfl) ?_
 refine A_A rfl (A_U ti3 rfl) ?_
 refine A_A rfl (ok_sub rfl rfl (by omega) (by omega)) ?_
 refine emm rfl ?_
 refine enk K3 ?_
 refine A_K ?_
 refine A_e (fun (j : Int) => (⟨[(0, aSp c), (1, aSl 1 false aInt ws), (2, aSl 3 true aLab ls), (3, aInt x), (8, aEx (.pointer (some ⟨b8_1, 0, none⟩))), (9, aInt j)], [oBox b8_1 45 [aInt 0, aInt 0, aInt 0]]⟩ : St)) (fun (j : Int) => (-1 <= j) /\ (j < c.N) /\ (∀ j2 a2 : Int, NbOk c j2 a2 -> j < j2 -> ¬ (dsC c (minV c x j2 a2) = (w0 : Int) /\ (minV c x j2 a2 = 0 \/ j2 < (posT c w0 (minV c x j2 a2)).1)))) (fun (j : Int) => (j + 1).toNat) (c.N - 1) ⟨(by omega), (by omega), (fun j2 a2 hb hlt => by have := hb.2.1; omega)⟩ (A_G ⟨rfl, rfl, rfl, rfl, rfl, rfl, trivial⟩ rfl) ?_
 rintro j ⟨j0, j1, hn⟩
 show Ent _ ⟨_, [_]⟩ _
 refine A_C fun _ K4 => ?_
 refine esr rfl fun _ K5 => ?_
 refine A_A rfl (ok_geq rfl rfl) ?_
 refine enk K5 ?_
 refine A_E rfl (fun h18 => ?_) (fun h18 => ?_)
 ·refine esp K4 ?_
  refine A_C fun _ K6 => ?_
  refine A_K ?_
  refine esk rfl ?_
  refine A_K ?_
  refine A_e (fun (a : Int) => (⟨[(0, aSp c), (1, aSl 1 false aInt ws), (2, aSl 3 true aLab ls), (3, aInt x), (8, aEx (.pointer (some ⟨b8_1, 0, none⟩))), (9, aInt j), (10, aInt a)], [oBox b8_1 45 [aInt 0, aInt 0, aInt 0]]⟩ : St)) (fun (a : Int) => (1 <= a) /\ (a <= c.F.q) /\ (∀ a2 : Int, 1 <= a2 -> a2 < a -> ¬ (dsC c (minV c x j a2) = (w0 : Int) /\ (minV c x j a2 = 0 \/ j < (posT c w0 (minV c x j a2)).1)))) (fun (a : Int) => (c.F.q - a).toNat) 1 ⟨(by omega), (by omega), (fun a2 z0 z1 => by omega)⟩ (A_G ⟨rfl, rfl, rfl, rfl, rfl, rfl, A_W (A_j (show 1 = (1 : Int) by rfl)), trivial⟩ rfl) ?_
  rintro a ⟨a0, a1, hn2⟩
  show Ent _ ⟨_, [_]⟩ _
  refine A_C fun _ K8 => ?_
  refine esr rfl fun _ K9 => ?_
  refine A_A rfl (A_k rfl) ?_
  refine A_A rfl (A_a runUnderlying70 rfl sizeOf3 rfl rfl) ?_
  refine A_A rfl (A_U ti3 rfl) ?_
  refine A_A rfl (A_p rfl rfl) ?_
  refine enk K9 ?_
  refine A_E rfl (fun h26 => ?_) (fun h26 => ?_)
  ·have hmv := min_dig hk x j a
   have hyd := hW (minV c x j a) hmv.1 hmv.2.1
   have hpq := first_iff (ls := ls) (j := j) hyd hxw (fun h => hL (minV c x j a) hmv.1 hmv.2.1 (by rw [hw0]; exact h))
   refine esp K8 ?_
   refine A_C fun _ K10 => ?_
   refine A_K ?_
   refine esr rfl fun _ K11 => ?_
   refine A_A rfl (A_S (minus_ok c x j a hk hct (by omega) (by omega) ‹_› ‹_›) rfl) ?_
   refine emm rfl ?_
   refine enk K11 ?_
   refine A_C fun _ K12 => ?_
   refine ent_cut (⟨[(0, aSp c), (1, aSl 1 false aInt ws), (2, aSl 3 true aLab ls), (3, aInt x), (8, aEx (.pointer (some ⟨b8_1, 0, none⟩))), (9, aInt j), (10, aInt a), (56, aBool (decide (((ix 0 ws (minV c x j a)) = ((ix 0 ws x) - 1)) /\ (((minV c x j a) = 0) \/ (j < ((ix (0, 0, 0) ls (minV c x j a)).2.1))))))], [oBox b8_1 45 [aInt 0, aInt 0, aInt 0]]⟩) ?_ ?_
   ·refine A_v 23 mixed (by kernel_rfl) (by kernel_rfl) (by kernel_rfl) ?_
    refine dw_o rfl (A_I rfl) ?_
    refine dw_o rfl (A_I rfl) ?_
    refine dw_o rfl (A_d 0 sl22 rfl rfl (by omega) (by omega)) ?_
    refine dw_o rfl (A_U ti3 rfl) ?_
    refine dw_o rfl (A_I rfl) ?_
    refine dw_o rfl (A_I rfl) ?_
    refine dw_o rfl (A_d 0 sl22 rfl rfl (by omega) (by omega)) ?_
    refine dw_o rfl (A_U ti3 rfl) ?_
    refine dw_o rfl (ok_sub rfl rfl (by omega) (by omega)) ?_
    refine dw_o rfl (ok_eql rfl rfl) ?_
    refine dw_o rfl (A_I rfl) ?_
    refine dw_guardXDt rfl rfl rfl rfl (fun hg44 => ?_) (fun hg44 => ?_)
    ·refine dw_o rfl (A_I rfl) ?_
     refine dw_guardXT rfl rfl rfl rfl (decide_eq_true hg44) ?_
     refine dw_o rfl (ok_eql rfl rfl) ?_
     refine dw_guardXT rfl rfl rfl rfl (decide_eq_true hg44) ?_
     refine dw_o rfl (A_I rfl) ?_
     refine dw_guardXDf rfl rfl rfl rfl (fun hg47 => ?_) (fun hg47 => ?_)
     ·refine dw_o rfl (A_I rfl) ?_
      refine dw_guardXT rfl rfl rfl rfl (decide_eq_false hg47) ?_
      refine dw_o rfl (A_I rfl) ?_
      refine dw_guardXT rfl rfl rfl rfl (decide_eq_false hg47) ?_
      refine dw_o rfl (A_d (0, 0, 0) sl28 rfl rfl (by omega) (by omega)) ?_
      refine dw_guardXT rfl rfl rfl rfl (decide_eq_false hg47) ?_
      refine dw_o rfl (A_a runUnderlying45 rfl sizeOf3 rfl rfl) ?_
      refine dw_guardXT rfl rfl rfl rfl (decide_eq_false hg47) ?_
      refine dw_o rfl (A_U ti3 rfl) ?_
      refine dw_guardXT rfl rfl rfl rfl (decide_eq_false hg47) ?_
      refine dw_o rfl (A_I rfl) ?_
      refine dw_guardXT rfl rfl rfl rfl (decide_eq_false hg47) ?_
      refine dw_o rfl (ok_gtr rfl rfl) ?_
      refine dw_guardXT rfl rfl rfl rfl (decide_eq_true hg44) ?_
      refine dw_o rfl (A_s rfl (decide_eq_false hg47) rfl) ?_
      refine dw_o rfl (A_n rfl (decide_eq_true hg44) rfl) ?_
      refine dw_nil ?_
      refine A_O ?_
      exact A_G ⟨rfl, rfl, rfl, rfl, rfl, rfl, rfl, A_X (dq_Q ((and_iff_right hg44).trans ((or_iff_right hg47).trans Iff.rfl))), trivial⟩ rfl
     refine dw_guardXF rfl rfl rfl rfl (decide_eq_true hg47) ?_
     refine dw_guardXF rfl rfl rfl rfl (decide_eq_true hg47) ?_
     refine dw_guardXF rfl rfl rfl rfl (decide_eq_true hg47) ?_
     refine dw_guardXF rfl rfl rfl rfl (decide_eq_true hg47) ?_
     refine dw_guardXF rfl rfl rfl rfl (decide_eq_true hg47) ?_
     refine dw_guardXF rfl rfl rfl rfl (decide_eq_true hg47) ?_
     refine dw_guardXT rfl rfl rfl rfl (decide_eq_true hg44) ?_
     refine dw_o rfl (A_n rfl (decide_eq_true hg47) rfl) ?_
     refine dw_o rfl (A_n rfl (decide_eq_true hg44) rfl) ?_
     refine dw_nil ?_
     refine A_O ?_
     exact A_G ⟨rfl, rfl, rfl, rfl, rfl, rfl, rfl, A_X (dq_T rfl ⟨hg44, (Or.inl hg47)⟩), trivial⟩ rfl
    refine dw_guardXF rfl rfl rfl rfl (decide_eq_false hg44) ?_
    refine dw_guardXF rfl rfl rfl rfl (decide_eq_false hg44) ?_
    refine dw_guardU rfl rfl rfl rfl ?_
    refine dw_guardU rfl rfl rfl rfl ?_
    refine dw_guardU rfl rfl rfl rfl ?_
    refine dw_guardU rfl rfl rfl rfl ?_
    refine dw_guardU rfl rfl rfl rfl ?_
    refine dw_guardU rfl rfl rfl rfl ?_
    refine dw_guardU rfl rfl rfl rfl ?_
    refine dw_guardXF rfl rfl rfl rfl (decide_eq_false hg44) ?_
    refine dw_o rfl (A_s rfl (decide_eq_false hg44) rfl) ?_
    refine dw_nil ?_
    refine A_O ?_
    exact A_G ⟨rfl, rfl, rfl, rfl, rfl, rfl, rfl, A_X (dq_F rfl (fun h => hg44 h.1)), trivial⟩ rfl
   refine A_t K12 ?_
   refine A_E rfl (fun h56 => ?_) (fun h56 => ?_)
   ·have hps := hf.uniq ⟨⟨by omega, by omega, by omega, by omega⟩, hpq.1 h56, fun j2 a2 hn3 hlt => by rcases hlt with h | ⟨h, h2⟩; exact hn j2 a2 hn3 (by omega); (rw [h]; exact hn2 a2 hn3.2.2.1 h2)⟩
    have e1 : (labB c x).1 = ix 0 ws x := by rw [hlb, hxd]
    have e2 : (labB c x).2.1 = j := by rw [hlb]; exact hps.1
    have e3 : (labB c x).2.2 = a := by rw [hlb]; exact hps.2
    refine esr rfl fun _ K13 => ?_
    refine A_A rfl (A_d 0 sl22 rfl rfl (by omega) (by omega)) ?_
    refine A_A rfl (A_U ti3 rfl) ?_
    refine emm rfl ?_
    refine A_A rfl (ok_build st45 (As := [aInt 0, aInt 0, aInt 0]) z45 (⟨0, 1, rfl, .inl ⟨rfl, _, rfl, (A_D _), rfl, ⟨1, 1, rfl, .inl ⟨rfl, _, rfl, (A_D _), rfl, ⟨2, 1, rfl, .inl ⟨rfl, _, rfl, (A_D _), rfl, rfl⟩⟩⟩⟩⟩⟩)) ?_
    refine ent_storeBS (k := 0) sizeOf45 rfl rfl rfl (AllOne.mem ⟨(A_D _), (A_D _), (A_D _), trivial⟩) rfl rfl ?_
    show Ent _ ⟨_, [_]⟩ _
    refine enk K13 ?_
    refine A_Q ?_
    exact retR1 (.inr rfl) results56 (resr_cell (k := 0) ti45 rfl rfl rfl (cv_agg ⟨A_Y (by exact e1.symm), A_Y (by exact e2.symm), A_Y (by exact e3.symm), trivial⟩))
   refine esp K10 ?_
   refine A_F ?_
   refine emm rfl ?_
   refine A_A rfl (A_m rfl rfl (by omega) (by omega)) ?_
   refine emm rfl ?_
   refine A_O ?_
   refine A_V (s := (a)) (a + 1) ⟨(by omega), ‹_›, (fun a2 b0 b1 => by by_cases hz : a2 = a; (rw [hz]; exact fun hp => h56 (hpq.2 hp)); exact hn2 a2 b0 (by omega))⟩ (by omega) (A_G ⟨rfl, rfl, rfl, rfl, rfl, rfl, rfl, trivial⟩ rfl)
  refine A_c ?_
  refine A_t K6 ?_
  refine A_F ?_
  refine emm rfl ?_
  refine A_A rfl (ok_sub rfl rfl (by omega) (by omega)) ?_
  refine emm rfl ?_
  refine A_O ?_
  refine A_V (s := (j)) (j - 1) ⟨(by omega), (by omega), (fun j2 a2 hb hlt => by by_cases hz : j2 = j; (rw [hz]; exact hn2 a2 hb.2.2.1 (by have := hb.2.2.2; omega)); exact hn j2 a2 hb (by omega))⟩ (by omega) (A_G ⟨rfl, rfl, rfl, rfl, rfl, rfl, trivial⟩ rfl)
 exact absurd hf.ok (hn _ _ hf.nb (by have := hf.nb.1; omega))
end Go.Proofs.YtcilbmggiahciaaGreat

