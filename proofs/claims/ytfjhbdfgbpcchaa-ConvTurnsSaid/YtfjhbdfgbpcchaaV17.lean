/-
  Walks of functions of the program and the reference.
-/
import Derived.Test.YtfjhbdfgbpcchaaV14
import Derived.Test.YtfjhbdfgbpcchaaV15
open Go Go.Cw
namespace Go.Proofs.Ytfjhbdfgbpcchaa
open Try
set_option maxRecDepth 100000
set_option linter.unusedVariables false
set_option linter.unusedSimpArgs false
theorem SameRows_ok (a b : List (List Int))  : Ctr Try.prog 28 [aSl 1 false aInts a, aSl 1 false aInts b] (aBool (decide (a = b))) := by
 refine ctr_of Try.call28 func28 rfl rfl ?_
 intro w O
 refine ent_len 0 rfl (fun hlen0 => ?_)
 refine ent_len 1 rfl (fun hlen1 => ?_)
 refine esk rfl ?_
 refine A_C fun _ K2 => ?_
 refine esr rfl fun _ K3 => ?_
 refine A_A rfl (A_l rfl runUnderlying42 rfl) ?_
 refine emm rfl ?_
 refine A_A rfl (A_l rfl runUnderlying42 rfl) ?_
 refine A_A rfl (ok_neq rfl rfl) ?_
 refine enk K3 ?_
 refine A_F rfl (fun h10 => ?_) (fun h10 => ?_)
 ·refine esk rfl ?_
  refine A_S ?_
  exact retR1 (.inr rfl) results28 (A_N (A_W rfl (cv_bool (by first | exact (decide_eq_false (fun h => by subst h; omega)).symm | exact (decide_eq_false (fun h => h26 (by rw [h]))).symm | exact (decide_eq_true (by rw [List.take_of_length_le (by omega), List.take_of_length_le (by omega)] at he; exact he)).symm))))
 refine esp K2 ?_
 refine A_C fun _ K5 => ?_
 refine esk rfl ?_
 refine A_H ?_
 refine A_a (fun (i : Int) => (⟨[(0, aSl 1 false aInts a), (1, aSl 1 false aInts b), (5, aInt i)], []⟩ : St)) (fun (i : Int) => (0 <= i) /\ (i <= a.length) /\ (a.take i.toNat = b.take i.toNat)) (fun (i : Int) => (a.length - i).toNat) 0 ⟨(by first | rfl | assumption | omega | (simp_all; done) | grind), (by first | rfl | assumption | omega | (simp_all; done) | grind), rfl⟩ (A_G ⟨rfl, rfl, A_P (A_c (show 0 = (0 : Int) by first | rfl | assumption | omega | (simp_all; done) | grind)), trivial⟩ rfl) ?_
 rintro i ⟨h0, h1, he⟩
 show Ent _ ⟨_, []⟩ _
 refine A_C fun _ K7 => ?_
 refine esr rfl fun _ K8 => ?_
 refine A_A rfl (A_l rfl runUnderlying42 rfl) ?_
 refine A_A rfl (A_p rfl rfl) ?_
 refine enk K8 ?_
 refine A_F rfl (fun h14 => ?_) (fun h14 => ?_)
 ·refine esp K7 ?_
  refine A_C fun _ K9 => ?_
  refine A_H ?_
  refine A_C fun _ K10 => ?_
  refine A_u 10 mixed (by kernel_rfl) (by kernel_rfl) (by kernel_rfl) ?_
  refine dw_o rfl (A_K rfl) ?_
  refine dw_o rfl (A_K rfl) ?_
  refine dw_o rfl (A_X [] sl42 rfl rfl (by omega) (by omega)) ?_
  refine dw_o rfl (A_Q ti22 rfl) ?_
  refine dw_o rfl (A_K rfl) ?_
  refine dw_o rfl (A_K rfl) ?_
  refine dw_o rfl (A_X [] sl42 rfl rfl (by omega) (by omega)) ?_
  refine dw_o rfl (A_Q ti22 rfl) ?_
  refine dw_o rfl (A_Y (SameInts_ok (ix [] a i) (ix [] b i)) rfl) ?_
  refine dw_o rfl (ok_notD rfl) ?_
  refine dw_nil ?_
  refine enk K10 ?_
  refine A_F rfl (fun h26 => ?_) (fun h26 => ?_)
  ·refine esk rfl ?_
   refine A_S ?_
   exact retR1 (.inr rfl) results28 (A_N (A_W rfl (cv_bool (by first | exact (decide_eq_false (fun h => by subst h; omega)).symm | exact (decide_eq_false (fun h => h26 (by rw [h]))).symm | exact (decide_eq_true (by rw [List.take_of_length_le (by omega), List.take_of_length_le (by omega)] at he; exact he)).symm))))
  refine esp K9 ?_
  refine A_E ?_
  refine emm rfl ?_
  refine A_A rfl (A_j rfl rfl (by omega) (by omega)) ?_
  refine emm rfl ?_
  refine A_O ?_
  refine A_T (s := (i)) (i + 1) ⟨(by first | rfl | assumption | omega | (simp_all; done) | grind), (by first | rfl | assumption | omega | (simp_all; done) | grind), (by rw [take_succ_ix [] a h0 (by omega), take_succ_ix [] b h0 (by omega), he, Classical.not_not.1 h26])⟩ (by first | omega | (dsimp only; omega)) (A_G ⟨rfl, rfl, rfl, trivial⟩ rfl)
 refine A_b ?_
 refine A_s K5 ?_
 refine esk rfl ?_
 refine A_S ?_
 exact retR1 (.inr rfl) results28 (A_N (A_W rfl (cv_bool (by first | exact (decide_eq_false (fun h => by subst h; omega)).symm | exact (decide_eq_false (fun h => h26 (by rw [h]))).symm | exact (decide_eq_true (by rw [List.take_of_length_le (by omega), List.take_of_length_le (by omega)] at he; exact he)).symm))))

theorem rSteps_ok (c : Cnv) (us : List (List Int))  : Ctr Try.prog 27 [aCnv c, aSl 1 false aInts us] (aInt (c.stepsErr us)) := by
 refine ctr_of Try.call27 func27 rfl rfl ?_
 intro w O
 refine A_f 0 2 rfl rfl (fun hlen0_2 => ?_)
 refine A_f 0 3 rfl rfl (fun hlen0_3 => ?_)
 refine ent_len 1 rfl (fun hlen1 => ?_)
 refine esr rfl fun _ K1 => ?_
 refine A_o rfl rfl (AllOne.mem ⟨(A_M _), (A_M _), A_i, A_i, trivial⟩) (fun b2_1 => ?_)
 refine emm rfl ?_
 refine enk K1 ?_
 refine A_C fun _ K2 => ?_
 refine esk rfl ?_
 refine A_H ?_
 refine A_a (fun (i : Int) => (⟨[(1, aSl 1 false aInts us), (2, aEx (.pointer (some ⟨b2_1, 0, none⟩))), (5, aInt i)], [oBox b2_1 27 [aInt c.F.P, aInt c.F.M, aSl 1 false aInt c.F.mod, aSl 1 false aRows c.Gen]]⟩ : St)) (fun (i : Int) => (0 <= i) /\ (i <= us.length) /\ (c.OkTo us i)) (fun (i : Int) => (us.length - i).toNat) 0 ⟨(by first | rfl | assumption | omega | (simp_all; done) | grind), (by first | rfl | assumption | omega | (simp_all; done) | grind), (Cnv.OkTo.zero c us)⟩ (A_G ⟨rfl, rfl, A_P (A_c (show 0 = (0 : Int) by first | rfl | assumption | omega | (simp_all; done) | grind)), trivial⟩ rfl) ?_
 rintro i ⟨h0, h1, ho⟩
 show Ent _ ⟨_, [_]⟩ _
 refine A_C fun _ K4 => ?_
 refine esr rfl fun _ K5 => ?_
 refine A_A rfl (A_l rfl runUnderlying42 rfl) ?_
 refine A_A rfl (A_p rfl rfl) ?_
 refine enk K5 ?_
 refine A_F rfl (fun h10 => ?_) (fun h10 => ?_)
 ·refine esp K4 ?_
  refine A_C fun _ K6 => ?_
  refine A_H ?_
  refine A_C fun _ K7 => ?_
  refine A_u 7 mixed (by kernel_rfl) (by kernel_rfl) (by kernel_rfl) ?_
  refine dw_o rfl (A_V (k := 0) ti27 rfl rfl rfl) ?_
  refine dw_o rfl (A_K rfl) ?_
  refine dw_o rfl (A_K rfl) ?_
  refine dw_o rfl (A_X [] sl42 rfl rfl (by omega) (by omega)) ?_
  refine dw_o rfl (A_Q ti22 rfl) ?_
  refine dw_o rfl (A_Y (rCnvList_ok c (ix [] us i)) rfl) ?_
  refine dw_o rfl (ok_assign rfl) ?_
  refine dw_nil ?_
  refine enk K7 ?_
  refine esr rfl fun _ K8 => ?_
  refine A_A rfl (ok_neq rfl rfl) ?_
  refine enk K8 ?_
  refine A_F rfl (fun h20 => ?_) (fun h20 => ?_)
  ·refine esk rfl ?_
   refine A_S ?_
   exact retR1 (.inr rfl) results27 (A_N (A_W rfl (A_Z (by exact (ho.bad h0 h10 h20).symm))))
  refine esp K6 ?_
  refine A_E ?_
  refine emm rfl ?_
  refine A_A rfl (A_j rfl rfl (by omega) (by omega)) ?_
  refine emm rfl ?_
  refine A_O ?_
  refine A_T (s := (i)) (i + 1) ⟨(by first | rfl | assumption | omega | (simp_all; done) | grind), (by first | rfl | assumption | omega | (simp_all; done) | grind), (ho.succ h0 h10 (Classical.not_not.1 h20))⟩ (by first | omega | (dsimp only; omega)) (A_G ⟨rfl, rfl, rfl, trivial⟩ rfl)
 refine A_b ?_
 refine A_s K2 ?_
 refine esk rfl ?_
 refine A_S ?_
 exact retR1 (.inr rfl) results27 (A_N (A_W rfl (A_Z (by exact (ho.all (by omega)).symm))))

theorem rEncode_ok (c : Cnv) (us : List (List Int)) (hFew : c.Few) (hOk : c.Ok) (hg : c.GoodU us) (hul : us.length <= 10000) : Ctr Try.prog 29 [aCnv c, aSl 1 false aInts us] (aSl 1 false aInts (c.refL us)) := by
 have hF := hOk.fld
 have hS := hF.1
 have hq := hS.bd
 have hik : c.k = (c.Gen.length : Int) := rfl
 have hen : c.n = ((ix [] c.Gen 0).length : Int) := rfl
 have hkn := hOk.kn
 have hnl := hOk.len
 refine ctr_of Try.call29 func29 rfl rfl ?_
 intro w O
 refine A_f 0 2 rfl rfl (fun hlen0_2 => ?_)
 refine A_f 0 3 rfl rfl (fun hlen0_3 => ?_)
 refine ent_len 1 rfl (fun hlen1 => ?_)
 refine esr rfl fun _ K1 => ?_
 refine A_o rfl rfl (AllOne.mem ⟨(A_M _), (A_M _), A_i, A_i, trivial⟩) (fun b2_1 => ?_)
 refine emm rfl ?_
 refine enk K1 ?_
 refine esk rfl ?_
 refine A_C fun _ K3 => ?_
 refine esk rfl ?_
 refine A_H ?_
 refine ent_open 22 1 false aInts (fun _ => rfl) ?_
 refine A_a (fun (ss : Int × Option Nat × Nat) => match ss with | (t, rr3, cc3) => (⟨[(1, aSl 1 false aInts us), (2, aEx (.pointer (some ⟨b2_1, 0, none⟩))), (5, aEx (vec rr3 ((mapR (c.refR us) t).length) cc3)), (6, aInt t)], [oVec rr3 cc3 22 1 false aInts (mapR (c.refR us) t), oBox b2_1 27 [aInt c.F.P, aInt c.F.M, aSl 1 false aInt c.F.mod, aSl 1 false aRows c.Gen]]⟩ : St)) (fun (ss : Int × Option Nat × Nat) => match ss with | (t, rr3, cc3) => (0 <= t) /\ (t <= us.length)) (fun (ss : Int × Option Nat × Nat) => match ss with | (t, rr3, cc3) => (us.length - t).toNat) (0, none, 0) ⟨(by first | rfl | assumption | omega | (simp_all; done) | grind), (by first | rfl | assumption | omega | (simp_all; done) | grind)⟩ (A_G ⟨rfl, rfl, A_P ((show aEx (vec none ([] : List _).length 0) = aEx (vec none ((mapR (c.refR us) (0 : Int)).length) 0) from av_vec (congrArg List.length (show mapR (c.refR us) (0 : Int) = [] by first | rfl | simp [mapR_zero]).symm))), A_P (A_c (show 0 = (0 : Int) by first | rfl | assumption | omega | (simp_all; done) | grind)), trivial⟩ (A_J (A_g (show mapR (c.refR us) (0 : Int) = [] by first | rfl | simp [mapR_zero])) (rfl))) ?_
 rintro ⟨t, rr3, cc3⟩ ⟨t0, t1⟩
 show Ent _ ⟨_, [_, _]⟩ _
 have lmr := A_m (c.refR us) t
 refine A_C fun _ K5 => ?_
 refine esr rfl fun _ K6 => ?_
 refine A_A rfl (A_l rfl runUnderlying42 rfl) ?_
 refine A_A rfl (A_p rfl rfl) ?_
 refine enk K6 ?_
 refine A_F rfl (fun h14 => ?_) (fun h14 => ?_)
 ·refine esp K5 ?_
  refine A_C fun _ K7 => ?_
  refine A_H ?_
  refine esr rfl fun _ K8 => ?_
  refine A_A rfl (A_B runUnderlying27 rfl sizeOf25 (by decide) rfl) ?_
  refine A_A rfl (A_L (k := 1) isAgg25 rfl rfl rfl) ?_
  refine A_A rfl (A_X [] sl25 rfl rfl (by omega) (by omega)) ?_
  refine A_A rfl (A_Q ti42 rfl) ?_
  refine A_A rfl (A_l rfl runUnderlying42 rfl) ?_
  refine ent_make aInt 0 rfl vt22 rfl rfl (by omega) (by omega) (by omega) (fun _ _ => rfl) (AllV.mem ⟨rfl, trivial⟩) (fun b22_4 => ?_)
  refine emm rfl ?_
  refine enk K8 ?_
  refine A_C fun _ K9 => ?_
  refine esk rfl ?_
  refine A_H ?_
  refine A_a (fun (j : Int) => (⟨[(1, aSl 1 false aInts us), (2, aEx (.pointer (some ⟨b2_1, 0, none⟩))), (5, aEx (vec rr3 ((mapR (c.refR us) t).length) cc3)), (6, aInt t), (7, aEx (vec (some b22_4) (((↑(ix [] c.Gen 0).length : Int)).toNat) (((↑(ix [] c.Gen 0).length : Int)).toNat))), (8, aInt j)], [oVec (some b22_4) (((↑(ix [] c.Gen 0).length : Int)).toNat) 3 1 false aInt (fillR (fun jj => c.refTo us t jj c.Gen.length) 0 c.n j), oVec rr3 cc3 22 1 false aInts (mapR (c.refR us) t), oBox b2_1 27 [aInt c.F.P, aInt c.F.M, aSl 1 false aInt c.F.mod, aSl 1 false aRows c.Gen]]⟩ : St)) (fun (j : Int) => (0 <= j) /\ (j <= c.n)) (fun (j : Int) => (c.n - j).toNat) 0 ⟨(by first | rfl | assumption | omega | (simp_all; done) | grind), (by first | rfl | assumption | omega | (simp_all; done) | grind)⟩ (A_G ⟨rfl, rfl, rfl, rfl, rfl, A_P (A_c (show 0 = (0 : Int) by first | rfl | assumption | omega | (simp_all; done) | grind)), trivial⟩ (A_J (A_g (show fillR (fun jj => c.refTo us t jj c.Gen.length) 0 c.n (0 : Int) = List.replicate (((↑(ix [] c.Gen 0).length : Int)).toNat) 0 by exact fillR_zero _ _ _)) (rfl))) ?_
  rintro j ⟨j0, j1⟩
  show Ent _ ⟨_, [_, _, _]⟩ _
  have lf : (fillR (fun jj => c.refTo us t jj c.Gen.length) 0 c.n j).length = c.n.toNat := length_fillR _ 0 j0 j1
  refine A_C fun _ K11 => ?_
  refine esr rfl fun _ K12 => ?_
  refine A_A rfl (ok_lenEx rfl runUnderlying22 rfl) ?_
  refine A_A rfl (A_p rfl rfl) ?_
  refine enk K12 ?_
  refine A_F rfl (fun h26 => ?_) (fun h26 => ?_)
  ·refine esp K11 ?_
   refine A_C fun _ K13 => ?_
   refine A_H ?_
   refine esk rfl ?_
   refine A_H ?_
   refine A_a (fun (i : Int) => (⟨[(1, aSl 1 false aInts us), (2, aEx (.pointer (some ⟨b2_1, 0, none⟩))), (5, aEx (vec rr3 ((mapR (c.refR us) t).length) cc3)), (6, aInt t), (7, aEx (vec (some b22_4) (((↑(ix [] c.Gen 0).length : Int)).toNat) (((↑(ix [] c.Gen 0).length : Int)).toNat))), (8, aInt j), (9, aInt i)], [oVec (some b22_4) (((↑(ix [] c.Gen 0).length : Int)).toNat) 3 1 false aInt (List.set (fillR (fun jj => c.refTo us t jj c.Gen.length) 0 c.n j) j.toNat (c.refTo us t j i.toNat)), oVec rr3 cc3 22 1 false aInts (mapR (c.refR us) t), oBox b2_1 27 [aInt c.F.P, aInt c.F.M, aSl 1 false aInt c.F.mod, aSl 1 false aRows c.Gen]]⟩ : St)) (fun (i : Int) => (0 <= i) /\ (i <= c.Gen.length)) (fun (i : Int) => (c.Gen.length - i).toNat) 0 ⟨(by first | rfl | assumption | omega | (simp_all; done) | grind), (by first | rfl | assumption | omega | (simp_all; done) | grind)⟩ (A_G ⟨rfl, rfl, rfl, rfl, rfl, rfl, A_P (A_c (show 0 = (0 : Int) by first | rfl | assumption | omega | (simp_all; done) | grind)), trivial⟩ (A_J (A_g (show List.set (fillR (fun jj => c.refTo us t jj c.Gen.length) 0 c.n j) j.toNat (c.refTo us t j (0 : Int).toNat) = fillR (fun jj => c.refTo us t jj c.Gen.length) 0 c.n j by exact set_fill0 _ j0 (by omega))) (rfl))) ?_
   rintro i ⟨h0, h1⟩
   show Ent _ ⟨_, [_, _, _]⟩ _
   have lfs : (List.set (fillR (fun jj => c.refTo us t jj c.Gen.length) 0 c.n j) j.toNat (c.refTo us t j i.toNat)).length = c.n.toNat := by rw [List.length_set]; exact lf
   refine A_C fun _ K15 => ?_
   refine esr rfl fun _ K16 => ?_
   refine A_A rfl (A_B runUnderlying27 rfl sizeOf25 (by decide) rfl) ?_
   refine A_A rfl (A_L (k := 2) isAgg25 rfl rfl rfl) ?_
   refine A_A rfl (A_l rfl runUnderlying25 rfl) ?_
   refine A_A rfl (A_p rfl rfl) ?_
   refine enk K16 ?_
   refine A_F rfl (fun h33 => ?_) (fun h33 => ?_)
   ·have hrow := hOk.row h0 h33
    have hp40 := (hFew.2 _ (ix_mem [] c.Gen h0 h33)).2 _ (ix_mem [] (ix [] c.Gen i) j0 (by omega))
    refine esp K15 ?_
    refine A_C fun _ K17 => ?_
    refine A_H ?_
    refine esk rfl ?_
    refine A_H ?_
    refine A_a (fun (d : Int) => (⟨[(1, aSl 1 false aInts us), (2, aEx (.pointer (some ⟨b2_1, 0, none⟩))), (5, aEx (vec rr3 ((mapR (c.refR us) t).length) cc3)), (6, aInt t), (7, aEx (vec (some b22_4) (((↑(ix [] c.Gen 0).length : Int)).toNat) (((↑(ix [] c.Gen 0).length : Int)).toNat))), (8, aInt j), (9, aInt i), (10, aInt d)], [oVec (some b22_4) (((↑(ix [] c.Gen 0).length : Int)).toNat) 3 1 false aInt (List.set (fillR (fun jj => c.refTo us t jj c.Gen.length) 0 c.n j) j.toNat (accF c.F (c.refTo us t j i.toNat) (ix [] (ix [] c.Gen i) j) (Cnv.back us i t) d.toNat)), oVec rr3 cc3 22 1 false aInts (mapR (c.refR us) t), oBox b2_1 27 [aInt c.F.P, aInt c.F.M, aSl 1 false aInt c.F.mod, aSl 1 false aRows c.Gen]]⟩ : St)) (fun (d : Int) => (0 <= d) /\ (d <= min (t + 1) ((ix [] (ix [] c.Gen i) j).length : Int))) (fun (d : Int) => (min (t + 1) ((ix [] (ix [] c.Gen i) j).length : Int) - d).toNat) 0 ⟨(by first | rfl | assumption | omega | (simp_all; done) | grind), (by first | rfl | assumption | omega | (simp_all; done) | grind)⟩ (A_G ⟨rfl, rfl, rfl, rfl, rfl, rfl, rfl, A_P (A_c (show 0 = (0 : Int) by first | rfl | assumption | omega | (simp_all; done) | grind)), trivial⟩ (A_J (A_g (show List.set (fillR (fun jj => c.refTo us t jj c.Gen.length) 0 c.n j) j.toNat (accF c.F (c.refTo us t j i.toNat) (ix [] (ix [] c.Gen i) j) (Cnv.back us i t) (0 : Int).toNat) = List.set (fillR (fun jj => c.refTo us t jj c.Gen.length) 0 c.n j) j.toNat (c.refTo us t j i.toNat) by rfl)) (rfl))) ?_
    rintro d ⟨d0, d1⟩
    show Ent _ ⟨_, [_, _, _]⟩ _
    have lfd : (List.set (fillR (fun jj => c.refTo us t jj c.Gen.length) 0 c.n j) j.toNat (accF c.F (c.refTo us t j i.toNat) (ix [] (ix [] c.Gen i) j) (Cnv.back us i t) d.toNat)).length = c.n.toNat := by rw [List.length_set]; exact lf
    refine A_C fun _ K19 => ?_
    refine A_C fun _ K20 => ?_
    refine ent_cut (⟨[(1, aSl 1 false aInts us), (2, aEx (.pointer (some ⟨b2_1, 0, none⟩))), (5, aEx (vec rr3 ((mapR (c.refR us) t).length) cc3)), (6, aInt t), (7, aEx (vec (some b22_4) (((↑(ix [] c.Gen 0).length : Int)).toNat) (((↑(ix [] c.Gen 0).length : Int)).toNat))), (8, aInt j), (9, aInt i), (10, aInt d), (51, aBool (decide ((d <= t) /\ (d < (↑(ix [] (ix [] c.Gen i) j).length : Int)))))], [oVec (some b22_4) (((↑(ix [] c.Gen 0).length : Int)).toNat) 3 1 false aInt (List.set (fillR (fun jj => c.refTo us t jj c.Gen.length) 0 c.n j) j.toNat (accF c.F (c.refTo us t j i.toNat) (ix [] (ix [] c.Gen i) j) (Cnv.back us i t) d.toNat)), oVec rr3 cc3 22 1 false aInts (mapR (c.refR us) t), oBox b2_1 27 [aInt c.F.P, aInt c.F.M, aSl 1 false aInt c.F.mod, aSl 1 false aRows c.Gen]]⟩) ?_ ?_
    ·refine A_E ?_
     refine emm rfl ?_
     refine A_A rfl (ok_leq rfl rfl) ?_
     refine emm rfl ?_
     refine ent_guardXDt rfl rfl rfl rfl (fun hg39 => ?_) (fun hg39 => ?_)
     ·refine emm rfl ?_
      refine A_I rfl rfl rfl rfl (decide_eq_true hg39) ?_
      refine A_A rfl (A_B runUnderlying27 rfl sizeOf25 (by decide) rfl) ?_
      refine A_I rfl rfl rfl rfl (decide_eq_true hg39) ?_
      refine A_A rfl (A_L (k := 2) isAgg25 rfl rfl rfl) ?_
      refine A_I rfl rfl rfl rfl (decide_eq_true hg39) ?_
      refine emm rfl ?_
      refine A_I rfl rfl rfl rfl (decide_eq_true hg39) ?_
      refine A_A rfl (A_X [] sl25 rfl rfl (by omega) (by omega)) ?_
      refine A_I rfl rfl rfl rfl (decide_eq_true hg39) ?_
      refine A_A rfl (A_Q ti42 rfl) ?_
      refine A_I rfl rfl rfl rfl (decide_eq_true hg39) ?_
      refine emm rfl ?_
      refine A_I rfl rfl rfl rfl (decide_eq_true hg39) ?_
      refine A_A rfl (A_X [] sl42 rfl rfl (by omega) (by omega)) ?_
      refine A_I rfl rfl rfl rfl (decide_eq_true hg39) ?_
      refine A_A rfl (A_Q ti22 rfl) ?_
      refine A_I rfl rfl rfl rfl (decide_eq_true hg39) ?_
      refine A_A rfl (A_l rfl runUnderlying22 rfl) ?_
      refine A_I rfl rfl rfl rfl (decide_eq_true hg39) ?_
      refine A_A rfl (A_p rfl rfl) ?_
      refine A_A rfl (A_h rfl (decide_eq_true hg39) rfl) ?_
      refine A_O ?_
      exact A_G ⟨rfl, rfl, rfl, rfl, rfl, rfl, rfl, rfl, A_U (dq_Q ((and_iff_right hg39).trans Iff.rfl)), trivial⟩ rfl
     refine A_D rfl rfl rfl rfl (decide_eq_false hg39) ?_
     refine A_D rfl rfl rfl rfl (decide_eq_false hg39) ?_
     refine A_D rfl rfl rfl rfl (decide_eq_false hg39) ?_
     refine A_D rfl rfl rfl rfl (decide_eq_false hg39) ?_
     refine A_D rfl rfl rfl rfl (decide_eq_false hg39) ?_
     refine A_D rfl rfl rfl rfl (decide_eq_false hg39) ?_
     refine A_D rfl rfl rfl rfl (decide_eq_false hg39) ?_
     refine A_D rfl rfl rfl rfl (decide_eq_false hg39) ?_
     refine A_D rfl rfl rfl rfl (decide_eq_false hg39) ?_
     refine A_D rfl rfl rfl rfl (decide_eq_false hg39) ?_
     refine A_A rfl (A_t rfl (decide_eq_false hg39) rfl) ?_
     refine A_O ?_
     exact A_G ⟨rfl, rfl, rfl, rfl, rfl, rfl, rfl, rfl, A_U (dq_F rfl (fun h => hg39 h.1)), trivial⟩ rfl
    refine A_s K20 ?_
    refine A_F rfl (fun h51 => ?_) (fun h51 => ?_)
    ·have hgi := hg.at (t := t - d) (by omega) (by omega)
     have hgl := hgi.1
     have hself := ix_set_self (fillR (fun jj => c.refTo us t jj c.Gen.length) 0 c.n j) (accF c.F (c.refTo us t j i.toNat) (ix [] (ix [] c.Gen i) j) (Cnv.back us i t) d.toNat) j0 (by omega)
     have hval : addF c.F (ix 0 (List.set (fillR (fun jj => c.refTo us t jj c.Gen.length) 0 c.n j) j.toNat (accF c.F (c.refTo us t j i.toNat) (ix [] (ix [] c.Gen i) j) (Cnv.back us i t) d.toNat)) j) (mulF c.F (ix 0 (ix [] (ix [] c.Gen i) j) d) (ix 0 (ix [] us (t - d)) i)) = accF c.F (c.refTo us t j i.toNat) (ix [] (ix [] c.Gen i) j) (Cnv.back us i t) (d + 1).toNat := by rw [hself, accF_succ _ _ _ _ d0, Cnv.ix_back us d0 (by omega)]
     refine esp K19 ?_
     refine A_C fun _ K21 => ?_
     refine A_H ?_
     refine A_u 33 mixed (by kernel_rfl) (drawQ_F (by kernel_rfl)) (by kernel_rfl) ?_
     refine dw_o rfl (A_K rfl) ?_
     refine dw_o rfl (A_K rfl) ?_
     refine dw_o rfl (A_B runUnderlying27 rfl sizeOf24 (by decide) rfl) ?_
     refine dw_o rfl (A_V (k := 2) ti24 rfl rfl rfl) ?_
     refine dw_o rfl (A_K rfl) ?_
     refine dw_o rfl (A_K rfl) ?_
     refine dw_o rfl (A_n sl22 rfl rfl (by omega) (by omega)) ?_
     refine dw_o rfl (ok_loadV (k := 0) 0 ti3 rfl rfl (by omega) (by omega)) ?_
     refine dw_o rfl (A_B runUnderlying27 rfl sizeOf24 (by decide) rfl) ?_
     refine dw_o rfl (A_V (k := 2) ti24 rfl rfl rfl) ?_
     refine dw_o rfl (A_B runUnderlying27 rfl sizeOf25 (by decide) rfl) ?_
     refine dw_o rfl (A_L (k := 2) isAgg25 rfl rfl rfl) ?_
     refine dw_o rfl (A_K rfl) ?_
     refine dw_o rfl (A_X [] sl25 rfl rfl (by omega) (by omega)) ?_
     refine dw_o rfl (A_Q ti42 rfl) ?_
     refine dw_o rfl (A_K rfl) ?_
     refine dw_o rfl (A_X [] sl42 rfl rfl (by omega) (by omega)) ?_
     refine dw_o rfl (A_Q ti22 rfl) ?_
     refine dw_o rfl (A_K rfl) ?_
     refine dw_o rfl (A_X 0 sl22 rfl rfl (by omega) (by omega)) ?_
     refine dw_o rfl (A_Q ti3 rfl) ?_
     refine dw_o rfl (A_K rfl) ?_
     refine dw_o rfl (A_K rfl) ?_
     refine dw_o rfl (A_K rfl) ?_
     refine dw_o rfl (ok_sub rfl rfl (by omega) (by omega)) ?_
     refine dw_o rfl (A_X [] sl42 rfl rfl (by omega) (by omega)) ?_
     refine dw_o rfl (A_Q ti22 rfl) ?_
     refine dw_o rfl (A_K rfl) ?_
     refine dw_o rfl (A_X 0 sl22 rfl rfl (by omega) (by omega)) ?_
     refine dw_o rfl (A_Q ti3 rfl) ?_
     refine dw_o rfl (A_Y (rMul_ok c.F (ix 0 (ix [] (ix [] c.Gen i) j) d) (ix 0 (ix [] us (t - d)) i) (by first | rfl | assumption | omega | (simp_all; done) | grind)) rfl) ?_
     refine dw_o rfl (A_Y (rAdd_ok c.F (ix 0 (List.set (fillR (fun jj => c.refTo us t jj c.Gen.length) 0 c.n j) j.toNat (accF c.F (c.refTo us t j i.toNat) (ix [] (ix [] c.Gen i) j) (Cnv.back us i t) d.toNat)) j) (mulF c.F (ix 0 (ix [] (ix [] c.Gen i) j) d) (ix 0 (ix [] us (t - d)) i)) (by first | rfl | assumption | omega | (simp_all; done) | grind)) rfl) ?_
     refine dw_o rfl (A_n sl22 rfl rfl (by omega) (by omega)) ?_
     refine dw_nil ?_
     refine ent_storeV (k := 0) (z := addF c.F (ix 0 (List.set (fillR (fun jj => c.refTo us t jj c.Gen.length) 0 c.n j) j.toNat (accF c.F (c.refTo us t j i.toNat) (ix [] (ix [] c.Gen i) j) (Cnv.back us i t) d.toNat)) j) (mulF c.F (ix 0 (ix [] (ix [] c.Gen i) j) d) (ix 0 (ix [] us (t - d)) i))) ti3 rfl rfl rfl (A_w (A_M _)) (by omega) (by omega) ?_
     refine enk K21 ?_
     refine A_E ?_
     refine emm rfl ?_
     refine A_A rfl (A_j rfl rfl (by omega) (by omega)) ?_
     refine emm rfl ?_
     refine A_O ?_
     refine A_T (s := (d)) (d + 1) ⟨(by first | rfl | assumption | omega | (simp_all; done) | grind), (by first | rfl | assumption | omega | (simp_all; done) | grind)⟩ (by first | omega | (dsimp only; omega)) (A_G ⟨rfl, rfl, rfl, rfl, rfl, rfl, rfl, rfl, trivial⟩ (A_J (A_g (show List.set (fillR (fun jj => c.refTo us t jj c.Gen.length) 0 c.n j) j.toNat (accF c.F (c.refTo us t j i.toNat) (ix [] (ix [] c.Gen i) j) (Cnv.back us i t) (d + 1).toNat) = List.set (List.set (fillR (fun jj => c.refTo us t jj c.Gen.length) 0 c.n j) j.toNat (accF c.F (c.refTo us t j i.toNat) (ix [] (ix [] c.Gen i) j) (Cnv.back us i t) d.toNat)) (j).toNat (addF c.F (ix 0 (List.set (fillR (fun jj => c.refTo us t jj c.Gen.length) 0 c.n j) j.toNat (accF c.F (c.refTo us t j i.toNat) (ix [] (ix [] c.Gen i) j) (Cnv.back us i t) d.toNat)) j) (mulF c.F (ix 0 (ix [] (ix [] c.Gen i) j) d) (ix 0 (ix [] us (t - d)) i))) by rw [List.set_set, hval])) (rfl)))
    refine A_b ?_
    refine A_s K17 ?_
    refine A_E ?_
    refine emm rfl ?_
    refine A_A rfl (A_j rfl rfl (by omega) (by omega)) ?_
    refine emm rfl ?_
    refine A_O ?_
    refine A_T (s := (i)) (i + 1) ⟨(by first | rfl | assumption | omega | (simp_all; done) | grind), (by first | rfl | assumption | omega | (simp_all; done) | grind)⟩ (by first | omega | (dsimp only; omega)) (A_G ⟨rfl, rfl, rfl, rfl, rfl, rfl, rfl, trivial⟩ (A_J (A_g (show List.set (fillR (fun jj => c.refTo us t jj c.Gen.length) 0 c.n j) j.toNat (c.refTo us t j (i + 1).toNat) = List.set (fillR (fun jj => c.refTo us t jj c.Gen.length) 0 c.n j) j.toNat (accF c.F (c.refTo us t j i.toNat) (ix [] (ix [] c.Gen i) j) (Cnv.back us i t) d.toNat) by rw [c.refTo_succ us t j h0, show d = min (t + 1) ((ix [] (ix [] c.Gen i) j).length : Int) by omega])) (rfl)))
   refine A_b ?_
   refine A_s K13 ?_
   refine A_E ?_
   refine emm rfl ?_
   refine A_A rfl (A_j rfl rfl (by omega) (by omega)) ?_
   refine emm rfl ?_
   refine A_O ?_
   refine A_T (s := (j)) (j + 1) ⟨(by first | rfl | assumption | omega | (simp_all; done) | grind), (by first | rfl | assumption | omega | (simp_all; done) | grind)⟩ (by first | omega | (dsimp only; omega)) (A_G ⟨rfl, rfl, rfl, rfl, rfl, rfl, trivial⟩ (A_J (A_g (show fillR (fun jj => c.refTo us t jj c.Gen.length) 0 c.n (j + 1) = List.set (fillR (fun jj => c.refTo us t jj c.Gen.length) 0 c.n j) j.toNat (c.refTo us t j i.toNat) by rw [show i.toNat = c.Gen.length by omega]; exact (fillR_set (fun jj => c.refTo us t jj c.Gen.length) 0 j0 (by omega)).symm)) (rfl)))
  refine A_b ?_
  refine A_s K9 ?_
  refine ent_give 0 7 rfl (cv_vec (k := 0) (off_erase rfl) (by first | rfl | assumption | (simp; done) | (simp_all; done) | omega) rfl) ?_
  refine A_E ?_
  refine emm rfl ?_
  refine ent_appendL (k := 0) (enc := aInts) (y := fillR (fun jj => c.refTo us t jj c.Gen.length) 0 c.n j) rfl rfl vt42 rfl rfl (by first | rfl | assumption | (simp; done) | (simp_all; done) | omega) rfl ((A_w A_i)) (by first | omega | (simp only [List.length_append, List.length_cons, List.length_nil]; omega) | (simp; omega) | (simp; done)) (by first | omega | (simp only [List.length_append, List.length_cons, List.length_nil]; omega) | (simp; omega) | (simp; done)) (by decide) (fun b90_5 c90_5 => ?_)
  refine emm rfl ?_
  refine enk K7 ?_
  refine A_E ?_
  refine emm rfl ?_
  refine A_A rfl (A_j rfl rfl (by omega) (by omega)) ?_
  refine emm rfl ?_
  refine A_O ?_
  refine A_T (s := (t, rr3, cc3)) (t + 1, (some b90_5), c90_5) ⟨(by first | rfl | assumption | omega | (simp_all; done) | grind), (by first | rfl | assumption | omega | (simp_all; done) | grind)⟩ (by first | omega | (dsimp only; omega)) (A_G ⟨rfl, rfl, A_P (av_vec (congrArg List.length (show mapR (c.refR us) (t + 1) = (mapR (c.refR us) t) ++ [fillR (fun jj => c.refTo us t jj c.Gen.length) 0 c.n j] by rw [fillR_all _ 0 (show c.n <= j by omega), show j = c.n by omega]; exact mapR_succ (c.refR us) t0).symm)), rfl, trivial⟩ (A_J (A_g (show mapR (c.refR us) (t + 1) = (mapR (c.refR us) t) ++ [fillR (fun jj => c.refTo us t jj c.Gen.length) 0 c.n j] by rw [fillR_all _ 0 (show c.n <= j by omega), show j = c.n by omega]; exact mapR_succ (c.refR us) t0)) (rfl)))
 refine A_b ?_
 refine A_s K3 ?_
 refine esk rfl ?_
 refine A_S ?_
 exact retR1 (.inr rfl) results29 (A_N (A_W rfl (cv_vec (k := 0) (off_x rfl) (by first | rfl | assumption | (simp; done) | (simp_all; done) | omega) (by rw [show t = (us.length : Int) by omega]; rfl))))

end Go.Proofs.Ytfjhbdfgbpcchaa

