/-
  Walks of functions of the program and the reference.
-/
import Derived.Test.YtfjhbdfgbpcchaaU35
open Go Go.Cw
namespace Go.Proofs.Ytfjhbdfgbpcchaa
open Try
set_option maxRecDepth 100000
set_option linter.unusedVariables false
set_option linter.unusedSimpArgs false
theorem rspCheck_ok (f : Fld) (m : Mat)  : Ctr Try.prog 90 [aFld f, aMat m] (aInt (spcE f m)) := by
 refine ctr_of Try.call90 func90 rfl rfl ?_
 intro w O
 refine A_f 0 2 rfl rfl (fun hlen0_2 => ?_)
 refine A_f 1 1 rfl rfl (fun hlen1_1 => ?_)
 refine esr rfl fun _ K1 => ?_
 refine A_o rfl rfl (AllOne.mem ⟨(A_M _), (A_M _), A_i, trivial⟩) (fun b2_1 => ?_)
 refine A_o rfl rfl (AllOne.mem ⟨(A_M _), A_i, trivial⟩) (fun b3_2 => ?_)
 refine emm rfl ?_
 refine enk K1 ?_
 refine esr rfl fun _ K2 => ?_
 refine A_A rfl (A_V (k := 1) ti24 rfl rfl rfl) ?_
 refine A_A rfl (A_V (k := 0) ti120 rfl rfl rfl) ?_
 refine A_A rfl (A_Y (rMCheck_ok f m) rfl) ?_
 refine emm rfl ?_
 refine enk K2 ?_
 refine A_C fun _ K3 => ?_
 refine esr rfl fun _ K4 => ?_
 refine A_A rfl (ok_neq rfl rfl) ?_
 refine enk K4 ?_
 refine A_F rfl (fun h12 => ?_) (fun h12 => ?_)
 ·refine esk rfl ?_
  refine A_S ?_
  exact retR1 (.inr rfl) results90 (A_N (A_W rfl (A_Z (by unfold spcE; rw [if_neg h12]))))
 have hme := Classical.not_not.1 h12
 have hF := (mErr_zero.1 hme).1
 have hgm := mat_good (mErr_zero.1 hme).2
 have hsz := mat_size (mErr_zero.1 hme).2
 have hcm : (canM f m).rows = canR (elim f m.rows [] m.cols.toNat) := by rw [canM_ok hme]; rfl
 refine esp K3 ?_
 refine esr rfl fun _ K6 => ?_
 refine A_A rfl (A_V (k := 1) ti24 rfl rfl rfl) ?_
 refine A_A rfl (A_B runUnderlying120 rfl sizeOf42 (by decide) rfl) ?_
 refine A_A rfl (A_L (k := 0) isAgg42 rfl rfl rfl) ?_
 refine A_A rfl (A_B runUnderlying120 rfl sizeOf3 (by decide) rfl) ?_
 refine A_A rfl (A_L (k := 0) isAgg3 rfl rfl rfl) ?_
 refine A_A rfl (A_Y (rCanon_ok f m.rows m.cols m.cols.toNat hF hgm (by first | rfl | assumption | omega | (simp_all; done) | grind) (by first | rfl | assumption | omega | (simp_all; done) | grind) (by first | rfl | assumption | omega | (simp_all; done) | grind) (by first | rfl | assumption | omega | (simp_all; done) | grind)) rfl) ?_
 refine emm rfl ?_
 refine A_A rfl (A_e rfl rfl) ?_
 refine A_A rfl (A_e rfl rfl) ?_
 refine emm rfl ?_
 refine enk K6 ?_
 refine A_C fun _ K7 => ?_
 refine esr rfl fun _ K8 => ?_
 refine A_A rfl (A_B runUnderlying120 rfl sizeOf42 (by decide) rfl) ?_
 refine A_A rfl (A_L (k := 0) isAgg42 rfl rfl rfl) ?_
 refine A_A rfl (A_Y (SameRows_ok (canR (elim f m.rows [] m.cols.toNat)) m.rows) rfl) ?_
 refine A_A rfl (ok_notD rfl) ?_
 refine enk K8 ?_
 refine A_F rfl (fun h27 => ?_) (fun h27 => ?_)
 ·refine esk rfl ?_
  refine A_S ?_
  exact retR1 (.inr rfl) results90 (A_N (A_W rfl (A_Z (by unfold spcE; rw [if_pos hme, hcm, if_neg h27]))))
 refine esp K7 ?_
 refine esk rfl ?_
 refine A_S ?_
 exact retR1 (.inr rfl) results90 (A_N (A_W rfl (A_Z (by unfold spcE; rw [if_pos hme, hcm, if_pos (Classical.not_not.1 h27)]))))

theorem rcCheck_ok (c : Cod)  : Ctr Try.prog 55 [aCod c] (aInt (codE c)) := by
 refine ctr_of Try.call55 func55 rfl rfl ?_
 intro w O
 refine A_f 0 2 rfl rfl (fun hlen0_2 => ?_)
 refine A_f 0 4 rfl rfl (fun hlen0_4 => ?_)
 refine esr rfl fun _ K1 => ?_
 refine A_o rfl rfl (AllOne.mem ⟨(A_M _), (A_M _), A_i, (A_M _), A_i, trivial⟩) (fun b1_1 => ?_)
 refine emm rfl ?_
 refine enk K1 ?_
 refine esr rfl fun _ K2 => ?_
 refine A_A rfl (A_B runUnderlying69 rfl sizeOf24 (by decide) rfl) ?_
 refine A_A rfl (A_V (k := 0) ti24 rfl rfl rfl) ?_
 refine A_A rfl (A_Y (rCheck_ok c.F) rfl) ?_
 refine emm rfl ?_
 refine enk K2 ?_
 refine A_C fun _ K3 => ?_
 refine esr rfl fun _ K4 => ?_
 refine A_A rfl (ok_neq rfl rfl) ?_
 refine enk K4 ?_
 refine A_F rfl (fun h8 => ?_) (fun h8 => ?_)
 ·have hF : ¬ FOk c.F := fun h => h8 (fErr_zero.2 h)
  have h1 := fErr_no hF
  refine esk rfl ?_
  refine A_S ?_
  exact retR1 (.inr rfl) results55 (A_N (A_W rfl (A_Z (by rw [h1]; exact codE_no hF))))
 have hF := fErr_zero.1 (Classical.not_not.1 h8)
 refine esp K3 ?_
 refine A_C fun _ K6 => ?_
 refine A_C fun _ K7 => ?_
 refine ent_cut (⟨[(1, aEx (.pointer (some ⟨b1_1, 0, none⟩))), (17, aBool (decide ((c.N < 1) \/ (64 < c.N))))], [oBox b1_1 69 [aInt c.F.P, aInt c.F.M, aSl 1 false aInt c.F.mod, aInt c.N, aSl 1 false aInts c.Gen]]⟩) ?_ ?_
 ·refine A_E ?_
  refine A_A rfl (A_B runUnderlying69 rfl sizeOf3 (by decide) rfl) ?_
  refine A_A rfl (A_L (k := 0) isAgg3 rfl rfl rfl) ?_
  refine A_A rfl (A_p rfl rfl) ?_
  refine emm rfl ?_
  refine ent_guardXDf rfl rfl rfl rfl (fun hg13 => ?_) (fun hg13 => ?_)
  ·refine A_A rfl (A_B runUnderlying69 rfl sizeOf3 (by decide) rfl) ?_
   refine A_I rfl rfl rfl rfl (decide_eq_false hg13) ?_
   refine A_A rfl (A_L (k := 0) isAgg3 rfl rfl rfl) ?_
   refine A_I rfl rfl rfl rfl (decide_eq_false hg13) ?_
   refine A_A rfl (ok_gtr rfl rfl) ?_
   refine A_A rfl (A_t rfl (decide_eq_false hg13) rfl) ?_
   refine A_O ?_
   exact A_G ⟨rfl, A_U (dq_Q ((or_iff_right hg13).trans Iff.rfl)), trivial⟩ rfl
  refine A_D rfl rfl rfl rfl (decide_eq_true hg13) ?_
  refine A_D rfl rfl rfl rfl (decide_eq_true hg13) ?_
  refine A_A rfl (A_h rfl (decide_eq_true hg13) rfl) ?_
  refine A_O ?_
  exact A_G ⟨rfl, A_U (dq_T rfl (Or.inl hg13)), trivial⟩ rfl
 refine A_s K7 ?_
 refine A_F rfl (fun h17 => ?_) (fun h17 => ?_)
 ·refine esk rfl ?_
  refine A_S ?_
  exact retR1 (.inr rfl) results55 (A_N (A_W rfl (A_Z (by unfold codE; rw [if_pos hF, if_pos h17]))))
 refine esp K6 ?_
 refine esr rfl fun _ K9 => ?_
 refine A_A rfl (A_B runUnderlying69 rfl sizeOf24 (by decide) rfl) ?_
 refine A_A rfl (A_V (k := 0) ti24 rfl rfl rfl) ?_
 refine A_A rfl (A_B runUnderlying69 rfl sizeOf3 (by decide) rfl) ?_
 refine A_A rfl (A_L (k := 0) isAgg3 rfl rfl rfl) ?_
 refine A_A rfl (A_B runUnderlying69 rfl sizeOf42 (by decide) rfl) ?_
 refine A_A rfl (A_L (k := 0) isAgg42 rfl rfl rfl) ?_
 refine A_A rfl (ok_build st120 (As := [aInt 0, aEx (.slice none 0 0)]) z120 (⟨0, 1, rfl, .inl ⟨rfl, _, rfl, (A_M _), rfl, ⟨1, 1, rfl, .inl ⟨rfl, _, rfl, A_i, rfl, rfl⟩⟩⟩⟩)) ?_
 refine A_A rfl (ok_callA (rspCheck_ok c.F c.m) ⟨arg_a rfl (cv_id sub_refl), arg_a rfl (cv_agg ⟨A_Z (by first | rfl | assumption | omega | (simp_all; done) | grind), cv_sl sub_refl (by first | rfl | assumption | omega | (simp_all; done) | grind), trivial⟩), trivial⟩) ?_
 refine emm rfl ?_
 refine enk K9 ?_
 refine A_S ?_
 exact retR1 (.inr rfl) results55 (A_N (A_W rfl (A_Z (by unfold codE; rw [if_pos hF, if_neg h17]))))

theorem rList_ok (f : Fld) (l : List Int) (n : Int)  : Ctr Try.prog 126 [aFld f, aSl 1 false aInt l, aInt n] (aInt (lisE f l n)) := by
 refine ctr_of Try.call126 func126 rfl rfl ?_
 intro w O
 refine A_f 0 2 rfl rfl (fun hlen0_2 => ?_)
 refine ent_len 1 rfl (fun hlen1 => ?_)
 refine esr rfl fun _ K1 => ?_
 refine A_o rfl rfl (AllOne.mem ⟨(A_M _), (A_M _), A_i, trivial⟩) (fun b3_1 => ?_)
 refine emm rfl ?_
 refine enk K1 ?_
 refine A_C fun _ K2 => ?_
 refine esr rfl fun _ K3 => ?_
 refine A_A rfl (A_l rfl runUnderlying22 rfl) ?_
 refine emm rfl ?_
 refine A_A rfl (ok_neq rfl rfl) ?_
 refine enk K3 ?_
 refine A_F rfl (fun h10 => ?_) (fun h10 => ?_)
 ·refine esk rfl ?_
  refine A_S ?_
  exact retR1 (.inr rfl) results126 (A_N (A_W rfl (A_Z (by unfold lisE; rw [if_pos h10]))))
 refine esp K2 ?_
 refine esr rfl fun _ K5 => ?_
 refine A_A rfl (A_V (k := 0) ti24 rfl rfl rfl) ?_
 refine emm rfl ?_
 refine A_A rfl (A_Y (rEntries_ok f l) rfl) ?_
 refine emm rfl ?_
 refine enk K5 ?_
 refine A_S ?_
 exact retR1 (.inr rfl) results126 (A_N (A_W rfl (A_Z (by unfold lisE; rw [if_neg h10]))))

theorem rWord_ok (c : Cod) (x : List Int)  : Ctr Try.prog 92 [aCod c, aSl 1 false aInt x] (aInt (wrdE c x)) := by
 refine ctr_of Try.call92 func92 rfl rfl ?_
 intro w O
 refine A_f 0 2 rfl rfl (fun hlen0_2 => ?_)
 refine A_f 0 4 rfl rfl (fun hlen0_4 => ?_)
 refine ent_len 1 rfl (fun hlen1 => ?_)
 refine esr rfl fun _ K1 => ?_
 refine A_o rfl rfl (AllOne.mem ⟨(A_M _), (A_M _), A_i, (A_M _), A_i, trivial⟩) (fun b2_1 => ?_)
 refine emm rfl ?_
 refine enk K1 ?_
 refine esr rfl fun _ K2 => ?_
 refine A_A rfl (A_V (k := 0) ti69 rfl rfl rfl) ?_
 refine A_A rfl (A_Y (rcCheck_ok c) rfl) ?_
 refine emm rfl ?_
 refine enk K2 ?_
 refine A_C fun _ K3 => ?_
 refine esr rfl fun _ K4 => ?_
 refine A_A rfl (ok_eql rfl rfl) ?_
 refine enk K4 ?_
 refine ent_cut (⟨[(5, aInt (wrdE c x))], [oBox b2_1 69 [aInt c.F.P, aInt c.F.M, aSl 1 false aInt c.F.mod, aInt c.N, aSl 1 false aInts c.Gen]]⟩) ?_ ?_
 ·refine A_F rfl (fun h9 => ?_) (fun h9 => ?_)
  ·refine A_E ?_
   refine A_A rfl (A_B runUnderlying69 rfl sizeOf24 (by decide) rfl) ?_
   refine A_A rfl (A_V (k := 0) ti24 rfl rfl rfl) ?_
   refine emm rfl ?_
   refine A_A rfl (A_B runUnderlying69 rfl sizeOf3 (by decide) rfl) ?_
   refine A_A rfl (A_L (k := 0) isAgg3 rfl rfl rfl) ?_
   refine A_A rfl (A_Y (rList_ok c.F x c.N) rfl) ?_
   refine emm rfl ?_
   refine A_O ?_
   exact A_G ⟨A_P (A_c (show lisE c.F x c.N = wrdE c x by unfold wrdE; first | (rw [if_pos h9]) | (rw [if_neg h9]))), trivial⟩ rfl
  refine ent_skip ?_
  exact A_G ⟨A_P (A_c (show codE c = wrdE c x by unfold wrdE; first | (rw [if_pos h9]) | (rw [if_neg h9]))), trivial⟩ rfl
 refine A_s K3 ?_
 refine esk rfl ?_
 refine A_S ?_
 exact retR1 (.inr rfl) results92 (A_N (A_W rfl (A_Z (by rfl))))

theorem rPiv_ok (X : List (List Int)) (hx : X.length <= 1000000) (hr : ∀ i : Int, 0 <= i -> i < X.length -> (ix [] X i).length <= 1000000) : Ctr Try.prog 144 [aSl 1 false aInts X] (aSl 1 false aInt (pvL X)) := by
 refine ctr_of Try.call144 func144 rfl rfl ?_
 intro w O
 refine ent_len 0 rfl (fun hlen0 => ?_)
 refine esk rfl ?_
 refine esk rfl ?_
 refine A_C fun _ K3 => ?_
 refine esk rfl ?_
 refine A_H ?_
 refine ent_open 3 1 false aInt (fun _ => rfl) ?_
 refine A_a (fun (ss : Int × Option Nat × Nat) => match ss with | (i, rr2, cc2) => (⟨[(0, aSl 1 false aInts X), (3, aEx (vec rr2 ((mapR (fun z => ld (ix [] X z)) i).length) cc2)), (4, aInt i)], [oVec rr2 cc2 3 1 false aInt (mapR (fun z => ld (ix [] X z)) i)]⟩ : St)) (fun (ss : Int × Option Nat × Nat) => match ss with | (i, rr2, cc2) => (0 <= i) /\ (i <= X.length)) (fun (ss : Int × Option Nat × Nat) => match ss with | (i, rr2, cc2) => (X.length - i).toNat) (0, none, 0) ⟨(by first | rfl | assumption | omega | (simp_all; done) | grind), (by first | rfl | assumption | omega | (simp_all; done) | grind)⟩ (A_G ⟨rfl, A_P ((show aEx (vec none ([] : List _).length 0) = aEx (vec none ((mapR (fun z => ld (ix [] X z)) (0 : Int)).length) 0) from av_vec (congrArg List.length (show mapR (fun z => ld (ix [] X z)) (0 : Int) = [] by rfl).symm))), A_P (A_c (show 0 = (0 : Int) by first | rfl | assumption | omega | (simp_all; done) | grind)), trivial⟩ (A_J (A_g (show mapR (fun z => ld (ix [] X z)) (0 : Int) = [] by rfl)) (rfl))) ?_
 rintro ⟨i, rr2, cc2⟩ ⟨h0, h1⟩
 show Ent _ ⟨_, [_]⟩ _
 have lmr := A_m (fun z => ld (ix [] X z)) i
 refine A_C fun _ K5 => ?_
 refine esr rfl fun _ K6 => ?_
 refine A_A rfl (A_l rfl runUnderlying42 rfl) ?_
 refine A_A rfl (A_p rfl rfl) ?_
 refine enk K6 ?_
 refine A_F rfl (fun h9 => ?_) (fun h9 => ?_)
 ·refine esp K5 ?_
  refine A_C fun _ K7 => ?_
  refine A_H ?_
  refine esk rfl ?_
  refine A_C fun _ K9 => ?_
  refine A_H ?_
  refine A_a (fun (p : Int) => (⟨[(0, aSl 1 false aInts X), (3, aEx (vec rr2 ((mapR (fun z => ld (ix [] X z)) i).length) cc2)), (4, aInt i), (5, aInt p)], [oVec rr2 cc2 3 1 false aInt (mapR (fun z => ld (ix [] X z)) i)]⟩ : St)) (fun (p : Int) => (0 <= p) /\ (p <= (ix [] X i).length) /\ (∀ z : Int, 0 <= z -> z < p -> ix 0 (ix [] X i) z = 0)) (fun (p : Int) => ((ix [] X i).length - p).toNat) 0 ⟨(by first | rfl | assumption | omega | (simp_all; done) | grind), (by first | rfl | assumption | omega | (simp_all; done) | grind), (fun z z0 z1 => by omega)⟩ (A_G ⟨rfl, rfl, rfl, A_P (A_c (show 0 = (0 : Int) by first | rfl | assumption | omega | (simp_all; done) | grind)), trivial⟩ rfl) ?_
  rintro p ⟨p0, p1, pz⟩
  show Ent _ ⟨_, [_]⟩ _
  have hrl := hr i h0 (by omega)
  refine A_C fun _ K10 => ?_
  refine A_C fun _ K11 => ?_
  refine ent_cut (⟨[(0, aSl 1 false aInts X), (3, aEx (vec rr2 ((mapR (fun z => ld (ix [] X z)) i).length) cc2)), (4, aInt i), (5, aInt p), (28, aBool (decide ((p < (↑(ix [] X i).length : Int)) /\ ((ix 0 (ix [] X i) p) = 0))))], [oVec rr2 cc2 3 1 false aInt (mapR (fun z => ld (ix [] X z)) i)]⟩) ?_ ?_
  ·refine A_E ?_
   refine emm rfl ?_
   refine A_A rfl (A_X [] sl42 rfl rfl (by omega) (by omega)) ?_
   refine A_A rfl (A_Q ti22 rfl) ?_
   refine A_A rfl (A_l rfl runUnderlying22 rfl) ?_
   refine A_A rfl (A_p rfl rfl) ?_
   refine emm rfl ?_
   refine ent_guardXDt rfl rfl rfl rfl (fun hg19 => ?_) (fun hg19 => ?_)
   ·refine emm rfl ?_
    refine A_I rfl rfl rfl rfl (decide_eq_true hg19) ?_
    refine emm rfl ?_
    refine A_I rfl rfl rfl rfl (decide_eq_true hg19) ?_
    refine A_A rfl (A_X [] sl42 rfl rfl (by omega) (by omega)) ?_
    refine A_I rfl rfl rfl rfl (decide_eq_true hg19) ?_
    refine A_A rfl (A_Q ti22 rfl) ?_
    refine A_I rfl rfl rfl rfl (decide_eq_true hg19) ?_
    refine emm rfl ?_
    refine A_I rfl rfl rfl rfl (decide_eq_true hg19) ?_
    refine A_A rfl (A_X 0 sl22 rfl rfl (by omega) (by omega)) ?_
    refine A_I rfl rfl rfl rfl (decide_eq_true hg19) ?_
    refine A_A rfl (A_Q ti3 rfl) ?_
    refine A_I rfl rfl rfl rfl (decide_eq_true hg19) ?_
    refine A_A rfl (ok_eql rfl rfl) ?_
    refine A_A rfl (A_h rfl (decide_eq_true hg19) rfl) ?_
    refine A_O ?_
    exact A_G ⟨rfl, rfl, rfl, rfl, A_U (dq_Q ((and_iff_right hg19).trans Iff.rfl)), trivial⟩ rfl
   refine A_D rfl rfl rfl rfl (decide_eq_false hg19) ?_
   refine A_D rfl rfl rfl rfl (decide_eq_false hg19) ?_
   refine A_D rfl rfl rfl rfl (decide_eq_false hg19) ?_
   refine A_D rfl rfl rfl rfl (decide_eq_false hg19) ?_
   refine A_D rfl rfl rfl rfl (decide_eq_false hg19) ?_
   refine A_D rfl rfl rfl rfl (decide_eq_false hg19) ?_
   refine A_D rfl rfl rfl rfl (decide_eq_false hg19) ?_
   refine A_A rfl (A_t rfl (decide_eq_false hg19) rfl) ?_
   refine A_O ?_
   exact A_G ⟨rfl, rfl, rfl, rfl, A_U (dq_F rfl (fun h => hg19 h.1)), trivial⟩ rfl
  refine A_s K11 ?_
  refine A_F rfl (fun h28 => ?_) (fun h28 => ?_)
  ·refine esp K10 ?_
   refine A_H ?_
   refine A_E ?_
   refine emm rfl ?_
   refine A_A rfl (A_j rfl rfl (by omega) (by omega)) ?_
   refine emm rfl ?_
   refine A_O ?_
   refine A_T (s := (p)) (p + 1) ⟨(by first | rfl | assumption | omega | (simp_all; done) | grind), (by omega), (fun z z0 z1 => by by_cases hz : z = p; (rw [hz]; exact h28.2); exact pz z z0 (by omega))⟩ (by first | omega | (dsimp only; omega)) (A_G ⟨rfl, rfl, rfl, rfl, trivial⟩ rfl)
  have hld := ld_eq p0 p1 pz h28
  refine A_b ?_
  refine A_s K9 ?_
  refine A_E ?_
  refine emm rfl ?_
  refine ent_appendL (k := 0) (enc := aInt) (y := p) rfl rfl vt22 rfl rfl (by first | rfl | assumption | (simp; done) | (simp_all; done) | omega) rfl ((A_w (A_M _))) (by first | omega | (simp only [List.length_append, List.length_cons, List.length_nil]; omega) | (simp; omega) | (simp; done)) (by first | omega | (simp only [List.length_append, List.length_cons, List.length_nil]; omega) | (simp; omega) | (simp; done)) (by decide) (fun b34_3 c34_3 => ?_)
  refine emm rfl ?_
  refine enk K7 ?_
  refine A_E ?_
  refine emm rfl ?_
  refine A_A rfl (A_j rfl rfl (by omega) (by omega)) ?_
  refine emm rfl ?_
  refine A_O ?_
  refine A_T (s := (i, rr2, cc2)) (i + 1, (some b34_3), c34_3) ⟨(by first | rfl | assumption | omega | (simp_all; done) | grind), (by first | rfl | assumption | omega | (simp_all; done) | grind)⟩ (by first | omega | (dsimp only; omega)) (A_G ⟨rfl, A_P (av_vec (congrArg List.length (show mapR (fun z => ld (ix [] X z)) (i + 1) = (mapR (fun z => ld (ix [] X z)) i) ++ [p] by rw [<- hld]; exact mapR_succ _ h0).symm)), rfl, trivial⟩ (A_J (A_g (show mapR (fun z => ld (ix [] X z)) (i + 1) = (mapR (fun z => ld (ix [] X z)) i) ++ [p] by rw [<- hld]; exact mapR_succ _ h0)) (rfl)))
 refine A_b ?_
 refine A_s K3 ?_
 refine esk rfl ?_
 refine A_S ?_
 exact retR1 (.inr rfl) results144 (A_N (A_W rfl (cv_vec (k := 0) (off_x rfl) (by first | rfl | assumption | (simp; done) | (simp_all; done) | omega) (by unfold pvL; congr 1; omega))))

theorem rPivC_ok (c : Cod) (hk : COk c) : Ctr Try.prog 144 [aSl 1 false aInts c.Gen] (aSl 1 false aInt (canP c.F c.m)) := by
 have h := rPiv_ok c.Gen (by have := hk.len; omega) (fun i i0 i1 => by have := hk.row i0 i1; have := hk.n64; omega)
 rw [hk.pvL_can] at h
 exact h

theorem rZero_ok (n : Nat) (hn : n <= 1000000) : Ctr Try.prog 127 [aSl 1 false aInt (List.replicate n 0)] (aBool true) := by
 refine ctr_of Try.call127 func127 rfl rfl ?_
 intro w O
 refine ent_len 0 rfl (fun hlen0 => ?_)
 refine esk rfl ?_
 refine A_C fun _ K2 => ?_
 refine esk rfl ?_
 refine A_H ?_
 refine A_a (fun (i : Int) => (⟨[(0, aSl 1 false aInt (List.replicate n 0)), (3, aInt i)], []⟩ : St)) (fun (i : Int) => (0 <= i) /\ (i <= n)) (fun (i : Int) => ((n : Int) - i).toNat) 0 ⟨(by first | rfl | assumption | omega | (simp_all; done) | grind), (by first | rfl | assumption | omega | (simp_all; done) | grind)⟩ (A_G ⟨rfl, A_P (A_c (show 0 = (0 : Int) by first | rfl | assumption | omega | (simp_all; done) | grind)), trivial⟩ rfl) ?_
 rintro i ⟨h0, h1⟩
 show Ent _ ⟨_, []⟩ _
 refine A_C fun _ K4 => ?_
 refine esr rfl fun _ K5 => ?_
 refine A_A rfl (A_l rfl runUnderlying22 rfl) ?_
 refine A_A rfl (A_p rfl rfl) ?_
 refine enk K5 ?_
 refine A_F rfl (fun h7 => ?_) (fun h7 => ?_)
 ·refine esp K4 ?_
  refine A_C fun _ K6 => ?_
  refine A_H ?_
  refine esr rfl fun _ K7 => ?_
  refine A_A rfl (A_X 0 sl22 rfl rfl (by omega) (by omega)) ?_
  refine A_A rfl (A_Q ti3 rfl) ?_
  refine A_A rfl (ok_neq rfl rfl) ?_
  refine enk K7 ?_
  refine A_F rfl (fun h14 => ?_) (fun h14 => ?_)
  ·exact absurd (ix_zeros n i) h14
  refine esp K6 ?_
  refine A_E ?_
  refine emm rfl ?_
  refine A_A rfl (A_j rfl rfl (by omega) (by omega)) ?_
  refine emm rfl ?_
  refine A_O ?_
  refine A_T (s := (i)) (i + 1) ⟨(by first | rfl | assumption | omega | (simp_all; done) | grind), (by simp at h7; omega)⟩ ((by simp at h7; omega)) (A_G ⟨rfl, rfl, trivial⟩ rfl)
 refine A_b ?_
 refine A_s K2 ?_
 refine esk rfl ?_
 refine A_S ?_
 exact retR1 (.inr rfl) results127 (A_N (A_W rfl (cv_bool (by rfl))))

theorem rRest_ok (c : Cod) (u : List Int) (hk : COk c) (hl : (u.length : Int) = c.N) (ho : ¬ outF c.F u) : Ctr Try.prog 128 [aFld c.F, aSl 1 false aInts c.Gen, aSl 1 false aInt u] (aSl 1 false aInt (restC c u c.Gen.length)) := by
 have hn64 := hk.n64
 have hn1 := hk.n1
 have hln := hk.len
 have hpl := hk.plen
 refine ctr_of Try.call128 func128 rfl rfl ?_
 intro w O
 refine A_f 0 2 rfl rfl (fun hlen0_2 => ?_)
 refine ent_len 1 rfl (fun hlen1 => ?_)
 refine ent_len 2 rfl (fun hlen2 => ?_)
 refine esr rfl fun _ K1 => ?_
 refine A_o rfl rfl (AllOne.mem ⟨(A_M _), (A_M _), A_i, trivial⟩) (fun b3_1 => ?_)
 refine emm rfl ?_
 refine enk K1 ?_
 refine esr rfl fun _ K2 => ?_
 refine A_A rfl (A_Y (rPivC_ok c hk) rfl) ?_
 refine emm rfl ?_
 refine enk K2 ?_
 refine esr rfl fun _ K3 => ?_
 refine ent_buildN aInt [] rfl vt22 (by decide) (rfl) rfl (fun b12_2 => ?_)
 refine emm rfl ?_
 refine ent_appendS (k := 0) rfl vt22 rfl rfl (by first | rfl | assumption | (simp; done) | (simp_all; done) | omega) rfl (cv_id sub_refl) (by first | omega | (simp only [List.length_append, List.length_cons, List.length_nil]; omega) | (simp; omega)) (by first | omega | (simp only [List.length_append, List.length_cons, List.length_nil]; omega) | (simp; omega)) (fun r14_2 cr14_2 => ?_)
 refine emm rfl ?_
 refine enk K3 ?_
 refine A_C fun _ K4 => ?_
 refine A_C fun _ K5 => ?_
 refine ent_give 0 8 rfl (cv_vec (k := 0) (off_erase rfl) (by first | rfl | assumption | (simp; done) | (simp_all; done) | omega) rfl) ?_
 refine A_E ?_
 refine emm rfl ?_
 refine enk K5 ?_
 refine A_H ?_
 refine A_a (fun (i : Int) => (⟨[(1, aSl 1 false aInts c.Gen), (2, aSl 1 false aInt u), (3, aEx (.pointer (some ⟨b3_1, 0, none⟩))), (7, aSl 1 false aInt (canP c.F c.m)), (8, aSl 1 false aInt (restC c u i.toNat)), (9, aInt i)], [oBox b3_1 24 [aInt c.F.P, aInt c.F.M, aSl 1 false aInt c.F.mod]]⟩ : St)) (fun (i : Int) => (0 <= i) /\ (i <= c.Gen.length)) (fun (i : Int) => (c.Gen.length - i).toNat) 0 ⟨(by first | rfl | assumption | omega | (simp_all; done) | grind), (by first | rfl | assumption | omega | (simp_all; done) | grind)⟩ (A_G ⟨rfl, rfl, rfl, rfl, A_P (av_sl (show [] ++ u = restC c u (0 : Int).toNat by rfl)), A_P (A_c (show 0 = (0 : Int) by first | rfl | assumption | omega | (simp_all; done) | grind)), trivial⟩ rfl) ?_
 rintro i ⟨h0, h1⟩
 show Ent _ ⟨_, [_]⟩ _
 have lrc := length_restC c u i.toNat
 refine A_C fun _ K6 => ?_
 refine esr rfl fun _ K7 => ?_
 refine A_A rfl (A_l rfl runUnderlying42 rfl) ?_
 refine A_A rfl (A_p rfl rfl) ?_
 refine enk K7 ?_
 refine A_F rfl (fun h18 => ?_) (fun h18 => ?_)
 ·have hrg := hk.canf.rng i h0 (by omega)
  have e3 : c.m.cols = c.N := rfl
  have hrw := hk.row h0 h18
  refine esp K6 ?_
  refine A_C fun _ K8 => ?_
  refine A_H ?_
  refine A_u 17 mixed (by kernel_rfl) (by kernel_rfl) (by kernel_rfl) ?_
  refine dw_o rfl (A_V (k := 0) ti24 rfl rfl rfl) ?_
  refine dw_o rfl (A_K rfl) ?_
  refine dw_o rfl (A_V (k := 0) ti24 rfl rfl rfl) ?_
  refine dw_o rfl (A_K rfl) ?_
  refine dw_o rfl (A_K rfl) ?_
  refine dw_o rfl (A_K rfl) ?_
  refine dw_o rfl (A_X 0 sl22 rfl rfl (by omega) (by omega)) ?_
  refine dw_o rfl (A_Q ti3 rfl) ?_
  refine dw_o rfl (A_X 0 sl22 rfl rfl (by omega) (by omega)) ?_
  refine dw_o rfl (A_Q ti3 rfl) ?_
  refine dw_o rfl (A_Y (rNeg_ok c.F (ix 0 u (ix 0 (canP c.F c.m) i)) hk.fld.1) rfl) ?_
  refine dw_o rfl (A_K rfl) ?_
  refine dw_o rfl (A_K rfl) ?_
  refine dw_o rfl (A_X [] sl42 rfl rfl (by omega) (by omega)) ?_
  refine dw_o rfl (A_Q ti22 rfl) ?_
  refine dw_o rfl (A_Y (CtrF.ctr (CtrF.sl (rAddTo_ok c.F (restC c u i.toNat) (negF c.F (ix 0 u (ix 0 (canP c.F c.m) i))) (ix [] c.Gen i) hk.fld.1 (by omega) (by omega)))) rfl) ?_
  refine dw_o rfl (ok_assign rfl) ?_
  refine dw_nil ?_
  refine enk K8 ?_
  refine A_E ?_
  refine emm rfl ?_
  refine A_A rfl (A_j rfl rfl (by omega) (by omega)) ?_
  refine emm rfl ?_
  refine A_O ?_
  refine A_T (s := (i)) (i + 1) ⟨(by first | rfl | assumption | omega | (simp_all; done) | grind), (by first | rfl | assumption | omega | (simp_all; done) | grind)⟩ (by first | omega | (dsimp only; omega)) (A_G ⟨rfl, rfl, rfl, rfl, A_P (av_sl (show addTo c.F (restC c u i.toNat) (negF c.F (ix 0 u (ix 0 (canP c.F c.m) i))) (ix [] c.Gen i) = restC c u (i + 1).toNat by exact (restC_succ c u h0).symm)), rfl, trivial⟩ rfl)
 refine A_b ?_
 refine A_s K4 ?_
 refine esk rfl ?_
 refine A_S ?_
 exact retR1 (.inr rfl) results128 (A_N (A_W rfl (cv_sl sub_x (by rw [show i.toNat = c.Gen.length by omega]))))

theorem rRestZ_ok (c : Cod) (u : List Int) (hk : COk c) (hl : (u.length : Int) = c.N) (ho : ¬ outF c.F u) (hz : restC c u c.Gen.length = List.replicate c.N.toNat 0) : Ctr Try.prog 128 [aFld c.F, aSl 1 false aInts c.Gen, aSl 1 false aInt u] (aSl 1 false aInt (List.replicate c.N.toNat 0)) := by
 have h := rRest_ok c u hk hl ho
 rw [hz] at h
 exact h

theorem rInC_ok (c : Cod) (u : List Int) (hk : COk c) (hl : (u.length : Int) = c.N) (ho : ¬ outF c.F u) (hz : restC c u c.Gen.length = List.replicate c.N.toNat 0) : Ctr Try.prog 93 [aFld c.F, aSl 1 false aInts c.Gen, aSl 1 false aInt u] (aBool true) := by
 have hn64 := hk.n64
 refine ctr_of Try.call93 func93 rfl rfl ?_
 intro w O
 refine A_f 0 2 rfl rfl (fun hlen0_2 => ?_)
 refine ent_len 1 rfl (fun hlen1 => ?_)
 refine ent_len 2 rfl (fun hlen2 => ?_)
 refine esr rfl fun _ K1 => ?_
 refine A_o rfl rfl (AllOne.mem ⟨(A_M _), (A_M _), A_i, trivial⟩) (fun b3_1 => ?_)
 refine emm rfl ?_
 refine enk K1 ?_
 refine esr rfl fun _ K2 => ?_
 refine A_A rfl (A_V (k := 0) ti24 rfl rfl rfl) ?_
 refine emm rfl ?_
 refine A_A rfl (A_Y (rRestZ_ok c u hk hl ho hz) rfl) ?_
 refine A_A rfl (A_Y (rZero_ok c.N.toNat (by omega)) rfl) ?_
 refine emm rfl ?_
 refine enk K2 ?_
 refine A_S ?_
 exact retR1 (.inr rfl) results93 (A_N (A_W rfl (cv_bool (by rfl))))

theorem rHas_ok (c : Cod) (u : List Int) (hw : wrdE c u = 0) (hz : restC c u c.Gen.length = List.replicate c.N.toNat 0) : Ctr Try.prog 57 [aCod c, aSl 1 false aInt u] (aTup [aBool true, aInt 0]) := by
 have hwz := wrdE_zero.1 hw
 refine ctr_of Try.call57 func57 rfl rfl ?_
 intro w O
 refine A_f 0 2 rfl rfl (fun hlen0_2 => ?_)
 refine A_f 0 4 rfl rfl (fun hlen0_4 => ?_)
 refine ent_len 1 rfl (fun hlen1 => ?_)
 refine esr rfl fun _ K1 => ?_
 refine A_o rfl rfl (AllOne.mem ⟨(A_M _), (A_M _), A_i, (A_M _), A_i, trivial⟩) (fun b2_1 => ?_)
 refine emm rfl ?_
 refine enk K1 ?_
 refine esr rfl fun _ K2 => ?_
 refine A_A rfl (A_V (k := 0) ti69 rfl rfl rfl) ?_
 refine emm rfl ?_
 refine A_A rfl (A_Y (rWord_ok c u) rfl) ?_
 refine emm rfl ?_
 refine enk K2 ?_
 refine A_C fun _ K3 => ?_
 refine esr rfl fun _ K4 => ?_
 refine A_A rfl (ok_neq rfl rfl) ?_
 refine enk K4 ?_
 refine A_F rfl (fun h11 => ?_) (fun h11 => ?_)
 ·exact absurd hw h11
 refine esp K3 ?_
 refine esr rfl fun _ K5 => ?_
 refine A_A rfl (A_B runUnderlying69 rfl sizeOf24 (by decide) rfl) ?_
 refine A_A rfl (A_V (k := 0) ti24 rfl rfl rfl) ?_
 refine A_A rfl (A_B runUnderlying69 rfl sizeOf42 (by decide) rfl) ?_
 refine A_A rfl (A_L (k := 0) isAgg42 rfl rfl rfl) ?_
 refine emm rfl ?_
 refine A_A rfl (A_Y (rInC_ok c u hwz.1 hwz.2.1 hwz.2.2 hz) rfl) ?_
 refine emm rfl ?_
 refine enk K5 ?_
 refine A_S ?_
 exact retR2 (.inr rfl) results57 (A_N (A_W rfl (cv_bool (by rfl)))) (A_N (A_W rfl (A_Z (by rfl))))

theorem rOf_ok (c : Cod) (m : List Int) (hk : COk c) : Ctr Try.prog 56 [aCod c, aSl 1 false aInt m] (aSl 1 false aInt (comb c.F (fillR (fun z => inF c.F (ix 0 m z)) 0 c.Gen.length (min (c.Gen.length : Int) m.length)) c.Gen c.N)) := by
 have hn1 := hk.n1
 have hn64 := hk.n64
 have hln := hk.len
 have hqb := hk.fld.1.bd
 have lgl : (c.Gen.length : Int) <= 256 := by omega
 refine ctr_of Try.call56 func56 rfl rfl ?_
 intro w O
 refine A_f 0 2 rfl rfl (fun hlen0_2 => ?_)
 refine A_f 0 4 rfl rfl (fun hlen0_4 => ?_)
 refine ent_len 1 rfl (fun hlen1 => ?_)
 refine esr rfl fun _ K1 => ?_
 refine A_o rfl rfl (AllOne.mem ⟨(A_M _), (A_M _), A_i, (A_M _), A_i, trivial⟩) (fun b2_1 => ?_)
 refine emm rfl ?_
 refine enk K1 ?_
 refine esr rfl fun _ K2 => ?_
 refine A_A rfl (A_B runUnderlying69 rfl sizeOf42 (by decide) rfl) ?_
 refine A_A rfl (A_L (k := 0) isAgg42 rfl rfl rfl) ?_
 refine A_A rfl (A_l rfl runUnderlying42 rfl) ?_
 refine ent_make aInt 0 rfl vt22 rfl rfl (by omega) (by omega) (by omega) (fun _ _ => rfl) (AllV.mem ⟨rfl, trivial⟩) (fun b10_2 => ?_)
 refine emm rfl ?_
 refine enk K2 ?_
 refine A_C fun _ K3 => ?_
 refine esk rfl ?_
 refine A_H ?_
 refine A_a (fun (i : Int) => (⟨[(1, aSl 1 false aInt m), (2, aEx (.pointer (some ⟨b2_1, 0, none⟩))), (5, aEx (vec (some b10_2) (((↑c.Gen.length : Int)).toNat) (((↑c.Gen.length : Int)).toNat))), (6, aInt i)], [oVec (some b10_2) (((↑c.Gen.length : Int)).toNat) 3 1 false aInt (fillR (fun z => inF c.F (ix 0 m z)) 0 c.Gen.length i), oBox b2_1 69 [aInt c.F.P, aInt c.F.M, aSl 1 false aInt c.F.mod, aInt c.N, aSl 1 false aInts c.Gen]]⟩ : St)) (fun (i : Int) => (0 <= i) /\ (i <= c.Gen.length) /\ (i <= m.length)) (fun (i : Int) => (c.Gen.length - i).toNat) 0 ⟨(by first | rfl | assumption | omega | (simp_all; done) | grind), (by first | rfl | assumption | omega | (simp_all; done) | grind), (by first | rfl | assumption | omega | (simp_all; done) | grind)⟩ (A_G ⟨rfl, rfl, rfl, A_P (A_c (show 0 = (0 : Int) by first | rfl | assumption | omega | (simp_all; done) | grind)), trivial⟩ (A_J (A_g (show fillR (fun z => inF c.F (ix 0 m z)) 0 c.Gen.length (0 : Int) = List.replicate (((↑c.Gen.length : Int)).toNat) 0 by exact fillR_zero _ _ _)) (rfl))) ?_
 rintro i ⟨i0, i1, i2⟩
 show Ent _ ⟨_, [_, _]⟩ _
 have lfl : (fillR (fun z => inF c.F (ix 0 m z)) 0 c.Gen.length i).length = ((c.Gen.length : Int)).toNat := length_fillR _ 0 i0 i1
 refine A_C fun _ K5 => ?_
 refine A_C fun _ K6 => ?_
 refine ent_cut (⟨[(1, aSl 1 false aInt m), (2, aEx (.pointer (some ⟨b2_1, 0, none⟩))), (5, aEx (vec (some b10_2) (((↑c.Gen.length : Int)).toNat) (((↑c.Gen.length : Int)).toNat))), (6, aInt i), (20, aBool (decide ((i < (↑(((↑c.Gen.length : Int)).toNat) : Int)) /\ (i < (↑m.length : Int)))))], [oVec (some b10_2) (((↑c.Gen.length : Int)).toNat) 3 1 false aInt (fillR (fun z => inF c.F (ix 0 m z)) 0 c.Gen.length i), oBox b2_1 69 [aInt c.F.P, aInt c.F.M, aSl 1 false aInt c.F.mod, aInt c.N, aSl 1 false aInts c.Gen]]⟩) ?_ ?_
 ·refine A_E ?_
  refine emm rfl ?_
  refine A_A rfl (ok_lenEx rfl runUnderlying22 rfl) ?_
  refine A_A rfl (A_p rfl rfl) ?_
  refine emm rfl ?_
  refine ent_guardXDt rfl rfl rfl rfl (fun hg15 => ?_) (fun hg15 => ?_)
  ·refine emm rfl ?_
   refine A_I rfl rfl rfl rfl (decide_eq_true hg15) ?_
   refine emm rfl ?_
   refine A_I rfl rfl rfl rfl (decide_eq_true hg15) ?_
   refine A_A rfl (A_l rfl runUnderlying22 rfl) ?_
   refine A_I rfl rfl rfl rfl (decide_eq_true hg15) ?_
   refine A_A rfl (A_p rfl rfl) ?_
   refine A_A rfl (A_h rfl (decide_eq_true hg15) rfl) ?_
   refine A_O ?_
   exact A_G ⟨rfl, rfl, rfl, rfl, A_U (dq_Q ((and_iff_right hg15).trans Iff.rfl)), trivial⟩ rfl
  refine A_D rfl rfl rfl rfl (decide_eq_false hg15) ?_
  refine A_D rfl rfl rfl rfl (decide_eq_false hg15) ?_
  refine A_D rfl rfl rfl rfl (decide_eq_false hg15) ?_
  refine A_A rfl (A_t rfl (decide_eq_false hg15) rfl) ?_
  refine A_O ?_
  exact A_G ⟨rfl, rfl, rfl, rfl, A_U (dq_F rfl (fun h => hg15 h.1)), trivial⟩ rfl
 refine A_s K6 ?_
 refine A_F rfl (fun h20 => ?_) (fun h20 => ?_)
 ·refine esp K5 ?_
  refine A_C fun _ K7 => ?_
  refine A_H ?_
  refine A_u 10 mixed (by kernel_rfl) (by kernel_rfl) (by kernel_rfl) ?_
  refine dw_o rfl (A_K rfl) ?_
  refine dw_o rfl (A_K rfl) ?_
  refine dw_o rfl (A_B runUnderlying69 rfl sizeOf24 (by decide) rfl) ?_
  refine dw_o rfl (A_V (k := 1) ti24 rfl rfl rfl) ?_
  refine dw_o rfl (A_K rfl) ?_
  refine dw_o rfl (A_K rfl) ?_
  refine dw_o rfl (A_X 0 sl22 rfl rfl (by omega) (by omega)) ?_
  refine dw_o rfl (A_Q ti3 rfl) ?_
  refine dw_o rfl (A_Y (rIn_ok c.F (ix 0 m i)) rfl) ?_
  refine dw_o rfl (A_n sl22 rfl rfl (by omega) (by omega)) ?_
  refine dw_nil ?_
  refine ent_storeV (k := 0) (z := inF c.F (ix 0 m i)) ti3 rfl rfl rfl (A_w (A_M _)) (by omega) (by omega) ?_
  refine enk K7 ?_
  refine A_E ?_
  refine emm rfl ?_
  refine A_A rfl (A_j rfl rfl (by omega) (by omega)) ?_
  refine emm rfl ?_
  refine A_O ?_
  refine A_T (s := (i)) (i + 1) ⟨(by first | rfl | assumption | omega | (simp_all; done) | grind), (by first | rfl | assumption | omega | (simp_all; done) | grind), (by first | rfl | assumption | omega | (simp_all; done) | grind)⟩ (by first | omega | (dsimp only; omega)) (A_G ⟨rfl, rfl, rfl, rfl, trivial⟩ (A_J (A_g (show fillR (fun z => inF c.F (ix 0 m z)) 0 c.Gen.length (i + 1) = List.set (fillR (fun z => inF c.F (ix 0 m z)) 0 c.Gen.length i) (i).toNat (inF c.F (ix 0 m i)) by exact (fillR_set (fun z => inF c.F (ix 0 m z)) 0 i0 (by omega)).symm)) (rfl)))
 refine A_b ?_
 refine A_s K3 ?_
 refine A_C fun _ K8 => ?_
 refine ent_give 0 5 rfl (cv_vec (k := 0) (off_erase rfl) (by first | rfl | assumption | (simp; done) | (simp_all; done) | omega) rfl) ?_
 refine A_E ?_
 refine A_A rfl (A_B runUnderlying69 rfl sizeOf24 (by decide) rfl) ?_
 refine A_A rfl (A_V (k := 0) ti24 rfl rfl rfl) ?_
 refine emm rfl ?_
 refine A_A rfl (A_B runUnderlying69 rfl sizeOf42 (by decide) rfl) ?_
 refine A_A rfl (A_L (k := 0) isAgg42 rfl rfl rfl) ?_
 refine A_A rfl (A_B runUnderlying69 rfl sizeOf3 (by decide) rfl) ?_
 refine A_A rfl (A_L (k := 0) isAgg3 rfl rfl rfl) ?_
 refine A_A rfl (A_Y (rCombine_ok c.F (fillR (fun z => inF c.F (ix 0 m z)) 0 c.Gen.length i) c.Gen c.N hk.fld.1 (by omega) (by omega) (fun z z0 z1 => hk.row z0 z1)) rfl) ?_
 refine emm rfl ?_
 refine enk K8 ?_
 refine A_S ?_
 exact retR1 (.inr rfl) results56 (A_N (A_W rfl (cv_sl sub_x (by first | rfl | (rw [show i = min (c.Gen.length : Int) m.length by omega])))))
end Go.Proofs.Ytfjhbdfgbpcchaa

