/-
  Walks of functions of the program and the reference.
-/
import Derived.Test.YtfjhbdfgbpcchaaCjLib
import Derived.Test.YtfjhbdfgbpcchaaV16
import Derived.Test.YtfjhbdfgbpcchaaV17
import Derived.Test.YtfjhbdfgbpcchaaV18
open Go Go.Cw
namespace Go.Proofs.Ytfjhbdfgbpcchaa
open Try
set_option maxRecDepth 100000
set_option linter.unusedVariables false
set_option linter.unusedSimpArgs false

abbrev aMat (m : Mat) : AV := aAgg [aInt m.cols, aRows m.rows]

theorem add_ok (f : Fld) (r : Option Nat) (cap : Nat) (v : List Int) (a : Int) (u : List Int) (hF : FOk f) (hl : u.length = v.length) : CtrW Try.prog 167 [oVec r cap 3 1 false aInt v] [aGF f, aEx (vec r v.length cap), aInt a, aSl 1 false aInt u] (fun (_ : Unit) => True) (fun (_ : Unit) => aAny) (fun (_ : Unit) => [oVec r cap 3 1 false aInt (addTo f v a u)]) := by
 refine ctrW_of Try.call167 func167 rfl rfl ?_
 intro w O
 refine ent_lenP 0 4 rfl rfl (fun hlen0_4 => ?_)
 refine ent_lenP 0 5 rfl rfl (fun hlen0_5 => ?_)
 refine ent_len 3 rfl (fun hlen3 => ?_)
 refine esr rfl fun _ K1 => ?_
 refine A_A rfl (A_l rfl runUnderlying22 rfl) ?_
 refine emm rfl ?_
 refine enk K1 ?_
 refine A_H ?_
 refine A_a (fun (i : Int) => (⟨[(0, aGF f), (1, aEx (vec r v.length cap)), (2, aInt a), (10, aSl 1 false aInt u), (11, aInt (↑u.length : Int)), (12, aInt i)], [oVec r cap 3 1 false aInt (mixL (addTo f v a u) v i)]⟩ : St)) (fun (i : Int) => (0 <= i) /\ (i <= u.length)) (fun (i : Int) => (u.length - i).toNat) 0 ⟨(by first | rfl | assumption | omega | (simp_all; done) | grind), (by first | rfl | assumption | omega | (simp_all; done) | grind)⟩ (A_G ⟨rfl, rfl, rfl, rfl, rfl, A_P (A_c (show 0 = (0 : Int) by first | rfl | assumption | omega | (simp_all; done) | grind)), trivial⟩ (A_J (A_g (show mixL (addTo f v a u) v (0 : Int) = v by exact mixL_zero _ _)) (rfl))) ?_
 rintro i ⟨h0, h1⟩
 show Ent _ ⟨_, [_]⟩ _
 have lm := length_mixL (addTo f v a u) v (i := i) (length_addTo f v a u)
 refine esr rfl fun _ K2 => ?_
 refine A_A rfl (A_p rfl rfl) ?_
 refine enk K2 ?_
 refine A_C fun _ K3 => ?_
 refine A_F rfl (fun h13 => ?_) (fun h13 => ?_)
 ·refine esp K3 ?_
  refine A_C fun _ K4 => ?_
  refine A_H ?_
  refine esr rfl fun _ K5 => ?_
  refine A_A rfl (A_X 0 sl22 rfl rfl (by omega) (by omega)) ?_
  refine A_A rfl (A_Q ti3 rfl) ?_
  refine emm rfl ?_
  refine enk K5 ?_
  refine esr rfl fun _ K6 => ?_
  refine A_A rfl (ok_neq rfl rfl) ?_
  refine enk K6 ?_
  refine A_F rfl (fun h18 => ?_) (fun h18 => ?_)
  ·refine A_u 13 mixed (by kernel_rfl) (by kernel_rfl) (by kernel_rfl) ?_
   refine dw_o rfl (A_K rfl) ?_
   refine dw_o rfl (A_K rfl) ?_
   refine dw_o rfl (A_K rfl) ?_
   refine dw_o rfl (A_K rfl) ?_
   refine dw_o rfl (A_K rfl) ?_
   refine dw_o rfl (ok_indexV0 (k := 0) sl22 rfl rfl (by first | rfl | assumption | (simp; done) | (simp_all; done) | omega) rfl (by omega) (by omega)) ?_
   refine dw_o rfl (ok_loadV0 (k := 0) 0 ti3 rfl rfl (by omega) (by omega)) ?_
   refine dw_o rfl (A_K rfl) ?_
   refine dw_o rfl (A_K rfl) ?_
   refine dw_o rfl (A_K rfl) ?_
   refine dw_o rfl (A_Y (Mul_ok f a (ix 0 u i) (by first | rfl | assumption | omega | (simp_all; done) | grind)) rfl) ?_
   refine dw_o rfl (A_Y (Add_ok f (ix 0 (mixL (addTo f v a u) v i) i) (mulF f a (ix 0 u i)) (by first | rfl | assumption | omega | (simp_all; done) | grind)) rfl) ?_
   refine dw_o rfl (ok_indexV0 (k := 0) sl22 rfl rfl (by first | rfl | assumption | (simp; done) | (simp_all; done) | omega) rfl (by omega) (by omega)) ?_
   refine dw_nil ?_
   refine ent_storeV0 (k := 0) (z := addF f (ix 0 (mixL (addTo f v a u) v i) i) (mulF f a (ix 0 u i))) ti3 rfl rfl rfl (A_w (A_M _)) (by omega) (by omega) ?_
   refine enk K4 ?_
   refine A_E ?_
   refine A_A rfl (A_j rfl rfl (by omega) (by omega)) ?_
   refine emm rfl ?_
   refine A_O ?_
   refine A_T (s := (i)) (i + 1) ⟨(by first | rfl | assumption | omega | (simp_all; done) | grind), (by first | rfl | assumption | omega | (simp_all; done) | grind)⟩ (by first | omega | (dsimp only; omega)) (A_G ⟨rfl, rfl, rfl, rfl, rfl, rfl, trivial⟩ (A_J (A_g (show mixL (addTo f v a u) v (i + 1) = List.set (mixL (addTo f v a u) v i) (i).toNat (addF f (ix 0 (mixL (addTo f v a u) v i) i) (mulF f a (ix 0 u i))) by first | exact (addTo_set f v a u h0 (by omega) h18).symm | exact (addTo_stay f v a u h0 (by omega) (Classical.not_not.1 h18)).symm)) (rfl)))
  refine esp K4 ?_
  refine A_E ?_
  refine A_A rfl (A_j rfl rfl (by omega) (by omega)) ?_
  refine emm rfl ?_
  refine A_O ?_
  refine A_T (s := (i)) (i + 1) ⟨(by first | rfl | assumption | omega | (simp_all; done) | grind), (by first | rfl | assumption | omega | (simp_all; done) | grind)⟩ (by first | omega | (dsimp only; omega)) (A_G ⟨rfl, rfl, rfl, rfl, rfl, rfl, trivial⟩ (A_J (A_g (show mixL (addTo f v a u) v (i + 1) = mixL (addTo f v a u) v i by first | exact (addTo_set f v a u h0 (by omega) h18).symm | exact (addTo_stay f v a u h0 (by omega) (Classical.not_not.1 h18)).symm)) (rfl)))
 refine A_b ?_
 exact retW (.inl rfl) () (trivial) ((show ([oVec r cap 3 1 false aInt (addTo f v a u)] : List Own) = [oVec r cap 3 1 false aInt (mixL (addTo f v a u) v i)] from (A_J (A_g (show addTo f v a u = mixL (addTo f v a u) v i by exact (addTo_all f v a u (by omega)).symm)) (rfl))).symm) (resW0 results167 )

theorem entries_ok (f : Fld) (l : List Int)  : Ctr Try.prog 162 [aGF f, aSl 1 false aInt l] (aInt (entErr f l)) := by
 refine ctr_of Try.call162 func162 rfl rfl ?_
 intro w O
 refine ent_lenP 0 4 rfl rfl (fun hlen0_4 => ?_)
 refine ent_lenP 0 5 rfl rfl (fun hlen0_5 => ?_)
 refine ent_len 1 rfl (fun hlen1 => ?_)
 refine esk rfl ?_
 refine A_C fun _ K2 => ?_
 refine esr rfl fun _ K3 => ?_
 refine A_A rfl (A_l rfl runUnderlying22 rfl) ?_
 refine emm rfl ?_
 refine enk K3 ?_
 refine A_H ?_
 refine A_a (fun (i : Int) => (⟨[(0, aGF f), (7, aSl 1 false aInt l), (8, aInt (↑l.length : Int)), (9, aInt i)], []⟩ : St)) (fun (i : Int) => (0 <= i) /\ (i <= l.length) /\ (¬ outF f (l.take i.toNat))) (fun (i : Int) => (l.length - i).toNat) 0 ⟨(by first | rfl | assumption | omega | (simp_all; done) | grind), (by first | rfl | assumption | omega | (simp_all; done) | grind), (by simp [outF])⟩ (A_G ⟨rfl, rfl, rfl, A_P (A_c (show 0 = (0 : Int) by first | rfl | assumption | omega | (simp_all; done) | grind)), trivial⟩ rfl) ?_
 rintro i ⟨h0, h1, hn⟩
 show Ent _ ⟨_, []⟩ _
 refine esr rfl fun _ K4 => ?_
 refine A_A rfl (A_p rfl rfl) ?_
 refine enk K4 ?_
 refine A_C fun _ K5 => ?_
 refine A_F rfl (fun h10 => ?_) (fun h10 => ?_)
 ·refine esp K5 ?_
  refine A_C fun _ K6 => ?_
  refine A_H ?_
  refine esr rfl fun _ K7 => ?_
  refine A_A rfl (A_X 0 sl22 rfl rfl (by omega) (by omega)) ?_
  refine A_A rfl (A_Q ti3 rfl) ?_
  refine emm rfl ?_
  refine enk K7 ?_
  refine esr rfl fun _ K8 => ?_
  refine A_A rfl (A_Y (Is_ok f (ix 0 l i)) rfl) ?_
  refine A_A rfl (ok_notD rfl) ?_
  refine enk K8 ?_
  refine A_F rfl (fun h16 => ?_) (fun h16 => ?_)
  ·refine esk rfl ?_
   refine A_S ?_
   exact retR1 (.inr rfl) results162 (A_N (A_W rfl (A_Z (by unfold entErr; rw [if_pos (outF_at h0 h10 h16)]))))
  refine esp K6 ?_
  refine A_E ?_
  refine A_A rfl (A_j rfl rfl (by omega) (by omega)) ?_
  refine emm rfl ?_
  refine A_O ?_
  refine A_T (s := (i)) (i + 1) ⟨(by first | rfl | assumption | omega | (simp_all; done) | grind), (by first | rfl | assumption | omega | (simp_all; done) | grind), (outF_succ h0 h10 hn (Classical.not_not.1 h16))⟩ (by first | omega | (dsimp only; omega)) (A_G ⟨rfl, rfl, rfl, rfl, trivial⟩ rfl)
 refine A_b ?_
 refine A_s K2 ?_
 refine esk rfl ?_
 refine A_S ?_
 exact retR1 (.inr rfl) results162 (A_N (A_W rfl (A_Z (by unfold entErr; rw [if_neg (by rw [List.take_of_length_le (by omega)] at hn; exact hn)]))))

theorem mcheck_ok (f : Fld) (m : Mat)  : Ctr Try.prog 158 [aGF f, aMat m] (aInt (matErr f m)) := by
 refine ctr_of Try.call158 func158 rfl rfl ?_
 intro w O
 refine ent_lenP 0 4 rfl rfl (fun hlen0_4 => ?_)
 refine ent_lenP 0 5 rfl rfl (fun hlen0_5 => ?_)
 refine A_f 1 1 rfl rfl (fun hlen1_1 => ?_)
 refine esr rfl fun _ K1 => ?_
 refine A_o rfl rfl (AllOne.mem ⟨(A_M _), A_i, trivial⟩) (fun b3_1 => ?_)
 refine emm rfl ?_
 refine enk K1 ?_
 refine A_C fun _ K2 => ?_
 refine A_C fun _ K3 => ?_
 refine ent_cut (⟨[(0, aGF f), (3, aEx (.pointer (some ⟨b3_1, 0, none⟩))), (23, aBool (decide (((m.cols < 0) \/ (256 < m.cols)) \/ (256 < (↑m.rows.length : Int)))))], [oBox b3_1 120 [aInt m.cols, aSl 1 false aInts m.rows]]⟩) ?_ ?_
 ·refine A_E ?_
  refine A_A rfl (A_B runUnderlying120 rfl sizeOf3 (by decide) rfl) ?_
  refine A_A rfl (A_L (k := 0) isAgg3 rfl rfl rfl) ?_
  refine A_A rfl (A_p rfl rfl) ?_
  refine emm rfl ?_
  refine ent_guardXDf rfl rfl rfl rfl (fun hg13 => ?_) (fun hg13 => ?_)
  ·refine A_A rfl (A_B runUnderlying120 rfl sizeOf3 (by decide) rfl) ?_
   refine A_I rfl rfl rfl rfl (decide_eq_false hg13) ?_
   refine A_A rfl (A_L (k := 0) isAgg3 rfl rfl rfl) ?_
   refine A_I rfl rfl rfl rfl (decide_eq_false hg13) ?_
   refine A_A rfl (ok_gtr rfl rfl) ?_
   refine A_A rfl (A_t rfl (decide_eq_false hg13) rfl) ?_
   refine emm rfl ?_
   refine ent_guardXDf rfl rfl rfl rfl (fun hg18 => ?_) (fun hg18 => ?_)
   ·refine A_A rfl (A_B runUnderlying120 rfl sizeOf42 (by decide) rfl) ?_
    refine A_I rfl rfl rfl rfl (decide_eq_false hg18) ?_
    refine A_A rfl (A_L (k := 0) isAgg42 rfl rfl rfl) ?_
    refine A_I rfl rfl rfl rfl (decide_eq_false hg18) ?_
    refine A_A rfl (A_l rfl runUnderlying42 rfl) ?_
    refine A_I rfl rfl rfl rfl (decide_eq_false hg18) ?_
    refine A_A rfl (ok_gtr rfl rfl) ?_
    refine A_A rfl (A_t rfl (decide_eq_false hg18) rfl) ?_
    refine A_O ?_
    exact A_G ⟨rfl, rfl, A_U (dq_Q ((or_iff_right (fun h => h.elim hg13 hg18)).trans Iff.rfl)), trivial⟩ rfl
   refine A_D rfl rfl rfl rfl (decide_eq_true hg18) ?_
   refine A_D rfl rfl rfl rfl (decide_eq_true hg18) ?_
   refine A_D rfl rfl rfl rfl (decide_eq_true hg18) ?_
   refine A_A rfl (A_h rfl (decide_eq_true hg18) rfl) ?_
   refine A_O ?_
   exact A_G ⟨rfl, rfl, A_U (dq_T rfl (Or.inl (Or.inr hg18))), trivial⟩ rfl
  refine A_D rfl rfl rfl rfl (decide_eq_true hg13) ?_
  refine A_D rfl rfl rfl rfl (decide_eq_true hg13) ?_
  refine A_A rfl (A_h rfl (decide_eq_true hg13) rfl) ?_
  refine emm rfl ?_
  refine A_D rfl rfl rfl rfl rfl ?_
  refine A_D rfl rfl rfl rfl rfl ?_
  refine A_D rfl rfl rfl rfl rfl ?_
  refine A_D rfl rfl rfl rfl rfl ?_
  refine A_A rfl (A_h rfl rfl rfl) ?_
  refine A_O ?_
  exact A_G ⟨rfl, rfl, A_U (dq_T rfl (Or.inl (Or.inl hg13))), trivial⟩ rfl
 refine A_s K3 ?_
 refine A_F rfl (fun h23 => ?_) (fun h23 => ?_)
 ·refine esk rfl ?_
  refine A_S ?_
  exact retR1 (.inr rfl) results158 (A_N (A_W rfl (A_Z (by exact (matErr_shape h23).symm))))
 refine esp K2 ?_
 refine A_C fun _ K5 => ?_
 refine esr rfl fun _ K6 => ?_
 refine A_A rfl (A_B runUnderlying120 rfl sizeOf42 (by decide) rfl) ?_
 refine A_A rfl (A_L (k := 0) isAgg42 rfl rfl rfl) ?_
 refine A_A rfl (A_l rfl runUnderlying42 rfl) ?_
 refine emm rfl ?_
 refine enk K6 ?_
 refine A_H ?_
 refine A_a (fun (i : Int) => (⟨[(0, aGF f), (3, aEx (.pointer (some ⟨b3_1, 0, none⟩))), (25, aSl 1 false aInts m.rows), (26, aInt (↑m.rows.length : Int)), (27, aInt i)], [oBox b3_1 120 [aInt m.cols, aSl 1 false aInts m.rows]]⟩ : St)) (fun (i : Int) => (0 <= i) /\ (i <= m.rows.length) /\ (∀ l ∈ m.rows.take i.toNat, (l.length : Int) = m.cols)) (fun (i : Int) => (m.rows.length - i).toNat) 0 ⟨(by first | rfl | assumption | omega | (simp_all; done) | grind), (by first | rfl | assumption | omega | (simp_all; done) | grind), (by simp)⟩ (A_G ⟨rfl, rfl, rfl, rfl, A_P (A_c (show 0 = (0 : Int) by first | rfl | assumption | omega | (simp_all; done) | grind)), trivial⟩ rfl) ?_
 rintro i ⟨h0, h1, hn⟩
 show Ent _ ⟨_, [_]⟩ _
 refine esr rfl fun _ K7 => ?_
 refine A_A rfl (A_p rfl rfl) ?_
 refine enk K7 ?_
 refine A_C fun _ K8 => ?_
 refine A_F rfl (fun h28 => ?_) (fun h28 => ?_)
 ·refine esp K8 ?_
  refine A_C fun _ K9 => ?_
  refine A_H ?_
  refine esr rfl fun _ K10 => ?_
  refine A_A rfl (A_X [] sl42 rfl rfl (by omega) (by omega)) ?_
  refine A_A rfl (A_Q ti22 rfl) ?_
  refine emm rfl ?_
  refine enk K10 ?_
  refine esr rfl fun _ K11 => ?_
  refine A_A rfl (A_l rfl runUnderlying22 rfl) ?_
  refine A_A rfl (A_B runUnderlying120 rfl sizeOf3 (by decide) rfl) ?_
  refine A_A rfl (A_L (k := 0) isAgg3 rfl rfl rfl) ?_
  refine A_A rfl (ok_neq rfl rfl) ?_
  refine enk K11 ?_
  refine A_F rfl (fun h35 => ?_) (fun h35 => ?_)
  ·refine esk rfl ?_
   refine A_S ?_
   exact retR1 (.inr rfl) results158 (A_N (A_W rfl (A_Z (by exact (matErr_rag (ragged_at h0 h28 h35)).symm))))
  refine esp K9 ?_
  refine A_E ?_
  refine A_A rfl (A_j rfl rfl (by omega) (by omega)) ?_
  refine emm rfl ?_
  refine A_O ?_
  refine A_T (s := (i)) (i + 1) ⟨(by first | rfl | assumption | omega | (simp_all; done) | grind), (by first | rfl | assumption | omega | (simp_all; done) | grind), (not_take_succ [] h0 h28 hn (Classical.not_not.1 h35))⟩ (by first | omega | (dsimp only; omega)) (A_G ⟨rfl, rfl, rfl, rfl, rfl, trivial⟩ rfl)
 refine A_b ?_
 refine A_s K5 ?_
 refine A_C fun _ K13 => ?_
 refine esr rfl fun _ K14 => ?_
 refine A_A rfl (A_B runUnderlying120 rfl sizeOf42 (by decide) rfl) ?_
 refine A_A rfl (A_L (k := 0) isAgg42 rfl rfl rfl) ?_
 refine A_A rfl (A_l rfl runUnderlying42 rfl) ?_
 refine emm rfl ?_
 refine enk K14 ?_
 refine A_H ?_
 refine A_a (fun (j : Int) => (⟨[(0, aGF f), (38, aSl 1 false aInts m.rows), (39, aInt (↑m.rows.length : Int)), (40, aInt j)], [oBox b3_1 120 [aInt m.cols, aSl 1 false aInts m.rows]]⟩ : St)) (fun (j : Int) => (0 <= j) /\ (j <= m.rows.length) /\ (∀ l ∈ m.rows.take j.toNat, entErr f l = 0)) (fun (j : Int) => (m.rows.length - j).toNat) 0 ⟨(by first | rfl | assumption | omega | (simp_all; done) | grind), (by first | rfl | assumption | omega | (simp_all; done) | grind), (by simp)⟩ (A_G ⟨rfl, rfl, rfl, A_P (A_c (show 0 = (0 : Int) by first | rfl | assumption | omega | (simp_all; done) | grind)), trivial⟩ rfl) ?_
 rintro j ⟨k0, k1, kn⟩
 show Ent _ ⟨_, [_]⟩ _
 refine esr rfl fun _ K15 => ?_
 refine A_A rfl (A_p rfl rfl) ?_
 refine enk K15 ?_
 refine A_C fun _ K16 => ?_
 refine A_F rfl (fun h41 => ?_) (fun h41 => ?_)
 ·refine esp K16 ?_
  refine A_C fun _ K17 => ?_
  refine A_H ?_
  refine esr rfl fun _ K18 => ?_
  refine A_A rfl (A_X [] sl42 rfl rfl (by omega) (by omega)) ?_
  refine A_A rfl (A_Q ti22 rfl) ?_
  refine emm rfl ?_
  refine enk K18 ?_
  refine esr rfl fun _ K19 => ?_
  refine A_A rfl (A_Y (entries_ok f (ix [] m.rows j)) rfl) ?_
  refine emm rfl ?_
  refine enk K19 ?_
  refine esr rfl fun _ K20 => ?_
  refine A_A rfl (ok_neq rfl rfl) ?_
  refine enk K20 ?_
  refine A_F rfl (fun h48 => ?_) (fun h48 => ?_)
  ·refine esk rfl ?_
   refine A_S ?_
   exact retR1 (.inr rfl) results158 (A_N (A_W rfl (A_Z (by rw [entErr_two h48]; exact (matErr_row h23 (not_ragged (take_all (by omega) hn)) (badRow_at k0 h41 h48)).symm))))
  refine esp K17 ?_
  refine A_E ?_
  refine A_A rfl (A_j rfl rfl (by omega) (by omega)) ?_
  refine emm rfl ?_
  refine A_O ?_
  refine A_T (s := (j)) (j + 1) ⟨(by first | rfl | assumption | omega | (simp_all; done) | grind), (by first | rfl | assumption | omega | (simp_all; done) | grind), (not_take_succ [] k0 h41 kn (Classical.not_not.1 h48))⟩ (by first | omega | (dsimp only; omega)) (A_G ⟨rfl, rfl, rfl, rfl, trivial⟩ rfl)
 refine A_b ?_
 refine A_s K13 ?_
 refine esk rfl ?_
 refine A_S ?_
 exact retR1 (.inr rfl) results158 (A_N (A_W rfl (A_Z (by exact (matErr_zero.2 ⟨h23, not_ragged (take_all (by omega) hn), not_badRow (take_all (by omega) kn)⟩).symm))))

theorem open_ok (f : Fld) (l : List Mat) (hF : FOk f) (hl : ∀ m ∈ l, matErr f m = 0) (hn : l.length <= 1000) : Ctr Try.prog 151 [aFld f, aSl 2 true aMat l] (aTup [aGF f, aInt 0]) := by
 refine ctr_of Try.call151 func151 rfl rfl ?_
 intro w O
 refine A_f 0 2 rfl rfl (fun hlen0_2 => ?_)
 refine ent_len 1 rfl (fun hlen1 => ?_)
 refine esr rfl fun _ K1 => ?_
 refine A_o rfl rfl (AllOne.mem ⟨(A_M _), (A_M _), A_i, trivial⟩) (fun b2_1 => ?_)
 refine emm rfl ?_
 refine enk K1 ?_
 refine esr rfl fun _ K2 => ?_
 refine A_A rfl (A_V (k := 0) ti24 rfl rfl rfl) ?_
 refine A_A rfl (A_Y (CtrF.ctr (New_ok f hF)) rfl) ?_
 refine emm rfl ?_
 refine A_A rfl (A_e rfl rfl) ?_
 refine A_A rfl (A_e rfl rfl) ?_
 refine emm rfl ?_
 refine enk K2 ?_
 refine A_C fun _ K3 => ?_
 refine esr rfl fun _ K4 => ?_
 refine A_A rfl (ok_neq rfl rfl) ?_
 refine enk K4 ?_
 refine ent_condFP rfl (by decide) ?_
 refine esp K3 ?_
 refine A_C fun _ K5 => ?_
 refine esr rfl fun _ K6 => ?_
 refine A_A rfl (A_l rfl runUnderlying169 rfl) ?_
 refine emm rfl ?_
 refine enk K6 ?_
 refine A_H ?_
 refine A_a (fun (i : Int) => (⟨[(6, aGF f), (18, aSl 2 true aMat l), (19, aInt (↑l.length : Int)), (20, aInt i)], [oBox b2_1 24 [aInt f.P, aInt f.M, aSl 1 false aInt f.mod]]⟩ : St)) (fun (i : Int) => (0 <= i) /\ (i <= l.length)) (fun (i : Int) => (l.length - i).toNat) 0 ⟨(by first | rfl | assumption | omega | (simp_all; done) | grind), (by first | rfl | assumption | omega | (simp_all; done) | grind)⟩ (A_G ⟨rfl, rfl, rfl, A_P (A_c (show 0 = (0 : Int) by first | rfl | assumption | omega | (simp_all; done) | grind)), trivial⟩ rfl) ?_
 rintro i ⟨h0, h1⟩
 show Ent _ ⟨_, [_]⟩ _
 refine esr rfl fun _ K7 => ?_
 refine A_A rfl (A_p rfl rfl) ?_
 refine enk K7 ?_
 refine A_C fun _ K8 => ?_
 refine A_F rfl (fun h21 => ?_) (fun h21 => ?_)
 ·have hi := hl _ (ix_mem Mat.no l h0 h21)
  refine esp K8 ?_
  refine A_C fun _ K9 => ?_
  refine A_H ?_
  refine esr rfl fun _ K10 => ?_
  refine A_A rfl (A_X Mat.no sl169 rfl rfl (by omega) (by omega)) ?_
  refine A_A rfl (A_Q ti120 rfl) ?_
  refine ent_alloc (z := .agg #[.int .i64 0, .slice none 0 0]) [aInt 0, aEx (.slice none 0 0)] rfl zv120 rfl zc120 (fun b9_2 => ?_)
  refine ent_storeBS (k := 0) sizeOf120 rfl rfl rfl (AllOne.mem ⟨(A_M _), A_i, trivial⟩) rfl rfl ?_
  show Ent _ ⟨_, [_, _]⟩ _
  refine enk K10 ?_
  refine esr rfl fun _ K11 => ?_
  refine A_A rfl (A_V (k := 0) ti120 rfl rfl rfl) ?_
  refine A_A rfl (A_Y (mcheck_ok f (ix Mat.no l i)) rfl) ?_
  refine emm rfl ?_
  refine enk K11 ?_
  refine esr rfl fun _ K12 => ?_
  refine A_A rfl (ok_neq rfl rfl) ?_
  refine enk K12 ?_
  refine A_F rfl (fun h28 => ?_) (fun h28 => ?_)
  ·exact absurd hi h28
  refine esp K9 ?_
  refine A_E ?_
  refine A_A rfl (A_j rfl rfl (by omega) (by omega)) ?_
  refine emm rfl ?_
  refine A_O ?_
  refine ent_drop 0 ?_
  refine A_T (s := (i)) (i + 1) ⟨(by first | rfl | assumption | omega | (simp_all; done) | grind), (by first | rfl | assumption | omega | (simp_all; done) | grind)⟩ (by first | omega | (dsimp only; omega)) (A_G ⟨rfl, rfl, rfl, rfl, trivial⟩ rfl)
 refine A_b ?_
 refine A_s K5 ?_
 refine esk rfl ?_
 refine A_S ?_
 exact retR2 (.inr rfl) results151 (A_N (A_W rfl (cv_id sub_x))) (A_N (A_W rfl (A_Z (by rfl))))

theorem rAddTo_ok (f : Fld) (v : List Int) (a : Int) (u : List Int) (hS : Shape f) (hl : v.length <= u.length) (hv : v.length <= 100000) : CtrF Try.prog 30 [aFld f, aSl 1 false aInt v, aInt a, aSl 1 false aInt u] (aVec 3 1 false aInt (addTo f v a u)) := by
 refine ctrF_of Try.call30 func30 rfl rfl ?_
 intro w O
 refine A_f 0 2 rfl rfl (fun hlen0_2 => ?_)
 refine ent_len 1 rfl (fun hlen1 => ?_)
 refine ent_len 3 rfl (fun hlen3 => ?_)
 refine esr rfl fun _ K1 => ?_
 refine A_o rfl rfl (AllOne.mem ⟨(A_M _), (A_M _), A_i, trivial⟩) (fun b4_1 => ?_)
 refine emm rfl ?_
 refine enk K1 ?_
 refine esr rfl fun _ K2 => ?_
 refine A_A rfl (A_l rfl runUnderlying22 rfl) ?_
 refine ent_make aInt 0 rfl vt22 rfl rfl (by omega) (by omega) (by omega) (fun _ _ => rfl) (AllV.mem ⟨rfl, trivial⟩) (fun b13_2 => ?_)
 refine emm rfl ?_
 refine enk K2 ?_
 refine A_C fun _ K3 => ?_
 refine esk rfl ?_
 refine A_H ?_
 refine A_a (fun (i : Int) => (⟨[(1, aSl 1 false aInt v), (2, aInt a), (3, aSl 1 false aInt u), (4, aEx (.pointer (some ⟨b4_1, 0, none⟩))), (9, aEx (vec (some b13_2) (((↑v.length : Int)).toNat) (((↑v.length : Int)).toNat))), (10, aInt i)], [oVec (some b13_2) (((↑v.length : Int)).toNat) 3 1 false aInt (mixL (addTo f v a u) (List.replicate v.length 0) i), oBox b4_1 24 [aInt f.P, aInt f.M, aSl 1 false aInt f.mod]]⟩ : St)) (fun (i : Int) => (0 <= i) /\ (i <= v.length)) (fun (i : Int) => (v.length - i).toNat) 0 ⟨(by first | rfl | assumption | omega | (simp_all; done) | grind), (by first | rfl | assumption | omega | (simp_all; done) | grind)⟩ (A_G ⟨rfl, rfl, rfl, rfl, rfl, A_P (A_c (show 0 = (0 : Int) by first | rfl | assumption | omega | (simp_all; done) | grind)), trivial⟩ (A_J (A_g (show mixL (addTo f v a u) (List.replicate v.length 0) (0 : Int) = List.replicate (((↑v.length : Int)).toNat) 0 by first | exact mixL_zero _ _ | (rw [mixL_zero]; congr 1; omega))) (rfl))) ?_
 rintro i ⟨h0, h1⟩
 show Ent _ ⟨_, [_, _]⟩ _
 have lm : (mixL (addTo f v a u) (List.replicate v.length 0) i).length = v.length := by rw [length_mixL _ _ (by simp)]; simp
 have lm2 : ((mixL (addTo f v a u) (List.replicate v.length 0) i).set i.toNat (ix 0 v i)).length = v.length := by rw [List.length_set]; exact lm
 refine A_C fun _ K5 => ?_
 refine esr rfl fun _ K6 => ?_
 refine A_A rfl (A_l rfl runUnderlying22 rfl) ?_
 refine A_A rfl (A_p rfl rfl) ?_
 refine enk K6 ?_
 refine A_F rfl (fun h17 => ?_) (fun h17 => ?_)
 ·refine esp K5 ?_
  refine A_C fun _ K7 => ?_
  refine A_H ?_
  refine esr rfl fun _ K8 => ?_
  refine A_A rfl (A_X 0 sl22 rfl rfl (by omega) (by omega)) ?_
  refine A_A rfl (A_Q ti3 rfl) ?_
  refine A_A rfl (A_n sl22 rfl rfl (by omega) (by omega)) ?_
  refine ent_storeV (k := 0) (z := ix 0 v i) ti3 rfl rfl rfl (A_w (A_M _)) (by omega) (by omega) ?_
  refine enk K8 ?_
  refine esr rfl fun _ K9 => ?_
  refine A_A rfl (A_X 0 sl22 rfl rfl (by omega) (by omega)) ?_
  refine A_A rfl (A_Q ti3 rfl) ?_
  refine A_A rfl (ok_neq rfl rfl) ?_
  refine enk K9 ?_
  refine A_F rfl (fun h31 => ?_) (fun h31 => ?_)
  ·refine A_u 16 mixed (by kernel_rfl) (by kernel_rfl) (by kernel_rfl) ?_
   refine dw_o rfl (A_K rfl) ?_
   refine dw_o rfl (A_K rfl) ?_
   refine dw_o rfl (A_V (k := 1) ti24 rfl rfl rfl) ?_
   refine dw_o rfl (A_K rfl) ?_
   refine dw_o rfl (A_K rfl) ?_
   refine dw_o rfl (A_X 0 sl22 rfl rfl (by omega) (by omega)) ?_
   refine dw_o rfl (A_Q ti3 rfl) ?_
   refine dw_o rfl (A_V (k := 1) ti24 rfl rfl rfl) ?_
   refine dw_o rfl (A_K rfl) ?_
   refine dw_o rfl (A_K rfl) ?_
   refine dw_o rfl (A_K rfl) ?_
   refine dw_o rfl (A_X 0 sl22 rfl rfl (by omega) (by omega)) ?_
   refine dw_o rfl (A_Q ti3 rfl) ?_
   refine dw_o rfl (A_Y (rMul_ok f a (ix 0 u i) (by first | rfl | assumption | omega | (simp_all; done) | grind)) rfl) ?_
   refine dw_o rfl (A_Y (rAdd_ok f (ix 0 v i) (mulF f a (ix 0 u i)) (by first | rfl | assumption | omega | (simp_all; done) | grind)) rfl) ?_
   refine dw_o rfl (A_n sl22 rfl rfl (by omega) (by omega)) ?_
   refine dw_nil ?_
   refine ent_storeV (k := 0) (z := addF f (ix 0 v i) (mulF f a (ix 0 u i))) ti3 rfl rfl rfl (A_w (A_M _)) (by omega) (by omega) ?_
   refine enk K7 ?_
   refine A_E ?_
   refine emm rfl ?_
   refine A_A rfl (A_j rfl rfl (by omega) (by omega)) ?_
   refine emm rfl ?_
   refine A_O ?_
   refine A_T (s := (i)) (i + 1) ⟨(by first | rfl | assumption | omega | (simp_all; done) | grind), (by first | rfl | assumption | omega | (simp_all; done) | grind)⟩ (by first | omega | (dsimp only; omega)) (A_G ⟨rfl, rfl, rfl, rfl, rfl, rfl, trivial⟩ (A_J (A_g (show mixL (addTo f v a u) (List.replicate v.length 0) (i + 1) = List.set (List.set (mixL (addTo f v a u) (List.replicate v.length 0) i) (i).toNat (ix 0 v i)) (i).toNat (addF f (ix 0 v i) (mulF f a (ix 0 u i))) by first | exact addTo_set0 f v a u h0 h17 h31 | exact addTo_stay0 f v a u h0 h17 (Classical.not_not.1 h31))) (rfl)))
  refine esp K7 ?_
  refine A_E ?_
  refine emm rfl ?_
  refine A_A rfl (A_j rfl rfl (by omega) (by omega)) ?_
  refine emm rfl ?_
  refine A_O ?_
  refine A_T (s := (i)) (i + 1) ⟨(by first | rfl | assumption | omega | (simp_all; done) | grind), (by first | rfl | assumption | omega | (simp_all; done) | grind)⟩ (by first | omega | (dsimp only; omega)) (A_G ⟨rfl, rfl, rfl, rfl, rfl, rfl, trivial⟩ (A_J (A_g (show mixL (addTo f v a u) (List.replicate v.length 0) (i + 1) = List.set (mixL (addTo f v a u) (List.replicate v.length 0) i) (i).toNat (ix 0 v i) by first | exact addTo_set0 f v a u h0 h17 h31 | exact addTo_stay0 f v a u h0 h17 (Classical.not_not.1 h31))) (rfl)))
 refine A_b ?_
 refine A_s K3 ?_
 refine esk rfl ?_
 refine A_S ?_
 exact retR1 (.inr rfl) results30 (A_N (A_W rfl (cvF_vecV (k := 0) flat_int rfl rfl (by first | rfl | assumption | (simp; done) | (simp_all; done) | omega) (by rw [mixL_all _ _ (by simp; omega) (by simp; omega)]))))

theorem rCombine_ok (f : Fld) (x : List Int) (rows : List (List Int)) (cols : Int) (hS : Shape f) (hc0 : 0 <= cols) (hc1 : cols <= 1000) (hr : ∀ i : Int, 0 <= i -> i < rows.length -> ((ix [] rows i).length : Int) = cols) : Ctr Try.prog 91 [aFld f, aSl 1 false aInt x, aSl 1 false aInts rows, aInt cols] (aSl 1 false aInt (comb f x rows cols)) := by
 refine ctr_of Try.call91 func91 rfl rfl ?_
 intro w O
 refine A_f 0 2 rfl rfl (fun hlen0_2 => ?_)
 refine ent_len 1 rfl (fun hlen1 => ?_)
 refine ent_len 2 rfl (fun hlen2 => ?_)
 refine esr rfl fun _ K1 => ?_
 refine A_o rfl rfl (AllOne.mem ⟨(A_M _), (A_M _), A_i, trivial⟩) (fun b4_1 => ?_)
 refine emm rfl ?_
 refine enk K1 ?_
 refine esr rfl fun _ K2 => ?_
 refine ent_make aInt 0 rfl vt22 rfl rfl (by omega) (by omega) (by omega) (fun _ _ => rfl) (AllV.mem ⟨rfl, trivial⟩) (fun b12_2 => ?_)
 refine emm rfl ?_
 refine enk K2 ?_
 refine A_C fun _ K3 => ?_
 refine A_C fun _ K4 => ?_
 refine ent_give 0 9 rfl (cv_vec (k := 0) (off_erase rfl) (by first | rfl | assumption | (simp; done) | (simp_all; done) | omega) rfl) ?_
 refine A_E ?_
 refine emm rfl ?_
 refine enk K4 ?_
 refine A_H ?_
 refine A_a (fun (i : Int) => (⟨[(1, aSl 1 false aInt x), (2, aSl 1 false aInts rows), (4, aEx (.pointer (some ⟨b4_1, 0, none⟩))), (9, aSl 1 false aInt (combTo f x rows cols i.toNat)), (10, aInt i)], [oBox b4_1 24 [aInt f.P, aInt f.M, aSl 1 false aInt f.mod]]⟩ : St)) (fun (i : Int) => (0 <= i) /\ (i <= rows.length) /\ (i <= x.length)) (fun (i : Int) => (rows.length - i).toNat) 0 ⟨(by first | rfl | assumption | omega | (simp_all; done) | grind), (by first | rfl | assumption | omega | (simp_all; done) | grind), (by first | rfl | assumption | omega | (simp_all; done) | grind)⟩ (A_G ⟨rfl, rfl, rfl, A_P (av_sl (show List.replicate ((cols).toNat) 0 = combTo f x rows cols (0 : Int).toNat by first | rfl | assumption | omega | (simp_all; done) | grind)), A_P (A_c (show 0 = (0 : Int) by first | rfl | assumption | omega | (simp_all; done) | grind)), trivial⟩ rfl) ?_
 rintro i ⟨h0, h1, h2⟩
 show Ent _ ⟨_, [_]⟩ _
 refine A_C fun _ K5 => ?_
 refine A_C fun _ K6 => ?_
 refine ent_cut (⟨[(1, aSl 1 false aInt x), (2, aSl 1 false aInts rows), (4, aEx (.pointer (some ⟨b4_1, 0, none⟩))), (9, aSl 1 false aInt (combTo f x rows cols i.toNat)), (10, aInt i), (22, aBool (decide ((i < (↑rows.length : Int)) /\ (i < (↑x.length : Int)))))], [oBox b4_1 24 [aInt f.P, aInt f.M, aSl 1 false aInt f.mod]]⟩) ?_ ?_
 ·refine A_E ?_
  refine emm rfl ?_
  refine A_A rfl (A_l rfl runUnderlying42 rfl) ?_
  refine A_A rfl (A_p rfl rfl) ?_
  refine emm rfl ?_
  refine ent_guardXDt rfl rfl rfl rfl (fun hg17 => ?_) (fun hg17 => ?_)
  ·refine emm rfl ?_
   refine A_I rfl rfl rfl rfl (decide_eq_true hg17) ?_
   refine emm rfl ?_
   refine A_I rfl rfl rfl rfl (decide_eq_true hg17) ?_
   refine A_A rfl (A_l rfl runUnderlying22 rfl) ?_
   refine A_I rfl rfl rfl rfl (decide_eq_true hg17) ?_
   refine A_A rfl (A_p rfl rfl) ?_
   refine A_A rfl (A_h rfl (decide_eq_true hg17) rfl) ?_
   refine A_O ?_
   exact A_G ⟨rfl, rfl, rfl, rfl, rfl, A_U (dq_Q ((and_iff_right hg17).trans Iff.rfl)), trivial⟩ rfl
  refine A_D rfl rfl rfl rfl (decide_eq_false hg17) ?_
  refine A_D rfl rfl rfl rfl (decide_eq_false hg17) ?_
  refine A_D rfl rfl rfl rfl (decide_eq_false hg17) ?_
  refine A_A rfl (A_t rfl (decide_eq_false hg17) rfl) ?_
  refine A_O ?_
  exact A_G ⟨rfl, rfl, rfl, rfl, rfl, A_U (dq_F rfl (fun h => hg17 h.1)), trivial⟩ rfl
 refine A_s K6 ?_
 refine A_F rfl (fun h22 => ?_) (fun h22 => ?_)
 ·refine esp K5 ?_
  refine A_C fun _ K7 => ?_
  refine A_H ?_
  refine esr rfl fun _ K8 => ?_
  refine A_A rfl (A_X 0 sl22 rfl rfl (by omega) (by omega)) ?_
  refine A_A rfl (A_Q ti3 rfl) ?_
  refine A_A rfl (ok_neq rfl rfl) ?_
  refine enk K8 ?_
  refine A_F rfl (fun h29 => ?_) (fun h29 => ?_)
  ·refine A_u 12 mixed (by kernel_rfl) (by kernel_rfl) (by kernel_rfl) ?_
   refine dw_o rfl (A_V (k := 0) ti24 rfl rfl rfl) ?_
   refine dw_o rfl (A_K rfl) ?_
   refine dw_o rfl (A_K rfl) ?_
   refine dw_o rfl (A_K rfl) ?_
   refine dw_o rfl (A_X 0 sl22 rfl rfl (by omega) (by omega)) ?_
   refine dw_o rfl (A_Q ti3 rfl) ?_
   refine dw_o rfl (A_K rfl) ?_
   refine dw_o rfl (A_K rfl) ?_
   refine dw_o rfl (A_X [] sl42 rfl rfl (by omega) (by omega)) ?_
   refine dw_o rfl (A_Q ti22 rfl) ?_
   refine dw_o rfl (A_Y (CtrF.ctr (CtrF.sl (rAddTo_ok f (combTo f x rows cols i.toNat) (ix 0 x i) (ix [] rows i) (by first | rfl | assumption | omega | (simp_all; done) | grind) (by have := hr i h0 (by omega); rw [length_combTo]; omega) (by rw [length_combTo]; omega)))) rfl) ?_
   refine dw_o rfl (ok_assign rfl) ?_
   refine dw_nil ?_
   refine enk K7 ?_
   refine A_E ?_
   refine emm rfl ?_
   refine A_A rfl (A_j rfl rfl (by omega) (by omega)) ?_
   refine emm rfl ?_
   refine A_O ?_
   refine A_T (s := (i)) (i + 1) ⟨(by first | rfl | assumption | omega | (simp_all; done) | grind), (by first | rfl | assumption | omega | (simp_all; done) | grind), (by first | rfl | assumption | omega | (simp_all; done) | grind)⟩ (by first | omega | (dsimp only; omega)) (A_G ⟨rfl, rfl, rfl, A_P (av_sl (show addTo f (combTo f x rows cols i.toNat) (ix 0 x i) (ix [] rows i) = combTo f x rows cols (i + 1).toNat by first | exact combTo_step f x rows cols h0 h29 | exact combTo_stay f x rows cols h0 (Classical.not_not.1 h29))), rfl, trivial⟩ rfl)
  refine esp K7 ?_
  refine A_E ?_
  refine emm rfl ?_
  refine A_A rfl (A_j rfl rfl (by omega) (by omega)) ?_
  refine emm rfl ?_
  refine A_O ?_
  refine A_T (s := (i)) (i + 1) ⟨(by first | rfl | assumption | omega | (simp_all; done) | grind), (by first | rfl | assumption | omega | (simp_all; done) | grind), (by first | rfl | assumption | omega | (simp_all; done) | grind)⟩ (by first | omega | (dsimp only; omega)) (A_G ⟨rfl, rfl, rfl, A_P (av_sl (show combTo f x rows cols i.toNat = combTo f x rows cols (i + 1).toNat by first | exact combTo_step f x rows cols h0 h29 | exact combTo_stay f x rows cols h0 (Classical.not_not.1 h29))), rfl, trivial⟩ rfl)
 refine A_b ?_
 refine A_s K3 ?_
 refine esk rfl ?_
 refine A_S ?_
 exact retR1 (.inr rfl) results91 (A_N (A_W rfl (cv_sl sub_x (by unfold comb; congr 1; omega))))
end Go.Proofs.Ytfjhbdfgbpcchaa

