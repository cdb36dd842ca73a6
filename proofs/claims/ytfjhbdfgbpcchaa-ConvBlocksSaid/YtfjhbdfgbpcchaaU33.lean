/-
  Walks of functions of the program and the reference.
-/
import Derived.Test.YtfjhbdfgbpcchaaU32
open Go Go.Cw
namespace Go.Proofs.Ytfjhbdfgbpcchaa
open Try
set_option maxRecDepth 100000
set_option linter.unusedVariables false
set_option linter.unusedSimpArgs false
theorem rfSame_ok (f : Fld)  : Ctr Try.prog 86 [aFld f, aFld f] (aBool true) := by
 refine ctr_of Try.call86 func86 rfl rfl ?_
 intro w O
 refine A_l 0 2 rfl rfl (fun hlen0_2 => ?_)
 refine A_l 1 2 rfl rfl (fun hlen1_2 => ?_)
 refine esr rfl fun _ K1 => ?_
 refine A_s rfl rfl (AllOne.mem ⟨(A_M _), (A_M _), A_i, trivial⟩) (fun b2_1 => ?_)
 refine A_s rfl rfl (AllOne.mem ⟨(A_M _), (A_M _), A_i, trivial⟩) (fun b3_2 => ?_)
 refine emm rfl ?_
 refine enk K1 ?_
 refine A_E fun _ K2 => ?_
 refine esr rfl fun _ K3 => ?_
 refine A_A rfl (A_B runUnderlying24 rfl sizeOf3 (by decide) rfl) ?_
 refine A_A rfl (A_L (k := 1) isAgg3 rfl rfl rfl) ?_
 refine A_A rfl (A_B runUnderlying24 rfl sizeOf3 (by decide) rfl) ?_
 refine A_A rfl (A_L (k := 0) isAgg3 rfl rfl rfl) ?_
 refine A_A rfl (ok_neq rfl rfl) ?_
 refine emm rfl ?_
 refine A_D rfl rfl rfl rfl (decide_eq_false (fun hq => hq rfl)) ?_
 refine A_A rfl (A_B runUnderlying24 rfl sizeOf3 (by decide) rfl) ?_
 refine A_D rfl rfl rfl rfl (decide_eq_false (fun hq => hq rfl)) ?_
 refine A_A rfl (A_L (k := 1) isAgg3 rfl rfl rfl) ?_
 refine A_D rfl rfl rfl rfl (decide_eq_false (fun hq => hq rfl)) ?_
 refine A_A rfl (A_B runUnderlying24 rfl sizeOf3 (by decide) rfl) ?_
 refine A_D rfl rfl rfl rfl (decide_eq_false (fun hq => hq rfl)) ?_
 refine A_A rfl (A_L (k := 0) isAgg3 rfl rfl rfl) ?_
 refine A_D rfl rfl rfl rfl (decide_eq_false (fun hq => hq rfl)) ?_
 refine A_A rfl (ok_neq rfl rfl) ?_
 refine A_A rfl (A_h rfl (decide_eq_false (fun hq => hq rfl)) rfl) ?_
 refine emm rfl ?_
 refine A_D rfl rfl rfl rfl (decide_eq_false (fun hq => hq rfl)) ?_
 refine A_A rfl (A_B runUnderlying24 rfl sizeOf22 (by decide) rfl) ?_
 refine A_D rfl rfl rfl rfl (decide_eq_false (fun hq => hq rfl)) ?_
 refine A_A rfl (A_L (k := 1) isAgg22 rfl rfl rfl) ?_
 refine A_D rfl rfl rfl rfl (decide_eq_false (fun hq => hq rfl)) ?_
 refine A_A rfl (A_p rfl runUnderlying22 rfl) ?_
 refine A_D rfl rfl rfl rfl (decide_eq_false (fun hq => hq rfl)) ?_
 refine A_A rfl (A_B runUnderlying24 rfl sizeOf22 (by decide) rfl) ?_
 refine A_D rfl rfl rfl rfl (decide_eq_false (fun hq => hq rfl)) ?_
 refine A_A rfl (A_L (k := 0) isAgg22 rfl rfl rfl) ?_
 refine A_D rfl rfl rfl rfl (decide_eq_false (fun hq => hq rfl)) ?_
 refine A_A rfl (A_p rfl runUnderlying22 rfl) ?_
 refine A_D rfl rfl rfl rfl (decide_eq_false (fun hq => hq rfl)) ?_
 refine A_A rfl (ok_neq rfl rfl) ?_
 refine A_A rfl (A_h rfl (decide_eq_false (fun hq => hq rfl)) rfl) ?_
 refine enk K3 ?_
 refine ent_condFP rfl (decide_eq_false (fun hq => hq rfl)) ?_
 refine esp K2 ?_
 refine A_E fun _ K4 => ?_
 refine esk rfl ?_
 refine A_H ?_
 refine A_Z (fun (i : Int) => (⟨[(2, aEx (.pointer (some ⟨b2_1, 0, none⟩))), (3, aEx (.pointer (some ⟨b3_2, 0, none⟩))), (5, aInt i)], [oBox b3_2 24 [aInt f.P, aInt f.M, aSl 1 false aInt f.mod], oBox b2_1 24 [aInt f.P, aInt f.M, aSl 1 false aInt f.mod]]⟩ : St)) (fun (i : Int) => (0 <= i) /\ (i <= f.mod.length)) (fun (i : Int) => (f.mod.length - i).toNat) 0 ⟨(by first | rfl | assumption | omega | (simp_all; done) | grind), (by first | rfl | assumption | omega | (simp_all; done) | grind)⟩ (A_G ⟨rfl, rfl, A_P (A_d (show 0 = (0 : Int) by first | rfl | assumption | omega | (simp_all; done) | grind)), trivial⟩ rfl) ?_
 rintro i ⟨i0, i1⟩
 show Ent _ ⟨_, [_, _]⟩ _
 refine A_E fun _ K6 => ?_
 refine esr rfl fun _ K7 => ?_
 refine A_A rfl (A_B runUnderlying24 rfl sizeOf22 (by decide) rfl) ?_
 refine A_A rfl (A_L (k := 1) isAgg22 rfl rfl rfl) ?_
 refine A_A rfl (A_p rfl runUnderlying22 rfl) ?_
 refine A_A rfl (A_q rfl rfl) ?_
 refine enk K7 ?_
 refine A_I rfl (fun h31 => ?_) (fun h31 => ?_)
 ·refine esp K6 ?_
  refine A_E fun _ K8 => ?_
  refine A_H ?_
  refine A_E fun _ K9 => ?_
  refine A_x 11 mixed (by kernel_rfl) (by kernel_rfl) (by kernel_rfl) ?_
  refine dw_o rfl (A_B runUnderlying24 rfl sizeOf22 (by decide) rfl) ?_
  refine dw_o rfl (A_L (k := 1) isAgg22 rfl rfl rfl) ?_
  refine dw_o rfl (A_K rfl) ?_
  refine dw_o rfl (A_U 0 sl22 rfl rfl (by omega) (by omega)) ?_
  refine dw_o rfl (A_Q ti3 rfl) ?_
  refine dw_o rfl (A_B runUnderlying24 rfl sizeOf22 (by decide) rfl) ?_
  refine dw_o rfl (A_L (k := 0) isAgg22 rfl rfl rfl) ?_
  refine dw_o rfl (A_K rfl) ?_
  refine dw_o rfl (A_U 0 sl22 rfl rfl (by omega) (by omega)) ?_
  refine dw_o rfl (A_Q ti3 rfl) ?_
  refine dw_o rfl (ok_neq rfl rfl) ?_
  refine dw_nil ?_
  refine enk K9 ?_
  refine ent_condFP rfl (decide_eq_false (fun hq => hq rfl)) ?_
  refine esp K8 ?_
  refine A_F ?_
  refine emm rfl ?_
  refine A_A rfl (A_j rfl rfl (by omega) (by omega)) ?_
  refine emm rfl ?_
  refine A_N ?_
  refine A_R (s := (i)) (i + 1) ⟨(by first | rfl | assumption | omega | (simp_all; done) | grind), (by first | rfl | assumption | omega | (simp_all; done) | grind)⟩ (by first | omega | (dsimp only; omega)) (A_G ⟨rfl, rfl, rfl, trivial⟩ rfl)
 refine A_a ?_
 refine A_v K4 ?_
 refine esk rfl ?_
 refine A_S ?_
 exact retR1 (.inr rfl) results86 (A_O (A_W rfl (cv_bool (by rfl))))

theorem rSameCC_ok (c : Cod)  : Ctr Try.prog 52 [aCod c, aCod c] (aBool true) := by
 refine ctr_of Try.call52 func52 rfl rfl ?_
 intro w O
 refine A_l 0 2 rfl rfl (fun hlen0_2 => ?_)
 refine A_l 0 4 rfl rfl (fun hlen0_4 => ?_)
 refine A_l 1 2 rfl rfl (fun hlen1_2 => ?_)
 refine A_l 1 4 rfl rfl (fun hlen1_4 => ?_)
 refine esr rfl fun _ K1 => ?_
 refine A_s rfl rfl (AllOne.mem ⟨(A_M _), (A_M _), A_i, (A_M _), A_i, trivial⟩) (fun b2_1 => ?_)
 refine A_s rfl rfl (AllOne.mem ⟨(A_M _), (A_M _), A_i, (A_M _), A_i, trivial⟩) (fun b3_2 => ?_)
 refine emm rfl ?_
 refine enk K1 ?_
 refine esr rfl fun _ K2 => ?_
 refine A_A rfl (A_B runUnderlying69 rfl sizeOf24 (by decide) rfl) ?_
 refine A_A rfl (A_V (k := 1) ti24 rfl rfl rfl) ?_
 refine A_A rfl (A_B runUnderlying69 rfl sizeOf24 (by decide) rfl) ?_
 refine A_A rfl (A_V (k := 0) ti24 rfl rfl rfl) ?_
 refine A_A rfl (A_b (rfSame_ok c.F) rfl) ?_
 refine emm rfl ?_
 refine A_D rfl rfl rfl rfl rfl ?_
 refine A_A rfl (A_B runUnderlying69 rfl sizeOf3 (by decide) rfl) ?_
 refine A_D rfl rfl rfl rfl rfl ?_
 refine A_A rfl (A_L (k := 1) isAgg3 rfl rfl rfl) ?_
 refine A_D rfl rfl rfl rfl rfl ?_
 refine A_A rfl (A_B runUnderlying69 rfl sizeOf3 (by decide) rfl) ?_
 refine A_D rfl rfl rfl rfl rfl ?_
 refine A_A rfl (A_L (k := 0) isAgg3 rfl rfl rfl) ?_
 refine A_D rfl rfl rfl rfl rfl ?_
 refine A_A rfl (ok_eql rfl rfl) ?_
 refine A_A rfl (A_f rfl rfl rfl) ?_
 refine emm rfl ?_
 refine A_D rfl rfl rfl rfl (decide_eq_true rfl) ?_
 refine A_A rfl (A_B runUnderlying69 rfl sizeOf42 (by decide) rfl) ?_
 refine A_D rfl rfl rfl rfl (decide_eq_true rfl) ?_
 refine A_A rfl (A_L (k := 1) isAgg42 rfl rfl rfl) ?_
 refine A_D rfl rfl rfl rfl (decide_eq_true rfl) ?_
 refine A_A rfl (A_B runUnderlying69 rfl sizeOf42 (by decide) rfl) ?_
 refine A_D rfl rfl rfl rfl (decide_eq_true rfl) ?_
 refine A_A rfl (A_L (k := 0) isAgg42 rfl rfl rfl) ?_
 refine A_D rfl rfl rfl rfl (decide_eq_true rfl) ?_
 refine A_A rfl (A_b (SameRows_ok c.Gen c.Gen) rfl) ?_
 refine A_A rfl (A_f rfl (decide_eq_true rfl) rfl) ?_
 refine emm rfl ?_
 refine enk K2 ?_
 refine A_S ?_
 exact retR1 (.inr rfl) results52 (A_O (A_W rfl (cv_bool (by first | rfl | (simp; done)))))

theorem rSameC_ok (c d : Cod) (h : c = d) : Ctr Try.prog 52 [aCod c, aCod d] (aBool true) := by
 subst h
 exact rSameCC_ok c

theorem rFlat_ok (X : List (List Int)) (n : Int) (n0 : 0 <= n) (n1 : n <= 1000) (hx : X.length <= 1000) (hX : ∀ z : Int, 0 <= z -> z < X.length -> ((ix [] X z).length : Int) = n) : Ctr Try.prog 87 [aSl 1 false aInts X] (aSl 1 false aInt (fltTo X X.length)) := by
 refine ctr_of Try.call87 func87 rfl rfl ?_
 intro w O
 refine ent_len 0 rfl (fun hlen0 => ?_)
 refine esk rfl ?_
 refine esk rfl ?_
 refine A_E fun _ K3 => ?_
 refine esk rfl ?_
 refine A_H ?_
 refine ent_open 3 1 false aInt (fun _ => rfl) ?_
 refine A_Z (fun (ss : Int × Option Nat × Nat) => match ss with | (i, rr2, cc2) => (⟨[(0, aSl 1 false aInts X), (3, aEx (vec rr2 ((fltTo X i.toNat).length) cc2)), (4, aInt i)], [oVec rr2 cc2 3 1 false aInt (fltTo X i.toNat)]⟩ : St)) (fun (ss : Int × Option Nat × Nat) => match ss with | (i, rr2, cc2) => (0 <= i) /\ (i <= X.length)) (fun (ss : Int × Option Nat × Nat) => match ss with | (i, rr2, cc2) => (X.length - i).toNat) (0, none, 0) ⟨(by first | rfl | assumption | omega | (simp_all; done) | grind), (by first | rfl | assumption | omega | (simp_all; done) | grind)⟩ (A_G ⟨rfl, A_P ((show aEx (vec none ([] : List _).length 0) = aEx (vec none ((fltTo X (0 : Int).toNat).length) 0) from av_vec (congrArg List.length (show fltTo X (0 : Int).toNat = [] by rfl).symm))), A_P (A_d (show 0 = (0 : Int) by first | rfl | assumption | omega | (simp_all; done) | grind)), trivial⟩ (A_J (A_e (show fltTo X (0 : Int).toNat = [] by rfl)) (rfl))) ?_
 rintro ⟨i, rr2, cc2⟩ ⟨i0, i1⟩
 show Ent _ ⟨_, [_]⟩ _
 have lfl := fltTo_len (X := X) n0 (k := i.toNat) (fun z z0 z1 => hX z z0 (by omega))
 have hpb : n * (i.toNat : Int) <= 1000 * 1000 := Int.mul_le_mul n1 (by omega) (by omega) (by omega)
 refine A_E fun _ K5 => ?_
 refine esr rfl fun _ K6 => ?_
 refine A_A rfl (A_p rfl runUnderlying42 rfl) ?_
 refine A_A rfl (A_q rfl rfl) ?_
 refine enk K6 ?_
 refine A_I rfl (fun h8 => ?_) (fun h8 => ?_)
 ·have hxi := hX i i0 h8
  refine esp K5 ?_
  refine A_E fun _ K7 => ?_
  refine A_H ?_
  refine A_F ?_
  refine emm rfl ?_
  refine A_A rfl (A_U [] sl42 rfl rfl (by omega) (by omega)) ?_
  refine A_A rfl (A_Q ti22 rfl) ?_
  refine ent_appendS (k := 0) rfl vt22 rfl rfl (by first | rfl | assumption | (simp; done) | (simp_all; done) | omega) rfl (cv_id sub_refl) (by first | omega | (simp only [List.length_append, List.length_cons, List.length_nil]; omega) | (simp; omega)) (by first | omega | (simp only [List.length_append, List.length_cons, List.length_nil]; omega) | (simp; omega)) (fun r16_2 cr16_2 => ?_)
  refine emm rfl ?_
  refine enk K7 ?_
  refine A_F ?_
  refine emm rfl ?_
  refine A_A rfl (A_j rfl rfl (by omega) (by omega)) ?_
  refine emm rfl ?_
  refine A_N ?_
  refine A_R (s := (i, rr2, cc2)) (i + 1, r16_2, cr16_2) ⟨(by first | rfl | assumption | omega | (simp_all; done) | grind), (by first | rfl | assumption | omega | (simp_all; done) | grind)⟩ (by first | omega | (dsimp only; omega)) (A_G ⟨rfl, A_P (av_vec (congrArg List.length (show fltTo X (i + 1).toNat = (fltTo X i.toNat) ++ (ix [] X i) by exact fltTo_succ X i0).symm)), rfl, trivial⟩ (A_J (A_e (show fltTo X (i + 1).toNat = (fltTo X i.toNat) ++ (ix [] X i) by exact fltTo_succ X i0)) (rfl)))
 refine A_a ?_
 refine A_v K3 ?_
 refine esk rfl ?_
 refine A_S ?_
 exact retR1 (.inr rfl) results87 (A_O (A_W rfl (cv_vec (k := 0) (off_x rfl) (by first | rfl | assumption | (simp; done) | (simp_all; done) | omega) (by rw [show i.toNat = X.length by omega]))))

theorem rUnitU_ok (c : Cnv) (steps t i : Int) (hk : c.Gen.length <= 1000) (s1 : steps <= 1000) (t0 : 0 <= t) (t1 : t < steps) (i0 : 0 <= i) (i1 : i < c.Gen.length) : Ctr Try.prog 88 [aCnv c, aInt steps, aInt t, aInt i] (aSl 1 false aInts (c.unitU steps t i)) := by
 have lz : c.zrow.length = c.Gen.length := List.length_replicate
 refine ctr_of Try.call88 func88 rfl rfl ?_
 intro w O
 refine A_l 0 2 rfl rfl (fun hlen0_2 => ?_)
 refine A_l 0 3 rfl rfl (fun hlen0_3 => ?_)
 refine esr rfl fun _ K1 => ?_
 refine A_s rfl rfl (AllOne.mem ⟨(A_M _), (A_M _), A_i, A_i, trivial⟩) (fun b4_1 => ?_)
 refine emm rfl ?_
 refine enk K1 ?_
 refine esk rfl ?_
 refine A_E fun _ K3 => ?_
 refine esk rfl ?_
 refine A_H ?_
 refine ent_open 22 1 false aH (fun _ => rfl) ?_
 refine ent_rows0 3 aInt ?_
 refine A_Z (fun (ss : Int × List Hdr × Option Nat × Nat) => match ss with | (s, Hs, rr3, cc3) => (⟨[(1, aInt steps), (2, aInt t), (3, aInt i), (4, aEx (.pointer (some ⟨b4_1, 0, none⟩))), (9, aEx (vec rr3 ((Hs).length) cc3)), (10, aInt s)], [oRws 3 aInt [] Hs (List.replicate s.toNat c.zrow), oVec rr3 cc3 22 1 false aH Hs, oBox b4_1 27 [aInt c.F.P, aInt c.F.M, aSl 1 false aInt c.F.mod, aSl 1 false aRows c.Gen]]⟩ : St)) (fun (ss : Int × List Hdr × Option Nat × Nat) => match ss with | (s, Hs, rr3, cc3) => (0 <= s) /\ (s <= steps) /\ ((Hs.length : Int) = s)) (fun (ss : Int × List Hdr × Option Nat × Nat) => match ss with | (s, Hs, rr3, cc3) => (steps - s).toNat) (0, [], none, 0) ⟨(by first | rfl | assumption | omega | (simp_all; done) | grind), (by first | rfl | assumption | omega | (simp_all; done) | grind), (by simp)⟩ (A_G ⟨rfl, rfl, rfl, rfl, A_P ((show aEx (vec none ([] : List _).length 0) = aEx (vec none (([]).length) 0) from av_vec (congrArg List.length (show [] = [] by first | rfl | assumption | omega | (simp_all; done) | grind).symm))), A_P (A_d (show 0 = (0 : Int) by first | rfl | assumption | omega | (simp_all; done) | grind)), trivial⟩ (A_J (own_rws rfl (show List.replicate (0 : Int).toNat c.zrow = [] by first | rfl | assumption | omega | (simp_all; done) | grind)) (rfl))) ?_
 rintro ⟨s, Hs, rr3, cc3⟩ ⟨s0, sl, hH⟩
 show Ent _ ⟨_, [_, _, _]⟩ _
 refine A_E fun _ K5 => ?_
 refine esr rfl fun _ K6 => ?_
 refine A_A rfl (A_q rfl rfl) ?_
 refine enk K6 ?_
 refine A_I rfl (fun h13 => ?_) (fun h13 => ?_)
 ·refine esp K5 ?_
  refine A_E fun _ K7 => ?_
  refine A_H ?_
  refine A_F ?_
  refine emm rfl ?_
  refine A_A rfl (A_B runUnderlying27 rfl sizeOf25 (by decide) rfl) ?_
  refine A_A rfl (A_L (k := 2) isAgg25 rfl rfl rfl) ?_
  refine A_A rfl (A_p rfl runUnderlying25 rfl) ?_
  refine ent_make aInt 0 rfl vt22 rfl rfl (by first | omega | (simp only [List.length_set]; omega)) (by first | omega | (simp only [List.length_set]; omega)) (by first | omega | (simp only [List.length_set]; omega)) (fun _ _ => rfl) (AllV.mem ⟨rfl, trivial⟩) (fun b20_4 => ?_)
  refine ent_appendL (k := 2) (enc := aH) (y := ⟨(some b20_4), ((↑c.Gen.length : Int)).toNat, ((↑c.Gen.length : Int)).toNat⟩) rfl rfl vt42 rfl rfl (by first | rfl | assumption | (simp; done) | (simp_all; done) | omega) rfl ((A_u (one_ex rfl))) (by first | omega | (simp only [List.length_append, List.length_cons, List.length_nil]; omega) | (simp; omega) | (simp; done)) (by first | omega | (simp only [List.length_append, List.length_cons, List.length_nil]; omega) | (simp; omega) | (simp; done)) (by decide) (fun b22_5 c22_5 => ?_)
  refine ent_pushRow 1 0 (m := ((↑c.Gen.length : Int)).toNat) rfl rfl (by decide) (by first | rfl | assumption | (simp; done) | (simp_all; done) | omega) ?_
  refine emm rfl ?_
  refine enk K7 ?_
  refine A_F ?_
  refine emm rfl ?_
  refine A_A rfl (A_j rfl rfl (by first | omega | (simp only [List.length_set]; omega)) (by first | omega | (simp only [List.length_set]; omega))) ?_
  refine emm rfl ?_
  refine A_N ?_
  refine A_R (s := (s, Hs, rr3, cc3)) (s + 1, Hs ++ [⟨(some b20_4), ((↑c.Gen.length : Int)).toNat, ((↑c.Gen.length : Int)).toNat⟩], (some b22_5), c22_5) ⟨(by first | rfl | assumption | omega | (simp_all; done) | grind), (by first | rfl | assumption | omega | (simp_all; done) | grind), (by simp; omega)⟩ (by first | omega | (dsimp only; omega)) (A_G ⟨rfl, rfl, rfl, rfl, A_P (av_vec (congrArg List.length (show (Hs ++ [⟨(some b20_4), ((↑c.Gen.length : Int)).toNat, ((↑c.Gen.length : Int)).toNat⟩]) = Hs ++ [⟨(some b20_4), ((↑c.Gen.length : Int)).toNat, ((↑c.Gen.length : Int)).toNat⟩] by first | rfl | assumption | omega | (simp_all; done) | grind).symm)), rfl, trivial⟩ (A_J (own_rws (show (Hs ++ [⟨(some b20_4), ((↑c.Gen.length : Int)).toNat, ((↑c.Gen.length : Int)).toNat⟩]) = Hs ++ [⟨(some b20_4), ((↑c.Gen.length : Int)).toNat, ((↑c.Gen.length : Int)).toNat⟩] by first | rfl | assumption | omega | (simp_all; done) | grind) (show List.replicate (s + 1).toNat c.zrow = (List.replicate s.toNat c.zrow) ++ [List.replicate (((↑c.Gen.length : Int)).toNat) 0] by rw [show (s + 1).toNat = s.toNat + 1 by omega, List.replicate_succ']; rfl)) (rfl)))
 refine A_a ?_
 refine A_v K3 ?_
 refine A_E fun _ K8 => ?_
 have hrz : ix [] (List.replicate s.toNat c.zrow) t = c.zrow := ix_repl _ _ t0 (by omega) _
 have lrz : (ix [] (List.replicate s.toNat c.zrow) t).length = c.Gen.length := by rw [hrz]; exact lz
 have lrr : (List.replicate s.toNat c.zrow).length = s.toNat := List.length_replicate
 have lss : Hs.length = ((List.replicate s.toNat c.zrow).set t.toNat ((ix [] (List.replicate s.toNat c.zrow) t).set i.toNat 1)).length := by rw [List.length_set, lrr]; omega
 refine A_F ?_
 refine emm rfl ?_
 refine ent_rsome 1 rfl (by omega) (fun b25_6 hb25_6 => ?_)
 subst hb25_6
 refine A_A rfl (A_n sl42 rfl rfl (by first | omega | (simp only [List.length_set]; omega)) (by first | omega | (simp only [List.length_set]; omega))) ?_
 refine A_A rfl (ok_loadV (k := 1) Hdr.no ti22 rfl rfl (by first | omega | (simp only [List.length_set]; omega)) (by first | omega | (simp only [List.length_set]; omega))) ?_
 refine emm rfl ?_
 refine A_A rfl (ok_indexH (k := 0) sl22 rfl rfl rfl (by first | omega | (simp only [List.length_set]; omega)) (by first | omega | (simp only [List.length_set]; omega)) (by first | exact List.not_mem_nil | (simp; done) | (simp; omega)) (by first | omega | (simp only [List.length_set]; omega)) (by first | omega | (simp only [List.length_set]; omega))) ?_
 refine ent_storeH (k := 0) (z := 1) ti3 rfl rfl rfl (A_u (A_M _)) (by first | omega | (simp only [List.length_set]; omega)) (by first | omega | (simp only [List.length_set]; omega)) (by first | omega | (simp only [List.length_set]; omega)) (by first | omega | (simp only [List.length_set]; omega)) ?_
 refine enk K8 ?_
 refine esk rfl ?_
 refine A_S ?_
 refine ent_frzRows 1 0 rfl rfl (by decide) ?_
 exact retR1 (.inr rfl) results88 (A_O (A_W rfl (cv_vec (k := 0) (off_x rfl) (by first | rfl | assumption | (simp; done) | (simp_all; done) | omega) (by first | (rw [hrz, show s = steps by omega]; done) | (rw [hrz, show s = steps by omega]; rfl)))))

theorem rBlocks_ok (c : Cnv) (steps more len : Int) (hOk : c.Ok) (m0 : 0 <= more) (m1 : more <= 1000) (hlen : len = steps + more) : Ctr Try.prog 50 [aCnv c, aInt steps, aInt more] (aInt (c.tB steps len)) := by
 subst hlen
 have hF := hOk.fld
 have hS := hF.1
 have hq := hS.bd
 have hik : c.k = (c.Gen.length : Int) := rfl
 have hen : c.n = ((ix [] c.Gen 0).length : Int) := rfl
 have hkn := hOk.kn
 have hnl := hOk.len
 refine ctr_of Try.call50 func50 rfl rfl ?_
 intro w O
 refine A_l 0 2 rfl rfl (fun hlen0_2 => ?_)
 refine A_l 0 3 rfl rfl (fun hlen0_3 => ?_)
 refine esr rfl fun _ K1 => ?_
 refine A_s rfl rfl (AllOne.mem ⟨(A_M _), (A_M _), A_i, A_i, trivial⟩) (fun b3_1 => ?_)
 refine emm rfl ?_
 refine enk K1 ?_
 refine A_E fun _ K2 => ?_
 refine esr rfl fun _ K3 => ?_
 refine A_A rfl (A_q rfl rfl) ?_
 refine enk K3 ?_
 refine A_I rfl (fun h8 => ?_) (fun h8 => ?_)
 ·refine esk rfl ?_
  refine A_S ?_
  exact retR1 (.inr rfl) results50 (A_O (A_W rfl (A_Y (by unfold Cnv.tB; rw [if_pos h8]))))
 have hmul : steps <= 64 -> 0 <= ((ix [] c.Gen 0).length : Int) * (steps + more) /\ ((ix [] c.Gen 0).length : Int) * (steps + more) <= 64 * 1064 := fun h => ⟨Int.mul_nonneg (by omega) (by omega), Int.mul_le_mul (by omega) (by omega) (by omega) (by omega)⟩
 refine esp K2 ?_
 refine A_E fun _ K5 => ?_
 refine A_E fun _ K6 => ?_
 refine ent_cut (⟨[(22, aBool (decide ((64 < steps) \/ (64 < ((↑(ix [] c.Gen 0).length : Int) * (steps + more))))))], [oBox b3_1 27 [aInt c.F.P, aInt c.F.M, aSl 1 false aInt c.F.mod, aSl 1 false aRows c.Gen]]⟩) ?_ ?_
 ·refine A_F ?_
  refine emm rfl ?_
  refine A_A rfl (ok_gtr rfl rfl) ?_
  refine emm rfl ?_
  refine ent_guardXDf rfl rfl rfl rfl (fun hg11 => ?_) (fun hg11 => ?_)
  ·refine A_A rfl (A_B runUnderlying27 rfl sizeOf25 (by decide) rfl) ?_
   refine A_D rfl rfl rfl rfl (decide_eq_false hg11) ?_
   refine A_A rfl (A_L (k := 0) isAgg25 rfl rfl rfl) ?_
   refine A_D rfl rfl rfl rfl (decide_eq_false hg11) ?_
   refine A_A rfl (A_U [] sl25 rfl rfl (by omega) (by omega)) ?_
   refine A_D rfl rfl rfl rfl (decide_eq_false hg11) ?_
   refine A_A rfl (A_Q ti42 rfl) ?_
   refine A_D rfl rfl rfl rfl (decide_eq_false hg11) ?_
   refine A_A rfl (A_p rfl runUnderlying42 rfl) ?_
   refine A_D rfl rfl rfl rfl (decide_eq_false hg11) ?_
   refine emm rfl ?_
   refine A_D rfl rfl rfl rfl (decide_eq_false hg11) ?_
   refine emm rfl ?_
   refine A_D rfl rfl rfl rfl (decide_eq_false hg11) ?_
   refine A_A rfl (A_j rfl rfl (by omega) (by omega)) ?_
   refine A_D rfl rfl rfl rfl (decide_eq_false hg11) ?_
   refine A_A rfl (ok_mul rfl rfl (by omega) (by omega)) ?_
   refine A_D rfl rfl rfl rfl (decide_eq_false hg11) ?_
   refine A_A rfl (ok_gtr rfl rfl) ?_
   refine A_A rfl (A_h rfl (decide_eq_false hg11) rfl) ?_
   refine A_N ?_
   exact A_G ⟨A_T (dq_Q ((or_iff_right hg11).trans Iff.rfl)), trivial⟩ rfl
  refine A_C rfl rfl rfl rfl (decide_eq_true hg11) ?_
  refine A_C rfl rfl rfl rfl (decide_eq_true hg11) ?_
  refine A_C rfl rfl rfl rfl (decide_eq_true hg11) ?_
  refine A_C rfl rfl rfl rfl (decide_eq_true hg11) ?_
  refine A_C rfl rfl rfl rfl (decide_eq_true hg11) ?_
  refine A_C rfl rfl rfl rfl (decide_eq_true hg11) ?_
  refine A_C rfl rfl rfl rfl (decide_eq_true hg11) ?_
  refine A_C rfl rfl rfl rfl (decide_eq_true hg11) ?_
  refine A_C rfl rfl rfl rfl (decide_eq_true hg11) ?_
  refine A_A rfl (A_f rfl (decide_eq_true hg11) rfl) ?_
  refine A_N ?_
  exact A_G ⟨A_T (dq_T rfl (Or.inl hg11)), trivial⟩ rfl
 refine A_v K6 ?_
 refine A_I rfl (fun h22 => ?_) (fun h22 => ?_)
 ·refine esk rfl ?_
  refine A_S ?_
  exact retR1 (.inr rfl) results50 (A_O (A_W rfl (A_Y (by unfold Cnv.tB; rw [hen, if_neg h8, if_pos h22]))))
 refine esp K5 ?_
 refine esk rfl ?_
 refine A_S ?_
 exact retR1 (.inr rfl) results50 (A_O (A_W rfl (A_Y (by unfold Cnv.tB; rw [hen, if_neg h8, if_neg h22]))))
end Go.Proofs.Ytfjhbdfgbpcchaa

