/-
  Walks of functions of the program and the reference.
-/
import Derived.Test.YtfjhbdfgbpcchaaV14
import Derived.Test.YtfjhbdfgbpcchaaV15
open Go Go.Cw
namespace Go.Proofs.Ytfjhbdfgbpcchaa
open Try
set_option maxRecDepth 100000
set_option linter.unusedVariables false
set_option linter.unusedSimpArgs false
theorem rMemory_ok (c : Cnv) (hFew : c.Few) : Ctr Try.prog 51 [aCnv c] (aInt c.mem) := by
 have hik : c.k = (c.Gen.length : Int) := rfl
 have hf1 := hFew.1
 refine ctr_of Try.call51 func51 rfl rfl ?_
 intro w O
 refine A_f 0 2 rfl rfl (fun hlen0_2 => ?_)
 refine A_f 0 3 rfl rfl (fun hlen0_3 => ?_)
 refine esr rfl fun _ K1 => ?_
 refine A_o rfl rfl (AllOne.mem ⟨(A_M _), (A_M _), A_i, A_i, trivial⟩) (fun b1_1 => ?_)
 refine emm rfl ?_
 refine enk K1 ?_
 refine esk rfl ?_
 refine A_C fun _ K3 => ?_
 refine esk rfl ?_
 refine A_H ?_
 refine A_a (fun (i : Int) => (⟨[(1, aEx (.pointer (some ⟨b1_1, 0, none⟩))), (3, aInt (c.maxD i.toNat)), (4, aInt i)], [oBox b1_1 27 [aInt c.F.P, aInt c.F.M, aSl 1 false aInt c.F.mod, aSl 1 false aRows c.Gen]]⟩ : St)) (fun (i : Int) => (0 <= i) /\ (i <= c.Gen.length)) (fun (i : Int) => (c.Gen.length - i).toNat) 0 ⟨(by first | rfl | assumption | omega | (simp_all; done) | grind), (by first | rfl | assumption | omega | (simp_all; done) | grind)⟩ (A_G ⟨rfl, A_P (A_c (show 0 = c.maxD (0 : Int).toNat by rfl)), A_P (A_c (show 0 = (0 : Int) by first | rfl | assumption | omega | (simp_all; done) | grind)), trivial⟩ rfl) ?_
 rintro i ⟨h0, h1⟩
 show Ent _ ⟨_, [_]⟩ _
 refine A_C fun _ K5 => ?_
 refine esr rfl fun _ K6 => ?_
 refine A_A rfl (A_B runUnderlying27 rfl sizeOf25 (by decide) rfl) ?_
 refine A_A rfl (A_L (k := 0) isAgg25 rfl rfl rfl) ?_
 refine A_A rfl (A_l rfl runUnderlying25 rfl) ?_
 refine A_A rfl (A_p rfl rfl) ?_
 refine enk K6 ?_
 refine A_F rfl (fun h9 => ?_) (fun h9 => ?_)
 ·refine esp K5 ?_
  refine A_C fun _ K7 => ?_
  refine A_H ?_
  refine A_E ?_
  refine emm rfl ?_
  refine A_A rfl (A_V (k := 0) ti27 rfl rfl rfl) ?_
  refine emm rfl ?_
  refine A_A rfl (A_Y (rDegree_ok c i (by first | rfl | assumption | omega | (simp_all; done) | grind) (by first | rfl | assumption | omega | (simp_all; done) | grind)) rfl) ?_
  refine A_A rfl (ok_max rfl rfl) ?_
  refine emm rfl ?_
  refine enk K7 ?_
  refine A_E ?_
  refine emm rfl ?_
  refine A_A rfl (A_j rfl rfl (by omega) (by omega)) ?_
  refine emm rfl ?_
  refine A_O ?_
  refine A_T (s := (i)) (i + 1) ⟨(by first | rfl | assumption | omega | (simp_all; done) | grind), (by first | rfl | assumption | omega | (simp_all; done) | grind)⟩ (by first | omega | (dsimp only; omega)) (A_G ⟨rfl, A_P (A_c (show max (c.maxD i.toNat) (c.deg i) = c.maxD (i + 1).toNat by exact (c.maxD_succ h0).symm)), rfl, trivial⟩ rfl)
 refine A_b ?_
 refine A_s K3 ?_
 refine esk rfl ?_
 refine A_S ?_
 exact retR1 (.inr rfl) results51 (A_N (A_W rfl (A_Z (by rw [show i = (c.Gen.length : Int) by omega]; rfl))))

theorem rTerminate_ok (c : Cnv) (us : List (List Int)) (hFew : c.Few) (hul : us.length <= 10000) : Ctr Try.prog 33 [aCnv c, aSl 1 false aInts us] (aSl 1 false aInts (c.term us)) := by
 have hmn := c.maxD_nonneg c.Gen.length
 change 0 <= c.mem at hmn
 have hm4 := hFew.mem_le
 have hik : c.k = (c.Gen.length : Int) := rfl
 have hf1 := hFew.1
 refine ctr_of Try.call33 func33 rfl rfl ?_
 intro w O
 refine A_f 0 2 rfl rfl (fun hlen0_2 => ?_)
 refine A_f 0 3 rfl rfl (fun hlen0_3 => ?_)
 refine ent_len 1 rfl (fun hlen1 => ?_)
 refine esr rfl fun _ K1 => ?_
 refine A_o rfl rfl (AllOne.mem ⟨(A_M _), (A_M _), A_i, A_i, trivial⟩) (fun b2_1 => ?_)
 refine emm rfl ?_
 refine enk K1 ?_
 refine esr rfl fun _ K2 => ?_
 refine ent_buildN aInts [] rfl vt42 (by decide) (rfl) rfl (fun b7_2 => ?_)
 refine emm rfl ?_
 refine ent_appendS (k := 0) rfl vt42 rfl rfl (by first | rfl | assumption | (simp; done) | (simp_all; done) | omega) rfl (cv_id sub_refl) (by first | omega | (simp only [List.length_append, List.length_cons, List.length_nil]; omega) | (simp; omega)) (by first | omega | (simp only [List.length_append, List.length_cons, List.length_nil]; omega) | (simp; omega)) (fun r9_2 cr9_2 => ?_)
 refine emm rfl ?_
 refine enk K2 ?_
 refine A_C fun _ K3 => ?_
 refine esk rfl ?_
 refine A_H ?_
 refine A_a (fun (ss : Int × Option Nat × Nat) => match ss with | (d, rr4, cc4) => (⟨[(2, aEx (.pointer (some ⟨b2_1, 0, none⟩))), (5, aEx (vec rr4 ((c.termTo us d).length) cc4)), (6, aInt d)], [oVec rr4 cc4 22 1 false aInts (c.termTo us d), oBox b2_1 27 [aInt c.F.P, aInt c.F.M, aSl 1 false aInt c.F.mod, aSl 1 false aRows c.Gen]]⟩ : St)) (fun (ss : Int × Option Nat × Nat) => match ss with | (d, rr4, cc4) => (0 <= d) /\ (d <= c.mem)) (fun (ss : Int × Option Nat × Nat) => match ss with | (d, rr4, cc4) => (c.mem - d).toNat) (0, r9_2, cr9_2) ⟨(by first | rfl | assumption | omega | (simp_all; done) | grind), (by first | rfl | assumption | omega | (simp_all; done) | grind)⟩ (A_G ⟨rfl, A_P (av_vec (congrArg List.length (show c.termTo us (0 : Int) = [] ++ us by simp [Cnv.termTo]).symm)), A_P (A_c (show 0 = (0 : Int) by first | rfl | assumption | omega | (simp_all; done) | grind)), trivial⟩ (A_J (A_g (show c.termTo us (0 : Int) = [] ++ us by simp [Cnv.termTo])) (rfl))) ?_
 rintro ⟨d, rr4, cc4⟩ ⟨h0, h1⟩
 show Ent _ ⟨_, [_, _]⟩ _
 have ltt := Cnv.length_termTo (c := c) us d
 refine A_C fun _ K5 => ?_
 refine esr rfl fun _ K6 => ?_
 refine A_A rfl (A_V (k := 1) ti27 rfl rfl rfl) ?_
 refine A_A rfl (A_Y (rMemory_ok c (by first | rfl | assumption | omega | (simp_all; done) | grind)) rfl) ?_
 refine A_A rfl (A_p rfl rfl) ?_
 refine enk K6 ?_
 refine A_F rfl (fun h13 => ?_) (fun h13 => ?_)
 ·refine esp K5 ?_
  refine A_C fun _ K7 => ?_
  refine A_H ?_
  refine A_E ?_
  refine emm rfl ?_
  refine A_A rfl (A_B runUnderlying27 rfl sizeOf25 (by decide) rfl) ?_
  refine A_A rfl (A_L (k := 1) isAgg25 rfl rfl rfl) ?_
  refine A_A rfl (A_l rfl runUnderlying25 rfl) ?_
  refine ent_make aInt 0 rfl vt22 rfl rfl (by omega) (by omega) (by omega) (fun _ _ => rfl) (AllV.mem ⟨rfl, trivial⟩) (fun b20_5 => ?_)
  refine ent_give 0 20 rfl (cv_vec (k := 0) (off_erase rfl) (by first | rfl | assumption | (simp; done) | (simp_all; done) | omega) rfl) ?_
  refine ent_appendL (k := 0) (enc := aInts) (y := List.replicate (((↑c.Gen.length : Int)).toNat) 0) rfl rfl vt42 rfl rfl (by first | rfl | assumption | (simp; done) | (simp_all; done) | omega) rfl ((A_w A_i)) (by first | omega | (simp only [List.length_append, List.length_cons, List.length_nil]; omega) | (simp; omega) | (simp; done)) (by first | omega | (simp only [List.length_append, List.length_cons, List.length_nil]; omega) | (simp; omega) | (simp; done)) (by decide) (fun b22_6 c22_6 => ?_)
  refine emm rfl ?_
  refine enk K7 ?_
  refine A_E ?_
  refine emm rfl ?_
  refine A_A rfl (A_j rfl rfl (by omega) (by omega)) ?_
  refine emm rfl ?_
  refine A_O ?_
  refine A_T (s := (d, rr4, cc4)) (d + 1, (some b22_6), c22_6) ⟨(by first | rfl | assumption | omega | (simp_all; done) | grind), (by first | rfl | assumption | omega | (simp_all; done) | grind)⟩ (by first | omega | (dsimp only; omega)) (A_G ⟨rfl, A_P (av_vec (congrArg List.length (show c.termTo us (d + 1) = (c.termTo us d) ++ [List.replicate (((↑c.Gen.length : Int)).toNat) 0] by first | exact Cnv.termTo_succ us h0 | (rw [Cnv.termTo_succ us h0]; rfl)).symm)), rfl, trivial⟩ (A_J (A_g (show c.termTo us (d + 1) = (c.termTo us d) ++ [List.replicate (((↑c.Gen.length : Int)).toNat) 0] by first | exact Cnv.termTo_succ us h0 | (rw [Cnv.termTo_succ us h0]; rfl))) (rfl)))
 refine A_b ?_
 refine A_s K3 ?_
 refine esk rfl ?_
 refine A_S ?_
 exact retR1 (.inr rfl) results33 (A_N (A_W rfl (cv_vec (k := 0) (off_x rfl) (by first | rfl | assumption | (simp; done) | (simp_all; done) | omega) (by rw [show d = c.mem by omega]; rfl))))

end Go.Proofs.Ytfjhbdfgbpcchaa

