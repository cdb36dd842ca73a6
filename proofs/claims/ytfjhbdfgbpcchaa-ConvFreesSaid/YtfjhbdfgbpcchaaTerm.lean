/-
  Terminated messages of the reference.
-/
import Derived.Test.YtfjhbdfgbpcchaaProg
import Derived.Test.YtfjhbdfgbpcchaaTab
import Derived.Test.YtfjhbdfgbpcchaaCy
import Derived.Test.YtfjhbdfgbpcchaaPlainS
import Derived.Test.YtfjhbdfgbpcchaaFieldA
import Derived.Test.YtfjhbdfgbpcchaaFieldB
import Derived.Test.YtfjhbdfgbpcchaaFieldC
import Derived.Test.YtfjhbdfgbpcchaaFieldE
import Derived.Test.YtfjhbdfgbpcchaaPoly
import Derived.Test.YtfjhbdfgbpcchaaBuild
import Derived.Test.YtfjhbdfgbpcchaaRefC
import Derived.Test.YtfjhbdfgbpcchaaStep
import Derived.Test.YtfjhbdfgbpcchaaRefN
open Go Go.Cw
namespace Go.Proofs.Ytfjhbdfgbpcchaa
set_option maxRecDepth 100000
set_option linter.unusedVariables false
set_option linter.unusedSimpArgs false
theorem rMemory_ok (c : Cnv) (hFew : c.Few) : Ctr Try.prog 51 [aCnv c] (aInt c.mem) := by
  have hik : c.k = (c.Gen.length : Int) := rfl
  have hf1 := hFew.1
  refine ctr_of Try.call51 Try.func51 rfl rfl ?_
  intro w O
  refine ent_lenC 0 2 rfl rfl (fun hlen0_2 => ?_)
  refine ent_lenC 0 3 rfl rfl (fun hlen0_3 => ?_)
  refine ent_seq fun K1 hK1 => ?_
  refine ent_region ?_
  refine ent_boxS rfl rfl (AllOne.mem ⟨(one_int _), (one_int _), one_sl, one_sl, trivial⟩) (fun b1_1 => ?_)
  refine ent_o rfl (ok_assign rfl) ?_
  refine ent_nil ?_
  refine ent_k hK1 ?_
  refine ent_seq fun K2 hK2 => ?_
  refine ent_region ?_
  refine ent_o rfl (ok_assign rfl) ?_
  refine ent_nil ?_
  refine ent_k hK2 ?_
  refine ent_seq fun K3 hK3 => ?_
  refine ent_seq fun K4 hK4 => ?_
  refine ent_region ?_
  refine ent_o rfl (ok_assign rfl) ?_
  refine ent_nil ?_
  refine ent_k hK4 ?_
  refine ent_block ?_
  refine ent_loop (fun (i : Int) => (⟨[(1, aEx (.pointer (some ⟨b1_1, 0, none⟩))), (3, aInt (c.maxD i.toNat)), (4, aInt i)], [oBox b1_1 27 [aInt c.F.P, aInt c.F.M, aSl 1 false aInt c.F.mod, aSl 1 false aRows c.Gen]]⟩ : St)) (fun (i : Int) => (0 ≤ i) ∧ (i ≤ c.Gen.length)) (fun (i : Int) => (c.Gen.length - i).toNat) 0 ⟨(by first | rfl | assumption | omega | (simp_all; done) | grind), (by first | rfl | assumption | omega | (simp_all; done) | grind)⟩ (ent_rep ⟨rfl, slot_av (av_int (show 0 = c.maxD (0 : Int).toNat by rfl)), slot_av (av_int (show 0 = (0 : Int) by first | rfl | assumption | omega | (simp_all; done) | grind)), trivial⟩ rfl) ?_
  rintro i ⟨h0, h1⟩
  show Ent _ (⟨[(1, aEx (.pointer (some ⟨b1_1, 0, none⟩))), (3, aInt (c.maxD i.toNat)), (4, aInt i)], [oBox b1_1 27 [aInt c.F.P, aInt c.F.M, aSl 1 false aInt c.F.mod, aSl 1 false aRows c.Gen]]⟩ : St) _
  refine ent_seq fun K5 hK5 => ?_
  refine ent_seq fun K6 hK6 => ?_
  refine ent_region ?_
  refine ent_o rfl (ok_move rfl) ?_
  refine ent_o rfl (ok_fieldAddrEx Try.runUnderlying27 rfl Try.sizeOf25 (by decide) rfl) ?_
  refine ent_o rfl (ok_loadB (k := 0) Try.isAgg25 rfl rfl rfl) ?_
  refine ent_o rfl (ok_len rfl Try.runUnderlying25 rfl) ?_
  refine ent_o rfl (ok_lss rfl rfl) ?_
  refine ent_nil ?_
  refine ent_k hK6 ?_
  refine ent_condD rfl (fun h9 => ?_) (fun h9 => ?_)
  · refine ent_skip ?_
    refine ent_k hK5 ?_
    refine ent_seq fun K7 hK7 => ?_
    refine ent_block ?_
    refine ent_region ?_
    refine ent_o rfl (ok_move rfl) ?_
    refine ent_o rfl (ok_loadBS (k := 0) ti27 rfl rfl rfl) ?_
    refine ent_o rfl (ok_move rfl) ?_
    refine ent_o rfl (ok_call (rDegree_ok c i (by first | rfl | assumption | omega | (simp_all; done) | grind) (by first | rfl | assumption | omega | (simp_all; done) | grind)) rfl) ?_
    refine ent_o rfl (ok_max rfl rfl) ?_
    refine ent_o rfl (ok_assign rfl) ?_
    refine ent_nil ?_
    refine ent_k hK7 ?_
    refine ent_region ?_
    refine ent_o rfl (ok_move rfl) ?_
    refine ent_o rfl (ok_add rfl rfl (by omega) (by omega)) ?_
    refine ent_o rfl (ok_assign rfl) ?_
    refine ent_nil ?_
    refine ent_again (s := (i)) (i + 1) ⟨(by first | rfl | assumption | omega | (simp_all; done) | grind), (by first | rfl | assumption | omega | (simp_all; done) | grind)⟩ (by first | omega | (dsimp only; omega)) (ent_rep ⟨rfl, slot_av (av_int (show max (c.maxD i.toNat) (c.deg i) = c.maxD (i + 1).toNat by exact (c.maxD_succ h0).symm)), rfl, trivial⟩ rfl)
  · refine ent_exit ?_
    refine ent_k hK3 ?_
    refine ent_seq fun K8 hK8 => ?_
    refine ent_region ?_
    refine ent_o rfl (ok_move rfl) ?_
    refine ent_o rfl (ok_assign rfl) ?_
    refine ent_nil ?_
    refine ent_k hK8 ?_
    refine ent_ret ?_
    exact retR1 (.inr rfl) Try.results51 (resr_tmp (res_cv rfl (cv_int (by rw [show i = (c.Gen.length : Int) by omega]; rfl))))

theorem rTerminate_ok (c : Cnv) (us : List (List Int)) (hFew : c.Few) (hul : us.length ≤ 10000) : Ctr Try.prog 33 [aCnv c, aSl 1 false aInts us] (aSl 1 false aInts (c.term us)) := by
  have hmn := c.maxD_nonneg c.Gen.length
  change 0 ≤ c.mem at hmn
  have hm4 := hFew.mem_le
  have hik : c.k = (c.Gen.length : Int) := rfl
  have hf1 := hFew.1
  refine ctr_of Try.call33 Try.func33 rfl rfl ?_
  intro w O
  refine ent_lenC 0 2 rfl rfl (fun hlen0_2 => ?_)
  refine ent_lenC 0 3 rfl rfl (fun hlen0_3 => ?_)
  refine ent_len 1 rfl (fun hlen1 => ?_)
  refine ent_seq fun K1 hK1 => ?_
  refine ent_region ?_
  refine ent_boxS rfl rfl (AllOne.mem ⟨(one_int _), (one_int _), one_sl, one_sl, trivial⟩) (fun b2_1 => ?_)
  refine ent_o rfl (ok_assign rfl) ?_
  refine ent_nil ?_
  refine ent_k hK1 ?_
  refine ent_seq fun K2 hK2 => ?_
  refine ent_region ?_
  refine ent_buildN aInts [] rfl vt42 (by decide) (rfl) rfl (fun b7_2 => ?_)
  refine ent_o rfl (ok_move rfl) ?_
  refine ent_appendS (k := 0) rfl vt42 rfl rfl (by first | rfl | (simp; done) | (simp_all; done) | omega) rfl (cv_id sub_refl) (by first | omega | (simp only [List.length_append, List.length_cons, List.length_nil]; omega) | (simp; omega)) (by first | omega | (simp only [List.length_append, List.length_cons, List.length_nil]; omega) | (simp; omega)) (fun r9_2 cr9_2 => ?_)
  refine ent_o rfl (ok_assign rfl) ?_
  refine ent_nil ?_
  refine ent_k hK2 ?_
  refine ent_seq fun K3 hK3 => ?_
  refine ent_seq fun K4 hK4 => ?_
  refine ent_region ?_
  refine ent_o rfl (ok_assign rfl) ?_
  refine ent_nil ?_
  refine ent_k hK4 ?_
  refine ent_block ?_
  refine ent_loop (fun (ss : Int × Option Nat × Nat) => match ss with | (d, rr4, cc4) => (⟨[(2, aEx (.pointer (some ⟨b2_1, 0, none⟩))), (5, aEx (vec rr4 ((c.termTo us d).length) cc4)), (6, aInt d)], [oVec rr4 cc4 22 1 false aInts (c.termTo us d), oBox b2_1 27 [aInt c.F.P, aInt c.F.M, aSl 1 false aInt c.F.mod, aSl 1 false aRows c.Gen]]⟩ : St)) (fun (ss : Int × Option Nat × Nat) => match ss with | (d, rr4, cc4) => (0 ≤ d) ∧ (d ≤ c.mem)) (fun (ss : Int × Option Nat × Nat) => match ss with | (d, rr4, cc4) => (c.mem - d).toNat) (0, r9_2, cr9_2) ⟨(by first | rfl | assumption | omega | (simp_all; done) | grind), (by first | rfl | assumption | omega | (simp_all; done) | grind)⟩ (ent_rep ⟨rfl, slot_av (av_vec (congrArg List.length (show c.termTo us (0 : Int) = [] ++ us by simp [Cnv.termTo]).symm)), slot_av (av_int (show 0 = (0 : Int) by first | rfl | assumption | omega | (simp_all; done) | grind)), trivial⟩ (own_cons (own_vec (show c.termTo us (0 : Int) = [] ++ us by simp [Cnv.termTo])) (rfl))) ?_
  rintro ⟨d, rr4, cc4⟩ ⟨h0, h1⟩
  show Ent _ (⟨[(2, aEx (.pointer (some ⟨b2_1, 0, none⟩))), (5, aEx (vec rr4 ((c.termTo us d).length) cc4)), (6, aInt d)], [oVec rr4 cc4 22 1 false aInts (c.termTo us d), oBox b2_1 27 [aInt c.F.P, aInt c.F.M, aSl 1 false aInt c.F.mod, aSl 1 false aRows c.Gen]]⟩ : St) _
  have ltt := Cnv.length_termTo (c := c) us d
  refine ent_seq fun K5 hK5 => ?_
  refine ent_seq fun K6 hK6 => ?_
  refine ent_region ?_
  refine ent_o rfl (ok_move rfl) ?_
  refine ent_o rfl (ok_loadBS (k := 1) ti27 rfl rfl rfl) ?_
  refine ent_o rfl (ok_call (rMemory_ok c (by first | rfl | assumption | omega | (simp_all; done) | grind)) rfl) ?_
  refine ent_o rfl (ok_lss rfl rfl) ?_
  refine ent_nil ?_
  refine ent_k hK6 ?_
  refine ent_condD rfl (fun h13 => ?_) (fun h13 => ?_)
  · refine ent_skip ?_
    refine ent_k hK5 ?_
    refine ent_seq fun K7 hK7 => ?_
    refine ent_block ?_
    refine ent_region ?_
    refine ent_o rfl (ok_move rfl) ?_
    refine ent_o rfl (ok_fieldAddrEx Try.runUnderlying27 rfl Try.sizeOf25 (by decide) rfl) ?_
    refine ent_o rfl (ok_loadB (k := 1) Try.isAgg25 rfl rfl rfl) ?_
    refine ent_o rfl (ok_len rfl Try.runUnderlying25 rfl) ?_
    refine ent_make aInt 0 rfl vt22 rfl rfl (by omega) (by omega) (by omega) (fun _ _ => rfl) (AllV.mem ⟨rfl, trivial⟩) (fun b20_5 => ?_)
    refine ent_give 0 20 rfl (cv_vec (k := 0) (off_erase rfl) (by first | rfl | (simp; done) | (simp_all; done) | omega) rfl) ?_
    refine ent_appendL (k := 0) (enc := aInts) (y := List.replicate (((↑c.Gen.length : Int)).toNat) 0) rfl rfl vt42 rfl rfl (by first | rfl | (simp; done) | (simp_all; done) | omega) rfl ((elem_one one_sl)) (by first | omega | (simp only [List.length_append, List.length_cons, List.length_nil]; omega) | (simp; omega)) (by first | omega | (simp only [List.length_append, List.length_cons, List.length_nil]; omega) | (simp; omega)) (by decide) (fun b22_6 c22_6 => ?_)
    refine ent_o rfl (ok_assign rfl) ?_
    refine ent_nil ?_
    refine ent_k hK7 ?_
    refine ent_region ?_
    refine ent_o rfl (ok_move rfl) ?_
    refine ent_o rfl (ok_add rfl rfl (by omega) (by omega)) ?_
    refine ent_o rfl (ok_assign rfl) ?_
    refine ent_nil ?_
    refine ent_again (s := (d, rr4, cc4)) (d + 1, (some b22_6), c22_6) ⟨(by first | rfl | assumption | omega | (simp_all; done) | grind), (by first | rfl | assumption | omega | (simp_all; done) | grind)⟩ (by first | omega | (dsimp only; omega)) (ent_rep ⟨rfl, slot_av (av_vec (congrArg List.length (show c.termTo us (d + 1) = (c.termTo us d) ++ [List.replicate (((↑c.Gen.length : Int)).toNat) 0] by first | exact Cnv.termTo_succ us h0 | (rw [Cnv.termTo_succ us h0]; rfl)).symm)), rfl, trivial⟩ (own_cons (own_vec (show c.termTo us (d + 1) = (c.termTo us d) ++ [List.replicate (((↑c.Gen.length : Int)).toNat) 0] by first | exact Cnv.termTo_succ us h0 | (rw [Cnv.termTo_succ us h0]; rfl))) (rfl)))
  · refine ent_exit ?_
    refine ent_k hK3 ?_
    refine ent_seq fun K8 hK8 => ?_
    refine ent_region ?_
    refine ent_o rfl (ok_move rfl) ?_
    refine ent_o rfl (ok_assign rfl) ?_
    refine ent_nil ?_
    refine ent_k hK8 ?_
    refine ent_ret ?_
    exact retR1 (.inr rfl) Try.results33 (resr_tmp (res_cv rfl (cv_vec (k := 0) (off_x rfl) (by first | rfl | (simp; done) | (simp_all; done) | omega) (by rw [show d = c.mem by omega]; rfl))))

theorem four_ok   : Ctr Try.prog 34 [] (aCnv fourC) := by
  refine ctr_of Try.call34 Try.func34 rfl rfl ?_
  intro w O
  refine ent_seq fun K1 hK1 => ?_
  refine ent_region ?_
  refine ent_alloc (z := .agg #[.int .i64 0, .int .i64 0, .slice none 0 0, .slice none 0 0]) [aInt 0, aInt 0, aEx (.slice none 0 0), aEx (.slice none 0 0)] rfl zv27 rfl zc27 (fun b0_1 => ?_)
  refine ent_nil ?_
  refine ent_k hK1 ?_
  refine ent_seq fun K2 hK2 => ?_
  refine ent_region ?_
  refine ent_o rfl (ok_build st24 (As := [aInt 0, aInt 0, aEx (.slice none 0 0)]) z24 (⟨0, 1, rfl, .inl ⟨rfl, _, rfl, (one_int _), rfl, ⟨1, 1, rfl, .inl ⟨rfl, _, rfl, (one_int _), rfl, rfl⟩⟩⟩⟩)) ?_
  refine ent_buildN aInt [1, 0, 1] rfl vt22 (by decide) (⟨0, 1, rfl, .inl ⟨rfl, _, rfl, (one_int _), rfl, ⟨1, 1, rfl, .inl ⟨rfl, _, rfl, (one_int _), rfl, ⟨2, 1, rfl, .inl ⟨rfl, _, rfl, (one_int _), rfl, rfl⟩⟩⟩⟩⟩⟩) rfl (fun b2_2 => ?_)
  refine ent_buildN aInt [1, 1, 1] rfl vt22 (by decide) (⟨0, 1, rfl, .inl ⟨rfl, _, rfl, (one_int _), rfl, ⟨1, 1, rfl, .inl ⟨rfl, _, rfl, (one_int _), rfl, ⟨2, 1, rfl, .inl ⟨rfl, _, rfl, (one_int _), rfl, rfl⟩⟩⟩⟩⟩⟩) rfl (fun b3_3 => ?_)
  refine ent_give 1 2 rfl (cv_vec (k := 1) (off_erase rfl) (by first | rfl | (simp; done) | (simp_all; done) | omega) rfl) ?_
  refine ent_give 0 3 rfl (cv_vec (k := 0) (off_erase rfl) (by first | rfl | (simp; done) | (simp_all; done) | omega) rfl) ?_
  refine ent_buildN aInts [[1, 0, 1], [1, 1, 1]] rfl vt42 (by decide) (⟨0, 1, rfl, .inl ⟨rfl, _, rfl, one_sl, rfl, ⟨1, 1, rfl, .inl ⟨rfl, _, rfl, one_sl, rfl, rfl⟩⟩⟩⟩) rfl (fun b4_4 => ?_)
  refine ent_give 0 4 rfl (cv_vec (k := 0) (off_erase rfl) (by first | rfl | (simp; done) | (simp_all; done) | omega) rfl) ?_
  refine ent_buildN aRows [[[1, 0, 1], [1, 1, 1]]] rfl vt25 (by decide) (⟨0, 1, rfl, .inl ⟨rfl, _, rfl, one_sl, rfl, rfl⟩⟩) rfl (fun b5_5 => ?_)
  refine ent_o rfl (ok_build st27 (As := [aInt 0, aInt 0, aEx (.slice none 0 0), aEx (.slice none 0 0)]) z27 (⟨0, 3, rfl, .inr ⟨_, rfl, rfl, rfl, ⟨3, 1, rfl, .inl ⟨rfl, _, rfl, (one_ex rfl), rfl, rfl⟩⟩⟩⟩)) ?_
  refine ent_storeBS (k := 1) Try.sizeOf27 rfl rfl rfl (AllOne.mem ⟨(one_int _), (one_int _), (one_ex rfl), (one_ex rfl), trivial⟩) rfl rfl ?_
  refine ent_nil ?_
  refine ent_k hK2 ?_
  refine ent_ret ?_
  exact retR1 (.inr rfl) Try.results34 (resr_cell (k := 1) ti27 rfl rfl rfl (cv_agg ⟨cv_int (by first | rfl | assumption | omega | (simp_all; done) | grind), cv_int (by first | rfl | assumption | omega | (simp_all; done) | grind), cv_nil (fun _ => rfl) (by first | rfl | assumption | omega | (simp_all; done) | grind), cv_vec (k := 0) (off_x rfl) (by first | rfl | (simp; done) | (simp_all; done) | omega) (by first | rfl | assumption | omega | (simp_all; done) | grind), trivial⟩))
end Go.Proofs.Ytfjhbdfgbpcchaa
