/-
  Walks of functions of the program and the reference.
-/
import Derived.Test.YtcilbmggiahciaaY35
open Go Go.Cw
namespace Go.Proofs.Ytcilbmggiahciaa
open Try
set_option maxRecDepth 100000
set_option linter.unusedVariables false
set_option linter.unusedSimpArgs false
theorem rTurn_ok (rows : List (List Int)) (cols : Int) (hc0 : 0 ≤ cols) (hc1 : cols ≤ 1000) (hr : ∀ i : Int, 0 ≤ i → i < rows.length → ((ix [] rows i).length : Int) = cols) (hm : rows.length ≤ 1000) : Ctr Try.prog 75 [aSl 1 false aInts rows, aInt cols] (aSl 1 false aInts (turnL rows cols)) := by
 have htl := length_turnL rows cols
 refine ctr_of Try.call75 func75 rfl rfl ?_
 intro w O
 refine ent_len 0 rfl (fun hlen0 => ?_)
 refine esk rfl ?_
 refine esk rfl ?_
 refine ent_seq fun _ K3 => ?_
 refine esk rfl ?_
 refine ent_block ?_
 refine ent_open 22 1 false aInts (fun _ => rfl) ?_
 refine ent_loop (fun (ss : Int × Option Nat × Nat) => match ss with | (c, rr2, cc2) => (⟨[(0, aSl 1 false aInts rows), (1, aInt cols), (5, aEx (vec rr2 (((turnL rows cols).take c.toNat).length) cc2)), (6, aInt c)], [oVec rr2 cc2 22 1 false aInts ((turnL rows cols).take c.toNat)]⟩ : St)) (fun (ss : Int × Option Nat × Nat) => match ss with | (c, rr2, cc2) => (0 ≤ c) ∧ (c ≤ cols)) (fun (ss : Int × Option Nat × Nat) => match ss with | (c, rr2, cc2) => (cols - c).toNat) (0, none, 0) ⟨(by omega), ‹_›⟩ (ent_rep ⟨rfl, rfl, slot_av ((show aEx (vec none ([] : List _).length 0) = aEx (vec none (((turnL rows cols).take (0 : Int).toNat).length) 0) from av_vec (congrArg List.length (show (turnL rows cols).take (0 : Int).toNat = [] by rfl).symm))), slot_av (av_int (show 0 = (0 : Int) by rfl)), trivial⟩ (own_cons (own_vec (show (turnL rows cols).take (0 : Int).toNat = [] by rfl)) (rfl))) ?_
 rintro ⟨c, rr2, cc2⟩ ⟨h0, h1⟩
 show Ent _ ⟨_, [_]⟩ _
 have lt : ((turnL rows cols).take c.toNat).length = c.toNat := by rw [List.length_take]; omega
 refine ent_seq fun _ K5 => ?_
 refine esr rfl fun _ K6 => ?_
 refine ent_o rfl (ok_lss rfl rfl) ?_
 refine enk K6 ?_
 refine ent_condD rfl (fun h11 => ?_) (fun h11 => ?_)
 ·refine esp K5 ?_
  refine ent_seq fun _ K7 => ?_
  refine ent_block ?_
  refine esk rfl ?_
  refine ent_seq fun _ K9 => ?_
  refine esk rfl ?_
  refine ent_block ?_
  refine ent_open 3 1 false aInt (fun _ => rfl) ?_
  refine ent_loop (fun (ss : Int × Option Nat × Nat) => match ss with | (i, rr4, cc4) => (⟨[(0, aSl 1 false aInts rows), (1, aInt cols), (5, aEx (vec rr2 (((turnL rows cols).take c.toNat).length) cc2)), (6, aInt c), (7, aEx (vec rr4 (((colC rows c).take i.toNat).length) cc4)), (8, aInt i)], [oVec rr4 cc4 3 1 false aInt ((colC rows c).take i.toNat), oVec rr2 cc2 22 1 false aInts ((turnL rows cols).take c.toNat)]⟩ : St)) (fun (ss : Int × Option Nat × Nat) => match ss with | (i, rr4, cc4) => (0 ≤ i) ∧ (i ≤ rows.length)) (fun (ss : Int × Option Nat × Nat) => match ss with | (i, rr4, cc4) => (rows.length - i).toNat) (0, none, 0) ⟨(by omega), (by omega)⟩ (ent_rep ⟨rfl, rfl, rfl, rfl, slot_av ((show aEx (vec none ([] : List _).length 0) = aEx (vec none (((colC rows c).take (0 : Int).toNat).length) 0) from av_vec (congrArg List.length (show (colC rows c).take (0 : Int).toNat = [] by rfl).symm))), slot_av (av_int (show 0 = (0 : Int) by rfl)), trivial⟩ (own_cons (own_vec (show (colC rows c).take (0 : Int).toNat = [] by rfl)) (rfl))) ?_
  rintro ⟨i, rr4, cc4⟩ ⟨i0, i1⟩
  show Ent _ ⟨_, [_, _]⟩ _
  have lc : ((colC rows c).take i.toNat).length = i.toNat := by rw [List.length_take, length_colC]; omega
  refine ent_seq fun _ K11 => ?_
  refine esr rfl fun _ K12 => ?_
  refine ent_o rfl (ok_len rfl runUnderlying25 rfl) ?_
  refine ent_o rfl (ok_lss rfl rfl) ?_
  refine enk K12 ?_
  refine ent_condD rfl (fun h17 => ?_) (fun h17 => ?_)
  ·have hri := hr i i0 h17
   refine esp K11 ?_
   refine ent_seq fun _ K13 => ?_
   refine ent_block ?_
   refine ent_region ?_
   refine emm rfl ?_
   refine ent_o rfl (ok_index [] sl25 rfl rfl (by omega) (by omega)) ?_
   refine ent_o rfl (ok_load ti22 rfl) ?_
   refine emm rfl ?_
   refine ent_o rfl (ok_index 0 sl22 rfl rfl (by omega) (by omega)) ?_
   refine ent_o rfl (ok_load ti3 rfl) ?_
   refine ent_appendL (k := 0) (enc := aInt) (y := ix 0 (ix [] rows i) c) rfl rfl vt22 rfl rfl rfl rfl ((elem_one (one_int _))) (by omega) (by omega) (by decide) (fun b29_5 c29_5 => ?_)
   refine emm rfl ?_
   refine enk K13 ?_
   refine ent_region ?_
   refine emm rfl ?_
   refine ent_o rfl (ok_add rfl rfl (by omega) (by omega)) ?_
   refine emm rfl ?_
   refine ent_nil ?_
   refine ent_again (s := (i, rr4, cc4)) (i + 1, (some b29_5), c29_5) ⟨(by omega), ‹_›⟩ (by dsimp only; omega) (ent_rep ⟨rfl, rfl, rfl, rfl, slot_av (av_vec (congrArg List.length (show (colC rows c).take (i + 1).toNat = ((colC rows c).take i.toNat) ++ [ix 0 (ix [] rows i) c] by rw [take_succ_ix 0 (colC rows c) i0 (by rw [length_colC]; exact h17), ix_colC rows c i0 h17]).symm)), rfl, trivial⟩ (own_cons (own_vec (show (colC rows c).take (i + 1).toNat = ((colC rows c).take i.toNat) ++ [ix 0 (ix [] rows i) c] by rw [take_succ_ix 0 (colC rows c) i0 (by rw [length_colC]; exact h17), ix_colC rows c i0 h17])) (rfl)))
  refine ent_exit ?_
  refine ent_k K9 ?_
  refine ent_region ?_
  refine emm rfl ?_
  refine ent_give 0 31 rfl (cv_vec (k := 0) (off_erase rfl) rfl rfl) ?_
  refine ent_appendL (k := 0) (enc := aInts) (y := (colC rows c).take i.toNat) rfl rfl vt25 rfl rfl rfl rfl ((elem_one one_sl)) (by omega) (by omega) (by decide) (fun b33_6 c33_6 => ?_)
  refine emm rfl ?_
  refine enk K7 ?_
  refine ent_region ?_
  refine emm rfl ?_
  refine ent_o rfl (ok_add rfl rfl (by omega) (by omega)) ?_
  refine emm rfl ?_
  refine ent_nil ?_
  refine ent_again (s := (c, rr2, cc2)) (c + 1, (some b33_6), c33_6) ⟨(by omega), ‹_›⟩ (by dsimp only; omega) (ent_rep ⟨rfl, rfl, slot_av (av_vec (congrArg List.length (show (turnL rows cols).take (c + 1).toNat = ((turnL rows cols).take c.toNat) ++ [(colC rows c).take i.toNat] by rw [turnL_succ rows h0 h11, show (colC rows c).take i.toNat = colC rows c from List.take_of_length_le (by rw [length_colC]; omega)]).symm)), rfl, trivial⟩ (own_cons (own_vec (show (turnL rows cols).take (c + 1).toNat = ((turnL rows cols).take c.toNat) ++ [(colC rows c).take i.toNat] by rw [turnL_succ rows h0 h11, show (colC rows c).take i.toNat = colC rows c from List.take_of_length_le (by rw [length_colC]; omega)])) (rfl)))
 refine ent_exit ?_
 refine ent_k K3 ?_
 refine esk rfl ?_
 refine ent_ret ?_
 exact retR1 (.inr rfl) results75 (resr_tmp (res_cv rfl (cv_vec (k := 0) (off_x rfl) rfl (by rw [List.take_of_length_le (by omega)]))))

theorem Sub_ok (f : Fld) (x y : Int) (hF : FOk f) : Ctr Try.prog 73 [aGF f, aInt x, aInt y] (aInt (addF f x (negF f y))) := by
 refine ctr_of Try.call73 func73 rfl rfl ?_
 intro w O
 refine ent_lenP 0 4 rfl rfl (fun hlen0_4 => ?_)
 refine ent_lenP 0 5 rfl rfl (fun hlen0_5 => ?_)
 refine esk rfl ?_
 refine esr rfl fun _ K2 => ?_
 refine ent_o rfl (ok_call (Neg_ok f y ‹_›) rfl) ?_
 refine ent_o rfl (ok_call (Add_ok f x (negF f y) ‹_›) rfl) ?_
 refine emm rfl ?_
 refine enk K2 ?_
 refine ent_ret ?_
 exact retR1 (.inr rfl) results73 (resr_tmp (res_cv rfl (cv_int rfl)))

theorem minus_ok (c : Cod) (x j a : Int) (hk : COk c) (hx : c.F.q ^ (dua c).Gen.length ≤ 65536) (x0 : 0 ≤ x) (x1 : x ≤ 1000000) (j0 : 0 ≤ j) (j1 : j < c.N) : Ctr Try.prog 50 [aSp c, aInt x, aInt j, aInt a] (aInt (minV c x j a)) := by
 have hqb := hk.fld.1.bd
 have hdd := hk.dim_dua
 have hn64 := hk.n64
 have hq2 := hk.q2
 have ltn := length_turnL (dua c).Gen c.N
 have ldc := dcol_len c j0 j1
 have ldc2 : (ix [] (turnL (dua c).Gen c.N) j).length = (dua c).Gen.length := ldc
 have hG : ∀ i : Int, 0 ≤ i → i < ((dua c).Gen.length : Int) → 0 ≤ (fun zz => addF c.F (dig c.F.q (dua c).Gen.length x zz) (negF c.F (mulF c.F a (ix 0 (dcol c j) zz)))) i ∧ (fun zz => addF c.F (dig c.F.q (dua c).Gen.length x zz) (negF c.F (mulF c.F a (ix 0 (dcol c j) zz)))) i < c.F.q := fun i _ _ => hk.fld.1.addF_lt _ _
 refine ctr_of Try.call50 func50 rfl rfl ?_
 intro w O
 refine ent_lenP 0 5 rfl rfl (fun hlen0_5 => ?_)
 refine esk rfl ?_
 refine esk rfl ?_
 refine ent_seq fun _ K3 => ?_
 refine esr rfl fun _ K4 => ?_
 refine ent_o rfl (ok_nilCheck rfl) ?_
 refine ent_o rfl (ok_fieldAddr1 runUnderlying50 rfl sizeOf3 rfl rfl) ?_
 refine ent_o rfl (ok_load ti3 rfl) ?_
 refine ent_o rfl (ok_sub rfl rfl (by omega) (by omega)) ?_
 refine emm rfl ?_
 refine enk K4 ?_
 refine ent_block ?_
 refine ent_loop (fun (i : Int) => (⟨[(0, aSp c), (1, aInt (x / c.F.q ^ (((dua c).Gen.length : Int) - 1 - i).toNat)), (2, aInt j), (3, aInt a), (9, aInt (sufV c.F.q (fun zz => addF c.F (dig c.F.q (dua c).Gen.length x zz) (negF c.F (mulF c.F a (ix 0 (dcol c j) zz)))) ((dua c).Gen.length : Int) i)), (10, aInt (c.F.q ^ (((dua c).Gen.length : Int) - 1 - i).toNat)), (11, aInt i)], []⟩ : St)) (fun (i : Int) => (-1 ≤ i) ∧ (i < ((dua c).Gen.length : Int))) (fun (i : Int) => (i + 1).toNat) (((dua c).Gen.length : Int) - 1) ⟨(by omega), (by omega)⟩ (ent_rep ⟨rfl, slot_av (av_int (show x = x / c.F.q ^ (((dua c).Gen.length : Int) - 1 - (((dua c).Gen.length : Int) - 1)).toNat by simp)), rfl, rfl, slot_av (av_int (show 0 = sufV c.F.q (fun zz => addF c.F (dig c.F.q (dua c).Gen.length x zz) (negF c.F (mulF c.F a (ix 0 (dcol c j) zz)))) ((dua c).Gen.length : Int) (((dua c).Gen.length : Int) - 1) by exact (sufV_top _ _ _).symm)), slot_av (av_int (show 1 = c.F.q ^ (((dua c).Gen.length : Int) - 1 - (((dua c).Gen.length : Int) - 1)).toNat by simp)), rfl, trivial⟩ rfl) ?_
 rintro i ⟨i0, i1⟩
 show Ent _ ⟨_, []⟩ _
 have hsb := sufV_bd hq2 hG i0
 have hp1 := pow_pos_of c.F.q hq2 (((dua c).Gen.length : Int) - 1 - i).toNat
 have hcu : 0 ≤ x / c.F.q ^ (((dua c).Gen.length : Int) - 1 - i).toNat ∧ x / c.F.q ^ (((dua c).Gen.length : Int) - 1 - i).toNat ≤ x := ⟨Int.ediv_nonneg x0 (by omega), Int.ediv_le_self _ x0⟩
 refine ent_seq fun _ K5 => ?_
 refine esr rfl fun _ K6 => ?_
 refine ent_o rfl (ok_geq rfl rfl) ?_
 refine enk K6 ?_
 refine ent_condD rfl (fun h18 => ?_) (fun h18 => ?_)
 ·have hgi := hG i h18 i1
  have hgi2 := hk.fld.1.addF_lt (x / c.F.q ^ (((dua c).Gen.length : Int) - 1 - i).toNat % c.F.q) (negF c.F (mulF c.F a (ix 0 (ix [] (turnL (dua c).Gen c.N) j) i)))
  have hpm := pow_mono_of c.F.q hq2 (show (((dua c).Gen.length : Int) - 1 - i).toNat ≤ (dua c).Gen.length by omega)
  have hmm : 0 ≤ c.F.q ^ (((dua c).Gen.length : Int) - 1 - i).toNat * addF c.F (x / c.F.q ^ (((dua c).Gen.length : Int) - 1 - i).toNat % c.F.q) (negF c.F (mulF c.F a (ix 0 (ix [] (turnL (dua c).Gen c.N) j) i))) ∧ c.F.q ^ (((dua c).Gen.length : Int) - 1 - i).toNat * addF c.F (x / c.F.q ^ (((dua c).Gen.length : Int) - 1 - i).toNat % c.F.q) (negF c.F (mulF c.F a (ix 0 (ix [] (turnL (dua c).Gen c.N) j) i))) ≤ 65536 * 256 := ⟨Int.mul_nonneg (by omega) hgi2.1, Int.mul_le_mul (by omega) (by omega) hgi2.1 (by decide)⟩
  have hmq : 0 ≤ c.F.q ^ (((dua c).Gen.length : Int) - 1 - i).toNat * c.F.q ∧ c.F.q ^ (((dua c).Gen.length : Int) - 1 - i).toNat * c.F.q ≤ 65536 * 256 := ⟨Int.mul_nonneg (by omega) (by omega), Int.mul_le_mul (by omega) (by omega) (by omega) (by decide)⟩
  refine esp K5 ?_
  refine ent_seq fun _ K7 => ?_
  refine ent_block ?_
  refine ent_seq fun _ K8 => ?_
  refine ent_draw 32 mixed (by kernel_rfl) (drawQ_F (by kernel_rfl)) (by kernel_rfl) ?_
  refine dw_o rfl (ok_move rfl) ?_
  refine dw_o rfl (ok_move rfl) ?_
  refine dw_o rfl (ok_move rfl) ?_
  refine dw_o rfl (ok_nilCheck rfl) ?_
  refine dw_o rfl (ok_fieldAddr1 runUnderlying50 rfl sizeOf48 rfl rfl) ?_
  refine dw_o rfl (ok_load ti48 rfl) ?_
  refine dw_o rfl (ok_move rfl) ?_
  refine dw_o rfl (ok_move rfl) ?_
  refine dw_o rfl (ok_nilCheck rfl) ?_
  refine dw_o rfl (ok_fieldAddr1 runUnderlying50 rfl sizeOf3 rfl rfl) ?_
  refine dw_o rfl (ok_load ti3 rfl) ?_
  refine dw_o rfl (ok_rem rfl rfl (by omega) (by omega)) ?_
  refine dw_o rfl (ok_move rfl) ?_
  refine dw_o rfl (ok_nilCheck rfl) ?_
  refine dw_o rfl (ok_fieldAddr1 runUnderlying50 rfl sizeOf48 rfl rfl) ?_
  refine dw_o rfl (ok_load ti48 rfl) ?_
  refine dw_o rfl (ok_move rfl) ?_
  refine dw_o rfl (ok_move rfl) ?_
  refine dw_o rfl (ok_nilCheck rfl) ?_
  refine dw_o rfl (ok_fieldAddr1 runUnderlying50 rfl sizeOf25 rfl rfl) ?_
  refine dw_o rfl (ok_load ti25 rfl) ?_
  refine dw_o rfl (ok_move rfl) ?_
  refine dw_o rfl (ok_index [] sl25 rfl rfl (by omega) (by omega)) ?_
  refine dw_o rfl (ok_load ti22 rfl) ?_
  refine dw_o rfl (ok_move rfl) ?_
  refine dw_o rfl (ok_index 0 sl22 rfl rfl (by omega) (by omega)) ?_
  refine dw_o rfl (ok_load ti3 rfl) ?_
  refine dw_o rfl (ok_call (Mul_ok c.F a (ix 0 (ix [] (turnL (dua c).Gen c.N) j) i) hk.fld) rfl) ?_
  refine dw_o rfl (ok_call (Sub_ok c.F ((x / c.F.q ^ (((dua c).Gen.length : Int) - 1 - i).toNat) % c.F.q) (mulF c.F a (ix 0 (ix [] (turnL (dua c).Gen c.N) j) i)) hk.fld) rfl) ?_
  refine dw_o rfl (ok_mul rfl rfl (by omega) (by omega)) ?_
  refine dw_o rfl (ok_add rfl rfl (by omega) (by omega)) ?_
  refine dw_o rfl (ok_assign rfl) ?_
  refine dw_nil ?_
  refine enk K8 ?_
  refine esr rfl fun _ K9 => ?_
  refine ent_o rfl (ok_nilCheck rfl) ?_
  refine ent_o rfl (ok_fieldAddr1 runUnderlying50 rfl sizeOf3 rfl rfl) ?_
  refine ent_o rfl (ok_load ti3 rfl) ?_
  refine ent_o rfl (ok_quo rfl rfl (by omega) (by omega) (by omega)) ?_
  refine emm rfl ?_
  refine enk K9 ?_
  refine ent_region ?_
  refine emm rfl ?_
  refine ent_o rfl (ok_nilCheck rfl) ?_
  refine ent_o rfl (ok_fieldAddr1 runUnderlying50 rfl sizeOf3 rfl rfl) ?_
  refine ent_o rfl (ok_load ti3 rfl) ?_
  refine ent_o rfl (ok_mul rfl rfl (by omega) (by omega)) ?_
  refine emm rfl ?_
  refine enk K7 ?_
  refine ent_region ?_
  refine emm rfl ?_
  refine ent_o rfl (ok_sub rfl rfl (by omega) (by omega)) ?_
  refine emm rfl ?_
  refine ent_nil ?_
  refine ent_again (s := (i)) (i - 1) ⟨(by omega), (by omega)⟩ (by omega) (ent_rep ⟨rfl, slot_av (av_int (show (x / c.F.q ^ (((dua c).Gen.length : Int) - 1 - i).toNat) / c.F.q = x / c.F.q ^ (((dua c).Gen.length : Int) - 1 - (i - 1)).toNat by exact cur_step (by omega) h18 i1)), rfl, rfl, slot_av (av_int (show (sufV c.F.q (fun zz => addF c.F (dig c.F.q (dua c).Gen.length x zz) (negF c.F (mulF c.F a (ix 0 (dcol c j) zz)))) ((dua c).Gen.length : Int) i) + ((c.F.q ^ (((dua c).Gen.length : Int) - 1 - i).toNat) * (addF c.F ((x / c.F.q ^ (((dua c).Gen.length : Int) - 1 - i).toNat) % c.F.q) (negF c.F (mulF c.F a (ix 0 (ix [] (turnL (dua c).Gen c.N) j) i))))) = sufV c.F.q (fun zz => addF c.F (dig c.F.q (dua c).Gen.length x zz) (negF c.F (mulF c.F a (ix 0 (dcol c j) zz)))) ((dua c).Gen.length : Int) (i - 1) by exact (sufV_step _ _ h18 i1).symm)), slot_av (av_int (show (c.F.q ^ (((dua c).Gen.length : Int) - 1 - i).toNat) * c.F.q = c.F.q ^ (((dua c).Gen.length : Int) - 1 - (i - 1)).toNat by exact (pow_step _ h18 i1).symm)), rfl, trivial⟩ rfl)
 refine ent_exit ?_
 refine ent_k K3 ?_
 refine esk rfl ?_
 refine ent_ret ?_
 exact retR1 (.inr rfl) results50 (resr_tmp (res_cv rfl (cv_int (by exact sufV_all _ _ _ (by omega)))))

theorem rStep_ok (f : Fld) (h : List Int) (s a : Int) (hS : Shape f) (s0 : 0 ≤ s) (s1 : s ≤ 1000000) (hl : h.length ≤ 64) (hx : f.q ^ h.length ≤ 65536) : Ctr Try.prog 52 [aFld f, aSl 1 false aInt h, aInt s, aInt a] (aInt (stpV f h s a)) := by
 have hqb := hS.bd
 refine ctr_of Try.call52 func52 rfl rfl ?_
 intro w O
 refine ent_lenC 0 2 rfl rfl (fun hlen0_2 => ?_)
 refine ent_len 1 rfl (fun hlen1 => ?_)
 refine esr rfl fun _ K1 => ?_
 refine ent_boxS rfl rfl (AllOne.mem ⟨(one_int _), (one_int _), one_sl, trivial⟩) (fun b4_1 => ?_)
 refine emm rfl ?_
 refine enk K1 ?_
 refine esr rfl fun _ K2 => ?_
 refine ent_o rfl (ok_loadBS (k := 0) ti24 rfl rfl rfl) ?_
 refine ent_o rfl (ok_call (rOrder_ok f) rfl) ?_
 refine emm rfl ?_
 refine enk K2 ?_
 refine esr rfl fun _ K3 => ?_
 refine ent_o rfl (ok_len rfl runUnderlying22 rfl) ?_
 refine ent_make aInt 0 rfl vt22 rfl rfl (by omega) (by omega) (by omega) (fun _ _ => rfl) (AllV.mem ⟨rfl, trivial⟩) (fun b16_2 => ?_)
 refine emm rfl ?_
 refine enk K3 ?_
 refine ent_seq fun _ K4 => ?_
 refine esr rfl fun _ K5 => ?_
 refine ent_o rfl (ok_len rfl runUnderlying22 rfl) ?_
 refine ent_o rfl (ok_sub rfl rfl (by omega) (by omega)) ?_
 refine emm rfl ?_
 refine enk K5 ?_
 refine ent_block ?_
 refine ent_loop (fun (i : Int) => (⟨[(1, aSl 1 false aInt h), (2, aInt (s / f.q ^ ((h.length : Int) - 1 - i).toNat)), (3, aInt a), (4, aEx (.pointer (some ⟨b4_1, 0, none⟩))), (9, aInt f.q), (10, aEx (vec (some b16_2) (((↑h.length : Int)).toNat) (((↑h.length : Int)).toNat))), (11, aInt i)], [oVec (some b16_2) (((↑h.length : Int)).toNat) 3 1 false aInt (sufL (fun zz => addF f (dig f.q h.length s zz) (mulF f a (ix 0 h zz))) h.length i), oBox b4_1 24 [aInt f.P, aInt f.M, aSl 1 false aInt f.mod]]⟩ : St)) (fun (i : Int) => (-1 ≤ i) ∧ (i < h.length)) (fun (i : Int) => (i + 1).toNat) ((↑h.length : Int) - 1) ⟨(by omega), (by omega)⟩ (ent_rep ⟨rfl, slot_av (av_int (show s = s / f.q ^ ((h.length : Int) - 1 - ((↑h.length : Int) - 1)).toNat by simp)), rfl, rfl, rfl, rfl, rfl, trivial⟩ (own_cons (own_vec (show sufL (fun zz => addF f (dig f.q h.length s zz) (mulF f a (ix 0 h zz))) h.length ((↑h.length : Int) - 1) = List.replicate (((↑h.length : Int)).toNat) 0 by exact (sufL_top _ _).symm)) (rfl))) ?_
 rintro i ⟨i0, i1⟩
 show Ent _ ⟨_, [_, _]⟩ _
 have lsl := length_sufL (fun zz => addF f (dig f.q h.length s zz) (mulF f a (ix 0 h zz))) h.length i
 have hp1 := pow_pos_of f.q (by omega) ((h.length : Int) - 1 - i).toNat
 have hcu : 0 ≤ s / f.q ^ ((h.length : Int) - 1 - i).toNat ∧ s / f.q ^ ((h.length : Int) - 1 - i).toNat ≤ s := ⟨Int.ediv_nonneg s0 (by omega), Int.ediv_le_self _ s0⟩
 refine ent_seq fun _ K6 => ?_
 refine esr rfl fun _ K7 => ?_
 refine ent_o rfl (ok_geq rfl rfl) ?_
 refine enk K7 ?_
 refine ent_condD rfl (fun h21 => ?_) (fun h21 => ?_)
 ·refine esp K6 ?_
  refine ent_seq fun _ K8 => ?_
  refine ent_block ?_
  refine ent_seq fun _ K9 => ?_
  refine ent_draw 15 mixed (by kernel_rfl) (by kernel_rfl) (by kernel_rfl) ?_
  refine dw_o rfl (ok_move rfl) ?_
  refine dw_o rfl (ok_move rfl) ?_
  refine dw_o rfl (ok_loadBS (k := 1) ti24 rfl rfl rfl) ?_
  refine dw_o rfl (ok_move rfl) ?_
  refine dw_o rfl (ok_move rfl) ?_
  refine dw_o rfl (ok_rem rfl rfl (by omega) (by omega)) ?_
  refine dw_o rfl (ok_loadBS (k := 1) ti24 rfl rfl rfl) ?_
  refine dw_o rfl (ok_move rfl) ?_
  refine dw_o rfl (ok_move rfl) ?_
  refine dw_o rfl (ok_move rfl) ?_
  refine dw_o rfl (ok_index 0 sl22 rfl rfl (by omega) (by omega)) ?_
  refine dw_o rfl (ok_load ti3 rfl) ?_
  refine dw_o rfl (ok_call (rMul_ok f a (ix 0 h i) ‹_›) rfl) ?_
  refine dw_o rfl (ok_call (rAdd_ok f ((s / f.q ^ ((h.length : Int) - 1 - i).toNat) % f.q) (mulF f a (ix 0 h i)) ‹_›) rfl) ?_
  refine dw_o rfl (ok_indexV sl22 rfl rfl (by omega) (by omega)) ?_
  refine dw_nil ?_
  refine ent_storeV (k := 0) (z := addF f ((s / f.q ^ ((h.length : Int) - 1 - i).toNat) % f.q) (mulF f a (ix 0 h i))) ti3 rfl rfl rfl (elem_one (one_int _)) (by omega) (by omega) ?_
  refine enk K9 ?_
  refine ent_region ?_
  refine emm rfl ?_
  refine ent_o rfl (ok_quo rfl rfl (by omega) (by omega) (by omega)) ?_
  refine emm rfl ?_
  refine enk K8 ?_
  refine ent_region ?_
  refine emm rfl ?_
  refine ent_o rfl (ok_sub rfl rfl (by omega) (by omega)) ?_
  refine emm rfl ?_
  refine ent_nil ?_
  refine ent_again (s := (i)) (i - 1) ⟨(by omega), (by omega)⟩ (by omega) (ent_rep ⟨rfl, slot_av (av_int (show (s / f.q ^ ((h.length : Int) - 1 - i).toNat) / f.q = s / f.q ^ ((h.length : Int) - 1 - (i - 1)).toNat by exact cur_step (by omega) h21 i1)), rfl, rfl, rfl, rfl, rfl, trivial⟩ (own_cons (own_vec (show sufL (fun zz => addF f (dig f.q h.length s zz) (mulF f a (ix 0 h zz))) h.length (i - 1) = List.set (sufL (fun zz => addF f (dig f.q h.length s zz) (mulF f a (ix 0 h zz))) h.length i) (i).toNat (addF f ((s / f.q ^ ((h.length : Int) - 1 - i).toNat) % f.q) (mulF f a (ix 0 h i))) by exact (sufL_set _ h21 i1).symm)) (rfl)))
 refine ent_exit ?_
 refine ent_k K4 ?_
 refine ent_seq fun _ K10 => ?_
 have hsa := sufL_all (fun zz => addF f (dig f.q h.length s zz) (mulF f a (ix 0 h zz))) (h.length : Int) (i := i) (by omega)
 rw [hsa]
 refine ent_give 0 10 rfl (cv_vec (k := 0) (off_erase rfl) (by simp) rfl) ?_
 refine ent_region ?_
 refine ent_o rfl (ok_loadBS (k := 0) ti24 rfl rfl rfl) ?_
 refine emm rfl ?_
 refine ent_o rfl (ok_call (rNumber_ok f (mapR (fun zz => addF f (dig f.q h.length s zz) (mulF f a (ix 0 h zz))) h.length) hS (outF_mapR fun _ _ _ => hS.addF_lt _ _) (by rw [length_mapR]; exact hx)) rfl) ?_
 refine emm rfl ?_
 refine enk K10 ?_
 refine ent_ret ?_
 exact retR1 (.inr rfl) results52 (resr_tmp (res_cv rfl (cv_int rfl)))

theorem rCols_ok (c : Cod) (hk : COk c) : Ctr Try.prog 51 [aCod c] (aSl 1 false aInts (turnL (dua c).Gen c.N)) := by
 have hdd := hk.dim_dua
 have hn64 := hk.n64
 have hn1 := hk.n1
 refine ctr_of Try.call51 func51 rfl rfl ?_
 intro w O
 refine ent_lenC 0 2 rfl rfl (fun hlen0_2 => ?_)
 refine ent_lenC 0 4 rfl rfl (fun hlen0_4 => ?_)
 refine esr rfl fun _ K1 => ?_
 refine ent_boxS rfl rfl (AllOne.mem ⟨(one_int _), (one_int _), one_sl, (one_int _), one_sl, trivial⟩) (fun b1_1 => ?_)
 refine emm rfl ?_
 refine enk K1 ?_
 refine ent_seq fun _ K2 => ?_
 refine ent_draw 6 mixed (by kernel_rfl) (by kernel_rfl) (by kernel_rfl) ?_
 refine dw_o rfl (ok_loadBS (k := 0) ti27 rfl rfl rfl) ?_
 refine dw_o rfl (ok_call (rParity_ok c hk) rfl) ?_
 refine dw_o rfl (ok_fieldAddrEx runUnderlying27 rfl sizeOf3 (by decide) rfl) ?_
 refine dw_o rfl (ok_loadB (k := 0) isAgg3 rfl rfl rfl) ?_
 refine dw_o rfl (ok_call (rTurn_ok ((dua c).Gen) c.N (by omega) (by omega) (fun i i0 i1 => hk.dua.row i0 i1) (by omega)) rfl) ?_
 refine dw_o rfl (ok_assign rfl) ?_
 refine dw_nil ?_
 refine enk K2 ?_
 refine ent_ret ?_
 exact retR1 (.inr rfl) results51 (resr_tmp (res_cv rfl (cv_sl sub_x rfl)))
end Go.Proofs.Ytcilbmggiahciaa

