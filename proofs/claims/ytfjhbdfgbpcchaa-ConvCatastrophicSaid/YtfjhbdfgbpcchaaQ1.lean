/-
  Walks of functions of the program and the reference.
-/
import Derived.Test.YtfjhbdfgbpcchaaCmLib
import Derived.Test.YtfjhbdfgbpcchaaU11
open Go Go.Cw
namespace Go.Proofs.Ytfjhbdfgbpcchaa
open Try
set_option maxRecDepth 100000
set_option linter.unusedVariables false
set_option linter.unusedSimpArgs false
theorem Sub_ok (f : Fld) (x y : Int) (hF : FOk f) : Ctr Try.prog 150 [aGF f, aInt x, aInt y] (aInt (addF f x (negF f y))) := by
 refine ctr_of Try.call150 func150 rfl rfl ?_
 intro w O
 refine ent_lenP 0 4 rfl rfl (fun hlen0_4 => ?_)
 refine ent_lenP 0 5 rfl rfl (fun hlen0_5 => ?_)
 refine esk rfl ?_
 refine esr rfl fun _ K2 => ?_
 refine ent_o rfl (ok_call (Neg_ok f y ‹_›) rfl) ?_
 refine ent_o rfl (ok_call (Add_ok f x (negF f y) ‹_›) rfl) ?_
 refine emm rfl ?_
 refine enk K2 ?_
 refine ent_ret ?_
 exact retR1 (.inr rfl) results150 (resr_tmp (res_cv rfl (cv_int rfl)))

theorem trimW_ok (r : Option Nat) (cap : Nat) (l : List Int) (hll : l.length ≤ 1000000) : CtrW Try.prog 115 [oVec r cap 3 1 false aInt l] [aEx (vec r l.length cap)] (fun (_ : Unit) => True) (fun (_ : Unit) => aEx (vec r ((trimL l).length) cap)) (fun (_ : Unit) => [oVec r cap 3 1 false aInt (trimL l)]) := by
 refine ctrW_of Try.call115 func115 rfl rfl ?_
 intro w O
 refine esk rfl ?_
 refine ent_seq fun _ K2 => ?_
 refine ent_block ?_
 refine ent_loop (fun (k : Int) => (⟨[(0, aEx (vec r ((List.take k.toNat l).length) cap))], [oVec r cap 3 1 false aInt (List.take k.toNat l)]⟩ : St)) (fun (k : Int) => ((trimN l : Int) ≤ k) ∧ (k ≤ l.length)) (fun (k : Int) => k.toNat) (l.length : Int) ⟨(by have := trimN_le l; omega), (by omega)⟩ (ent_rep ⟨slot_av (av_vec (by rw [List.take_of_length_le (by omega)])), trivial⟩ (own_cons (own_vec (show List.take (l.length : Int).toNat l = l by rw [List.take_of_length_le (by omega)])) (rfl))) ?_
 rintro k ⟨h0, h1⟩
 show Ent _ ⟨_, [_]⟩ _
 have hl : (List.take k.toNat l).length = k.toNat := by rw [List.length_take]; omega
 have hx : 0 < k → ix 0 (List.take k.toNat l) (↑(List.take k.toNat l).length - 1) = ix 0 l (k - 1) := fun hk => by rw [hl, show ((k.toNat : Nat) : Int) - 1 = k - 1 by omega]; exact ix_take l (by omega) (by omega)
 refine ent_seq fun _ K3 => ?_
 refine ent_seq fun _ K4 => ?_
 refine ent_cut (⟨[(0, aEx (vec r ((List.take k.toNat l).length) cap)), (14, aBool (decide ((0 < (↑((List.take k.toNat l).length) : Int)) ∧ ((ix 0 (List.take k.toNat l) ((↑((List.take k.toNat l).length) : Int) - 1)) = 0))))], [oVec r cap 3 1 false aInt (List.take k.toNat l)]⟩) ?_ ?_
 ·refine ent_region ?_
  refine emm rfl ?_
  refine ent_o rfl (ok_lenEx rfl runUnderlying22 rfl) ?_
  refine ent_o rfl (ok_gtr rfl rfl) ?_
  refine emm rfl ?_
  refine ent_guardXDt rfl rfl rfl rfl (fun hg6 => ?_) (fun hg6 => ?_)
  ·refine emm rfl ?_
   refine ent_guardXT rfl rfl rfl rfl (decide_eq_true hg6) ?_
   refine emm rfl ?_
   refine ent_guardXT rfl rfl rfl rfl (decide_eq_true hg6) ?_
   refine ent_o rfl (ok_lenEx rfl runUnderlying22 rfl) ?_
   refine ent_guardXT rfl rfl rfl rfl (decide_eq_true hg6) ?_
   refine ent_o rfl (ok_sub rfl rfl (by omega) (by omega)) ?_
   refine ent_guardXT rfl rfl rfl rfl (decide_eq_true hg6) ?_
   refine ent_o rfl (ok_indexV0 (k := 0) sl22 rfl rfl rfl rfl (by omega) (by omega)) ?_
   refine ent_guardXT rfl rfl rfl rfl (decide_eq_true hg6) ?_
   refine ent_o rfl (ok_loadV0 (k := 0) 0 ti3 rfl rfl (by omega) (by omega)) ?_
   refine ent_guardXT rfl rfl rfl rfl (decide_eq_true hg6) ?_
   refine ent_o rfl (ok_eql rfl rfl) ?_
   refine ent_o rfl (ok_pickT rfl (decide_eq_true hg6) rfl) ?_
   refine ent_nil ?_
   exact ent_rep ⟨rfl, slot_bool (dq_Q ((and_iff_right hg6).trans Iff.rfl)), trivial⟩ rfl
  refine ent_guardXF rfl rfl rfl rfl (decide_eq_false hg6) ?_
  refine ent_guardXF rfl rfl rfl rfl (decide_eq_false hg6) ?_
  refine ent_guardXF rfl rfl rfl rfl (decide_eq_false hg6) ?_
  refine ent_guardXF rfl rfl rfl rfl (decide_eq_false hg6) ?_
  refine ent_guardXF rfl rfl rfl rfl (decide_eq_false hg6) ?_
  refine ent_guardXF rfl rfl rfl rfl (decide_eq_false hg6) ?_
  refine ent_o rfl (ok_pickF rfl (decide_eq_false hg6) rfl) ?_
  refine ent_nil ?_
  exact ent_rep ⟨rfl, slot_bool (dq_F rfl (fun h => hg6 h.1)), trivial⟩ rfl
 refine ent_k K4 ?_
 refine ent_condD rfl (fun h14 => ?_) (fun h14 => ?_)
 ·have hkp : 0 < k := by omega
  replace hx := hx hkp
  refine esp K3 ?_
  refine ent_block ?_
  refine ent_region ?_
  refine emm rfl ?_
  refine ent_o rfl (ok_lenEx rfl runUnderlying22 rfl) ?_
  refine ent_o rfl (ok_sub rfl rfl (by omega) (by omega)) ?_
  refine ent_cutV (k := 0) sl22 rfl rfl rfl rfl rfl (by omega) (by omega) ?_
  refine emm rfl ?_
  refine ent_nil ?_
  refine ent_again (s := (k)) (k - 1) ⟨(trimN_step h0 (by omega) h1 (by rw [← hx]; exact h14.2)), (by omega)⟩ (by omega) (ent_rep ⟨slot_av (av_vec (by rw [hl, List.length_take]; omega)), trivial⟩ (own_cons (own_vec (show List.take (k - 1).toNat l = List.take ((↑((List.take k.toNat l).length) : Int) - 1).toNat (List.take k.toNat l) by rw [List.take_take, hl]; congr 1; omega)) (rfl)))
 have htr : List.take k.toNat l = trimL l := by unfold trimL; rw [trimN_stop (k := k) h0 (by omega) (fun h => h14 ⟨by omega, by rw [hx h.1]; exact h.2⟩)]; rfl
 have htl : (List.take k.toNat l).length = (trimL l).length := by rw [htr]
 refine ent_exit ?_
 refine ent_k K2 ?_
 refine esk rfl ?_
 refine ent_ret ?_
 exact retW (.inr rfl) () (trivial) ((show ([oVec r cap 3 1 false aInt (trimL l)] : List Own) = [oVec r cap 3 1 false aInt (List.take k.toNat l)] from (own_cons (own_vec (show trimL l = List.take k.toNat l by exact htr.symm)) (rfl))).symm) (resW1 results115 (resr_tmp (res_cv rfl (cv_ex (show vec r ((List.take k.toNat l).length) cap = vec r ((trimL l).length) cap by congr 1 <;> first | omega | (simp; done) | (simp; omega))))))

theorem CanonF_ok (f : Fld) (l : List Int) (hF : FOk f) (hll : l.length ≤ 1000000) : CtrF Try.prog 97 [aGF f, aSl 1 false aInt l] (aVec 3 1 false aInt (cnrP hF l)) := by
 refine ctrF_of Try.call97 func97 rfl rfl ?_
 intro w O
 refine ent_lenP 0 4 rfl rfl (fun hlen0_4 => ?_)
 refine ent_lenP 0 5 rfl rfl (fun hlen0_5 => ?_)
 refine ent_len 1 rfl (fun hlen1 => ?_)
 refine esk rfl ?_
 refine esr rfl fun _ K2 => ?_
 refine ent_o rfl (ok_len rfl runUnderlying22 rfl) ?_
 refine ent_make aInt 0 rfl vt22 rfl rfl (by omega) (by omega) (by omega) (fun _ _ => rfl) (AllV.mem ⟨rfl, trivial⟩) (fun b10_1 => ?_)
 refine emm rfl ?_
 refine enk K2 ?_
 refine ent_seq fun _ K3 => ?_
 refine esr rfl fun _ K4 => ?_
 refine ent_o rfl (ok_len rfl runUnderlying22 rfl) ?_
 refine emm rfl ?_
 refine enk K4 ?_
 refine ent_block ?_
 refine ent_loop (fun (i : Int) => (⟨[(0, aGF f), (5, aEx (vec (some b10_1) (((↑l.length : Int)).toNat) (((↑l.length : Int)).toNat))), (11, aSl 1 false aInt l), (12, aInt (↑l.length : Int)), (13, aInt i)], [oVec (some b10_1) (((↑l.length : Int)).toNat) 3 1 false aInt (mixL (l.map (inF f)) (List.replicate l.length 0) i)]⟩ : St)) (fun (i : Int) => (0 ≤ i) ∧ (i ≤ l.length)) (fun (i : Int) => (l.length - i).toNat) 0 ⟨(by omega), (by omega)⟩ (ent_rep ⟨rfl, rfl, rfl, rfl, slot_av (av_int (show 0 = (0 : Int) by rfl)), trivial⟩ (own_cons (own_vec (show mixL (l.map (inF f)) (List.replicate l.length 0) (0 : Int) = List.replicate (((↑l.length : Int)).toNat) 0 by exact mixL_zero _ _)) (rfl))) ?_
 rintro i ⟨h0, h1⟩
 show Ent _ ⟨_, [_]⟩ _
 have lm : (mixL (l.map (inF f)) (List.replicate l.length 0) i).length = l.length := by rw [length_mixL _ _ (by simp)]; simp
 refine esr rfl fun _ K5 => ?_
 refine ent_o rfl (ok_lss rfl rfl) ?_
 refine enk K5 ?_
 refine ent_seq fun _ K6 => ?_
 refine ent_condD rfl (fun h14 => ?_) (fun h14 => ?_)
 ·have hmi := ix_map_inF f l h0 (show i < l.length by omega)
  refine esp K6 ?_
  refine ent_seq fun _ K7 => ?_
  refine ent_block ?_
  refine esr rfl fun _ K8 => ?_
  refine ent_o rfl (ok_index 0 sl22 rfl rfl (by omega) (by omega)) ?_
  refine ent_o rfl (ok_load ti3 rfl) ?_
  refine emm rfl ?_
  refine enk K8 ?_
  refine esr rfl fun _ K9 => ?_
  refine ent_o rfl (ok_call (Is_ok f (ix 0 l i)) rfl) ?_
  refine enk K9 ?_
  refine ent_condD rfl (fun h20 => ?_) (fun h20 => ?_)
  ·refine ent_region ?_
   refine emm rfl ?_
   refine ent_o rfl (ok_indexV sl22 rfl rfl (by omega) (by omega)) ?_
   refine ent_storeV (k := 0) (z := ix 0 l i) ti3 rfl rfl rfl (elem_one (one_int _)) (by omega) (by omega) ?_
   refine enk K7 ?_
   refine ent_region ?_
   refine ent_o rfl (ok_add rfl rfl (by omega) (by omega)) ?_
   refine emm rfl ?_
   refine ent_nil ?_
   refine ent_again (s := (i)) (i + 1) ⟨(by omega), ‹_›⟩ (by omega) (ent_rep ⟨rfl, rfl, rfl, rfl, rfl, trivial⟩ (own_cons (own_vec (show mixL (l.map (inF f)) (List.replicate l.length 0) (i + 1) = List.set (mixL (l.map (inF f)) (List.replicate l.length 0) i) (i).toNat (ix 0 l i) by exact (mixL_set _ _ h0 (by simp; omega) (by simp) (by rw [hmi]; unfold inF; rw [if_pos h20])).symm)) (rfl)))
  refine esp K7 ?_
  refine ent_region ?_
  refine ent_o rfl (ok_add rfl rfl (by omega) (by omega)) ?_
  refine emm rfl ?_
  refine ent_nil ?_
  refine ent_again (s := (i)) (i + 1) ⟨(by omega), ‹_›⟩ (by omega) (ent_rep ⟨rfl, rfl, rfl, rfl, rfl, trivial⟩ (own_cons (own_vec (show mixL (l.map (inF f)) (List.replicate l.length 0) (i + 1) = mixL (l.map (inF f)) (List.replicate l.length 0) i by exact (mixL_skip _ _ h0 (by simp; omega) (by simp) (by rw [ix_replicate0, hmi]; unfold inF; rw [if_neg h20])).symm)) (rfl)))
 have hma : mixL (l.map (inF f)) (List.replicate l.length 0) i = l.map (inF f) := mixL_all _ _ (by simp; omega) (by simp; omega)
 have hml : (l.map (inF f)).length = l.length := List.length_map _
 refine ent_exit ?_
 refine ent_k K3 ?_
 refine ent_seq fun _ K10 => ?_
 rw [hma]
 refine ent_region ?_
 refine emm rfl ?_
 refine ent_callW (rs := []) [] rfl (trimW_ok (some b10_1) (((↑l.length : Int)).toNat) (l.map (inF f)) (by omega)) rfl rfl (.inl rfl) ⟨arg_a rfl (cv_ex (congrArg (fun n => vec (some b10_1) n (((↑l.length : Int)).toNat)) (show ((↑l.length : Int)).toNat = (l.map (inF f)).length by omega))), trivial⟩ ?_
 rintro ⟨⟩ -
 show Ent _ ⟨_ :: _, [_]⟩ _
 refine emm rfl ?_
 refine enk K10 ?_
 refine ent_ret ?_
 exact retR1 (.inr rfl) results97 (resr_tmp (res_cv rfl (cvF_vecV (k := 0) flat_int rfl rfl rfl (by exact cnrP_eq hF l))))
end Go.Proofs.Ytfjhbdfgbpcchaa

