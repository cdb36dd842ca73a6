/-
  Walks of functions of the program and the reference.
-/
import Derived.Test.YtbofipdmoocflaaProg
import Derived.Test.YtbofipdmoocflaaXTab
import Derived.Test.YtbofipdmoocflaaPlainJ1
import Derived.Test.YtbofipdmoocflaaCiLib
import Derived.Test.YtbofipdmoocflaaX4
import Derived.Test.YtbofipdmoocflaaX5
import Derived.Test.YtbofipdmoocflaaX6
import Derived.Test.YtbofipdmoocflaaX9
import Derived.Test.YtbofipdmoocflaaX1
import Derived.Test.YtbofipdmoocflaaX10
import Derived.Test.YtbofipdmoocflaaX11
import Derived.Test.YtbofipdmoocflaaX12
import Derived.Test.YtbofipdmoocflaaX13
import Derived.Test.YtbofipdmoocflaaX14
import Derived.Test.YtbofipdmoocflaaX15
import Derived.Test.YtbofipdmoocflaaX18
import Derived.Test.YtbofipdmoocflaaX19
import Derived.Test.YtbofipdmoocflaaX20
open Go Go.Cw
namespace Go.Proofs.Ytbofipdmoocflaa
set_option maxRecDepth 100000
set_option linter.unusedVariables false
set_option linter.unusedSimpArgs false

abbrev aCod (c : Cod) : AV := aAgg [aInt c.F.P, aInt c.F.M, aInts c.F.mod, aInt c.N, aRows c.Gen]

theorem Order_ok (f : Fld)  : Ctr Try.prog 78 [aGF f] (aInt f.q) := by
 refine ctr_of Try.call78 Try.func78 rfl rfl ?_
 intro w O
 refine ent_lenP 0 4 rfl rfl (fun hlen0_4 => ?_)
 refine ent_lenP 0 5 rfl rfl (fun hlen0_5 => ?_)
 refine esk rfl ?_
 refine esr rfl fun _ K2 => ?_
 refine ent_o rfl (ok_nilCheck rfl) ?_
 refine ent_o rfl (ok_fieldAddr1 Try.runUnderlying116 rfl Try.sizeOf3 rfl rfl) ?_
 refine ent_o rfl (ok_load ti3 rfl) ?_
 refine emm rfl ?_
 refine enk K2 ?_
 refine ent_ret ?_
 exact retR1 (.inr rfl) Try.results78 (resr_tmp (res_cv rfl (cv_int (by first | rfl | assumption | omega | (simp_all; done) | grind))))

theorem from_zero {σ : Type} (c : Cod) (l bat : Nat) (T : σ → Own) (J : Int → σ → Prop) (s : σ) (v : Int) (hY : ∀ i s, 0 ≤ i → i < c.F.q ^ c.Gen.length → J i s → CtrY Try.prog l [T s] [aInt i, aSl 1 false aInt (wdF c.F c.N c.Gen i)] (J (i + 1)) (fun _ => aBool true) (fun s2 => [T s2])) (hN1 : 1 ≤ c.N) (hN : c.N ≤ 64) (hq : c.F.q ^ c.Gen.length ≤ 65536) (hv0 : 0 ≤ v) (hv1 : v < c.F.q ^ c.Gen.length) (hJ : J v s) : CtrW Try.prog 80 [oBox bat 3 [aInt v], T s] [aInt (c.Gen.length : Int), aSl 1 false aInt (wkF c.F c.N c.Gen c.Gen.length v), aAt 5 true (aCod c), aEx (.pointer (some ⟨bat, 0, none⟩)), aAt 1 false (aEx (.func (.yield l) #[] #[])), aAt 1 false (aGF c.F), aAny] (fun (s2 : σ) => J (v + 1) s2) (fun (s2 : σ) => aBool true) (fun (s2 : σ) => [oBox bat 3 [aInt (v + 1)], T s2]) := by
 refine ctrW_of Try.call80 Try.func80 rfl rfl ?_
 intro w O
 refine ent_len 1 rfl (fun hlen1 => ?_)
 refine ent_lenP 2 2 rfl rfl (fun hlen2_2 => ?_)
 refine ent_lenP 2 4 rfl rfl (fun hlen2_4 => ?_)
 refine esk rfl ?_
 refine ent_seq fun _ K2 => ?_
 refine esr rfl fun _ K3 => ?_
 refine ent_o rfl (ok_fieldAddr1 Try.runUnderlying27 rfl Try.sizeOf25 rfl rfl) ?_
 refine ent_o rfl (ok_load ti25 rfl) ?_
 refine ent_o rfl (ok_len rfl Try.runUnderlying25 rfl) ?_
 refine ent_o rfl (ok_eql rfl rfl) ?_
 refine enk K3 ?_
 refine ent_condD rfl (fun h18 => ?_) (fun h18 => ?_)
 ·refine esr rfl fun _ K4 => ?_
  refine ent_o rfl (ok_loadB (k := 0) Try.isAgg3 rfl rfl rfl) ?_
  refine ent_o rfl (ok_add rfl rfl (by omega) (by omega)) ?_
  refine ent_storeB (k := 0) Try.sizeOf3 rfl rfl rfl (one_int _) rfl ?_
  refine enk K4 ?_
  refine ent_seq fun _ K5 => ?_
  have lwk : (wkF c.F c.N c.Gen c.Gen.length v).length = c.N.toNat := length_wkF _ _ _ _ _
  have hwd := wkF_all c.F c.N c.Gen v
  refine entI_wide ?_
  refine entI_draw 5 mixed rfl (by kernel_rfl) (by kernel_rfl) (by kernel_rfl) ?_
  refine dw_o rfl (ok_load ti104 rfl) ?_
  refine dw_o rfl (ok_loadB (k := 0) Try.isAgg3 rfl rfl rfl) ?_
  refine dw_o rfl (ok_sub rfl rfl (by omega) (by omega)) ?_
  refine dw_o rfl (ok_move rfl) ?_
  refine dw_o rfl (ok_call (CtrN.ctr (Clone_ok (wkF c.F c.N c.Gen c.Gen.length v) (by first | rfl | assumption | omega | (simp_all; done) | grind))) rfl) ?_
  refine dw_nil ?_
  refine ent_pm 2 [0, 1] rfl (by decide) rfl ?_
  refine entL_yield (rs := [oBox bat 3 [aInt (v + 1)]]) rfl (hY v s hv0 hv1 hJ) rfl rfl ⟨arg_a rfl (cv_int (by first | rfl | assumption | omega | (simp_all; done) | grind)), arg_a rfl (cv_sl sub_refl (by first | rfl | assumption | omega | (simp_all; done) | grind)), trivial⟩ ?_
  rintro sy hsy
  show Ent _ ⟨_ :: _, [_, _]⟩ _
  refine ent_pm 2 [0, 1] rfl (by decide) rfl ?_
  refine entL_o rfl rfl (ok_assign rfl) ?_
  refine entL_nil ?_
  refine ent_k K5 ?_
  refine ent_ret ?_
  exact retW (.inr rfl) (sy) (hsy) ((show ([oBox bat 3 [aInt (v + 1)], T sy] : List Own) = [oBox bat 3 [aInt (v + 1)], T sy] from rfl).symm) (resW1 Try.results80 (resr_tmp (res_cv rfl (cv_bool (by first | rfl | assumption | omega | (simp_all; done) | grind)))))
 ·exact absurd rfl h18

theorem from_step {σ : Type} (c : Cod) (l bat : Nat) (T : σ → Own) (J : Int → σ → Prop) (s : σ) (v : Int) (r m : Nat) (hF : FOk c.F) (hN1 : 1 ≤ c.N) (hN : c.N ≤ 64) (hro : ∀ i : Int, 0 ≤ i → i < c.Gen.length → ((ix [] c.Gen i).length : Int) = c.N) (hrm : r + (m + 1) = c.Gen.length) (hv0 : 0 ≤ v) (hv1 : v < c.F.q ^ r) (hJ : J (v * c.F.q ^ (m + 1)) s) (IH : ∀ (s : σ) (v : Int), 0 ≤ v → v < c.F.q ^ (r + 1) → J (v * c.F.q ^ m) s → CtrW Try.prog 80 [oBox bat 3 [aInt (v * c.F.q ^ m)], T s] [aInt (↑(r + 1) : Int), aSl 1 false aInt (wkF c.F c.N c.Gen (r + 1) v), aAt 5 true (aCod c), aEx (.pointer (some ⟨bat, 0, none⟩)), aAt 1 false (aEx (.func (.yield l) #[] #[])), aAt 1 false (aGF c.F), aFrm 80 [aAt 5 true (aCod c), aEx (.pointer (some ⟨bat, 0, none⟩)), aAt 1 false (aEx (.func (.yield l) #[] #[])), aAt 1 false (aGF c.F)] m] (fun (s2 : σ) => J ((v + 1) * c.F.q ^ m) s2) (fun (s2 : σ) => aBool true) (fun (s2 : σ) => [oBox bat 3 [aInt ((v + 1) * c.F.q ^ m)], T s2])) : CtrW Try.prog 80 [oBox bat 3 [aInt (v * c.F.q ^ (m + 1))], T s] [aInt (r : Int), aSl 1 false aInt (wkF c.F c.N c.Gen r v), aAt 5 true (aCod c), aEx (.pointer (some ⟨bat, 0, none⟩)), aAt 1 false (aEx (.func (.yield l) #[] #[])), aAt 1 false (aGF c.F), aFrm 80 [aAt 5 true (aCod c), aEx (.pointer (some ⟨bat, 0, none⟩)), aAt 1 false (aEx (.func (.yield l) #[] #[])), aAt 1 false (aGF c.F)] (m + 1)] (fun (s2 : σ) => J ((v + 1) * c.F.q ^ (m + 1)) s2) (fun (s2 : σ) => aBool true) (fun (s2 : σ) => [oBox bat 3 [aInt ((v + 1) * c.F.q ^ (m + 1))], T s2]) := by
 have hS := hF.1
 have hqb := hS.bd
 have hlr : (r : Int) < c.Gen.length := by omega
 have hri := hro r (by omega) hlr
 have hN0 : 0 ≤ c.N := by omega
 have lw0 : (wkF c.F c.N c.Gen r v).length = c.N.toNat := length_wkF _ _ _ _ _
 have e0 : (v * c.F.q + 0) * c.F.q ^ m = v * c.F.q ^ (m + 1) := by rw [Int.add_zero, Int.pow_succ, Int.mul_assoc, Int.mul_comm c.F.q]
 have e1 : (v * c.F.q + c.F.q) * c.F.q ^ m = (v + 1) * c.F.q ^ (m + 1) := by rw [Int.pow_succ, Int.mul_comm (c.F.q ^ m), ← Int.mul_assoc, Int.add_mul v 1, Int.one_mul]
 refine ctrW_of Try.call80 Try.func80 rfl rfl ?_
 intro w O
 refine ent_len 1 rfl (fun hlen1 => ?_)
 refine ent_lenP 2 2 rfl rfl (fun hlen2_2 => ?_)
 refine ent_lenP 2 4 rfl rfl (fun hlen2_4 => ?_)
 refine ent_cv 6 rfl (cv_eq sub_refl (show _ = aAt 1 false (aClo 80 [aAt 5 true (aCod c), aEx (.pointer (some ⟨bat, 0, none⟩)), aAt 1 false (aEx (.func (.yield l) #[] #[])), aAt 1 false (aGF c.F), aFrm 80 [aAt 5 true (aCod c), aEx (.pointer (some ⟨bat, 0, none⟩)), aAt 1 false (aEx (.func (.yield l) #[] #[])), aAt 1 false (aGF c.F)] m]) from rfl)) ?_
 refine esk rfl ?_
 refine ent_seq fun _ K2 => ?_
 refine esr rfl fun _ K3 => ?_
 refine ent_o rfl (ok_fieldAddr1 Try.runUnderlying27 rfl Try.sizeOf25 rfl rfl) ?_
 refine ent_o rfl (ok_load ti25 rfl) ?_
 refine ent_o rfl (ok_len rfl Try.runUnderlying25 rfl) ?_
 refine ent_o rfl (ok_eql rfl rfl) ?_
 refine enk K3 ?_
 refine ent_condD rfl (fun h18 => ?_) (fun h18 => ?_)
 ·exact absurd h18 (by omega)
 ·refine esp K2 ?_
  refine ent_seq fun _ K4 => ?_
  refine esr rfl fun _ K5 => ?_
  refine ent_o rfl (ok_load ti89 rfl) ?_
  refine ent_o rfl (ok_call (Order_ok c.F) rfl) ?_
  refine emm rfl ?_
  refine enk K5 ?_
  refine ent_block ?_
  refine ent_loop (fun (ss : Int × σ) => match ss with | (a, sa) => (⟨[(0, aInt (r : Int)), (1, aSl 1 false aInt (wkF c.F c.N c.Gen r v)), (2, aAt 5 true (aCod c)), (5, aAt 1 false (aGF c.F)), (6, aAt 1 false (aClo 80 [aAt 5 true (aCod c), aEx (.pointer (some ⟨bat, 0, none⟩)), aAt 1 false (aEx (.func (.yield l) #[] #[])), aAt 1 false (aGF c.F), aFrm 80 [aAt 5 true (aCod c), aEx (.pointer (some ⟨bat, 0, none⟩)), aAt 1 false (aEx (.func (.yield l) #[] #[])), aAt 1 false (aGF c.F)] m])), (28, aInt c.F.q), (29, aInt a)], [oBox bat 3 [aInt ((v * c.F.q + a) * c.F.q ^ m)], T sa]⟩ : St)) (fun (ss : Int × σ) => match ss with | (a, sa) => (0 ≤ a) ∧ (a ≤ c.F.q) ∧ (J ((v * c.F.q + a) * c.F.q ^ m) sa)) (fun (ss : Int × σ) => match ss with | (a, sa) => (c.F.q - a).toNat) (0, s) ⟨(by first | rfl | assumption | omega | (simp_all; done) | grind), (by omega), (by rw [e0]; exact hJ)⟩ (ent_rep ⟨rfl, rfl, rfl, rfl, rfl, rfl, slot_av (av_int (show 0 = (0 : Int) by first | rfl | assumption | omega | (simp_all; done) | grind)), trivial⟩ (own_cons (own_box (av_cons (av_int (show (v * c.F.q + (0 : Int)) * c.F.q ^ m = v * c.F.q ^ (m + 1) by exact e0)) (rfl))) (rfl))) ?_
  rintro ⟨a, sa⟩ ⟨a0, a1, hJa⟩
  show Ent _ ⟨_, [_, _]⟩ _
  refine esr rfl fun _ K6 => ?_
  refine ent_o rfl (ok_lss rfl rfl) ?_
  refine enk K6 ?_
  refine ent_seq fun _ K7 => ?_
  refine ent_condD rfl (fun h30 => ?_) (fun h30 => ?_)
  ·refine esp K7 ?_
   refine ent_seq fun _ K8 => ?_
   refine ent_block ?_
   refine esk rfl ?_
   refine esr rfl fun _ K10 => ?_
   refine ent_callN rfl (Clone_ok (wkF c.F c.N c.Gen r v) (by first | rfl | assumption | omega | (simp_all; done) | grind)) (ArgsA.ok ⟨arg_a rfl (cv_id (sub_lent _)), trivial⟩) (fun r33 c33 => ?_)
   refine ent_rsome 0 rfl (by omega) (fun b33_1 hb33_1 => ?_)
   subst hb33_1
   refine emm rfl ?_
   refine enk K10 ?_
   refine ent_seq fun _ K11 => ?_
   refine esr rfl fun _ K12 => ?_
   refine ent_o rfl (ok_fieldAddr1 Try.runUnderlying27 rfl Try.sizeOf25 rfl rfl) ?_
   refine ent_o rfl (ok_load ti25 rfl) ?_
   refine emm rfl ?_
   refine ent_o rfl (ok_index [] sl25 rfl rfl (by omega) (by omega)) ?_
   refine ent_o rfl (ok_load ti22 rfl) ?_
   refine ent_o rfl (ok_len rfl Try.runUnderlying22 rfl) ?_
   refine emm rfl ?_
   refine enk K12 ?_
   refine ent_block ?_
   refine ent_loop (fun (j : Int) => (⟨[(0, aInt (r : Int)), (1, aSl 1 false aInt (wkF c.F c.N c.Gen r v)), (2, aAt 5 true (aCod c)), (5, aAt 1 false (aGF c.F)), (6, aAt 1 false (aClo 80 [aAt 5 true (aCod c), aEx (.pointer (some ⟨bat, 0, none⟩)), aAt 1 false (aEx (.func (.yield l) #[] #[])), aAt 1 false (aGF c.F), aFrm 80 [aAt 5 true (aCod c), aEx (.pointer (some ⟨bat, 0, none⟩)), aAt 1 false (aEx (.func (.yield l) #[] #[])), aAt 1 false (aGF c.F)] m])), (10, aInt a), (11, aEx (vec (some b33_1) (((wkF c.F c.N c.Gen r v)).length) c33)), (28, aInt c.F.q), (29, aInt a), (38, aSl 1 false aInt (ix [] c.Gen (r : Int))), (39, aInt (↑(ix [] c.Gen (r : Int)).length : Int)), (40, aInt j)], [oVec (some b33_1) c33 3 1 false aInt (mixL (nxW c.F (wkF c.F c.N c.Gen r v) a (ix [] c.Gen r)) (wkF c.F c.N c.Gen r v) j), oBox bat 3 [aInt ((v * c.F.q + a) * c.F.q ^ m)], T sa]⟩ : St)) (fun (j : Int) => (0 ≤ j) ∧ (j ≤ c.N)) (fun (j : Int) => (c.N - j).toNat) 0 ⟨(by first | rfl | assumption | omega | (simp_all; done) | grind), (by first | rfl | assumption | omega | (simp_all; done) | grind)⟩ (ent_rep ⟨rfl, rfl, rfl, rfl, rfl, rfl, rfl, rfl, rfl, rfl, rfl, slot_av (av_int (show 0 = (0 : Int) by first | rfl | assumption | omega | (simp_all; done) | grind)), trivial⟩ (own_cons (own_vec (show mixL (nxW c.F (wkF c.F c.N c.Gen r v) a (ix [] c.Gen r)) (wkF c.F c.N c.Gen r v) (0 : Int) = (wkF c.F c.N c.Gen r v) by exact mixL_zero _ _)) (rfl))) ?_
   rintro j ⟨j0, j1⟩
   show Ent _ ⟨_, [_, _, _]⟩ _
   have lmx : (mixL (nxW c.F (wkF c.F c.N c.Gen r v) a (ix [] c.Gen r)) (wkF c.F c.N c.Gen r v) j).length = c.N.toNat := by rw [length_mixL _ _ (by simp)]; exact lw0
   refine esr rfl fun _ K13 => ?_
   refine ent_o rfl (ok_lss rfl rfl) ?_
   refine enk K13 ?_
   refine ent_seq fun _ K14 => ?_
   refine ent_condD rfl (fun h41 => ?_) (fun h41 => ?_)
   ·refine esp K14 ?_
    refine ent_seq fun _ K15 => ?_
    refine ent_block ?_
    refine esr rfl fun _ K16 => ?_
    refine ent_o rfl (ok_index 0 sl22 rfl rfl (by omega) (by omega)) ?_
    refine ent_o rfl (ok_load ti3 rfl) ?_
    refine emm rfl ?_
    refine enk K16 ?_
    refine ent_seq fun _ K17 => ?_
    refine ent_cut (⟨[(0, aInt (r : Int)), (1, aSl 1 false aInt (wkF c.F c.N c.Gen r v)), (2, aAt 5 true (aCod c)), (5, aAt 1 false (aGF c.F)), (6, aAt 1 false (aClo 80 [aAt 5 true (aCod c), aEx (.pointer (some ⟨bat, 0, none⟩)), aAt 1 false (aEx (.func (.yield l) #[] #[])), aAt 1 false (aGF c.F), aFrm 80 [aAt 5 true (aCod c), aEx (.pointer (some ⟨bat, 0, none⟩)), aAt 1 false (aEx (.func (.yield l) #[] #[])), aAt 1 false (aGF c.F)] m])), (10, aInt a), (11, aEx (vec (some b33_1) (((wkF c.F c.N c.Gen r v)).length) c33)), (12, aInt j), (13, aInt (ix 0 (ix [] c.Gen (r : Int)) j)), (28, aInt c.F.q), (29, aInt a), (38, aSl 1 false aInt (ix [] c.Gen (r : Int))), (39, aInt (↑(ix [] c.Gen (r : Int)).length : Int)), (40, aInt j), (50, aBool (decide ((a ≠ 0) ∧ ((ix 0 (ix [] c.Gen (r : Int)) j) ≠ 0))))], [oVec (some b33_1) c33 3 1 false aInt (mixL (nxW c.F (wkF c.F c.N c.Gen r v) a (ix [] c.Gen r)) (wkF c.F c.N c.Gen r v) j), oBox bat 3 [aInt ((v * c.F.q + a) * c.F.q ^ m)], T sa]⟩) ?_ ?_
    ·refine ent_region ?_
     refine emm rfl ?_
     refine ent_o rfl (ok_neq rfl rfl) ?_
     refine emm rfl ?_
     refine ent_guardXDt rfl rfl rfl rfl (fun hg47 => ?_) (fun hg47 => ?_)
     ·refine emm rfl ?_
      refine ent_guardXT rfl rfl rfl rfl (decide_eq_true hg47) ?_
      refine ent_o rfl (ok_neq rfl rfl) ?_
      refine ent_o rfl (ok_pickT rfl (decide_eq_true hg47) rfl) ?_
      refine ent_nil ?_
      exact ent_rep ⟨rfl, rfl, rfl, rfl, rfl, rfl, rfl, rfl, rfl, rfl, rfl, rfl, rfl, rfl, slot_bool (dq_Q ((and_iff_right hg47).trans Iff.rfl)), trivial⟩ rfl
     ·refine ent_guardXF rfl rfl rfl rfl (decide_eq_false hg47) ?_
      refine ent_o rfl (ok_pickF rfl (decide_eq_false hg47) rfl) ?_
      refine ent_nil ?_
      exact ent_rep ⟨rfl, rfl, rfl, rfl, rfl, rfl, rfl, rfl, rfl, rfl, rfl, rfl, rfl, rfl, slot_bool (dq_F rfl (fun h => hg47 h.1)), trivial⟩ rfl
    refine ent_k K17 ?_
    refine ent_condD rfl (fun h50 => ?_) (fun h50 => ?_)
    ·refine ent_draw 13 mixed (by kernel_rfl) (by kernel_rfl) (by kernel_rfl) ?_
     refine dw_o rfl (ok_move rfl) ?_
     refine dw_o rfl (ok_move rfl) ?_
     refine dw_o rfl (ok_load ti89 rfl) ?_
     refine dw_o rfl (ok_move rfl) ?_
     refine dw_o rfl (ok_move rfl) ?_
     refine dw_o rfl (ok_indexV sl22 rfl rfl (by omega) (by omega)) ?_
     refine dw_o rfl (ok_loadV (k := 0) 0 ti3 rfl rfl (by omega) (by omega)) ?_
     refine dw_o rfl (ok_load ti89 rfl) ?_
     refine dw_o rfl (ok_move rfl) ?_
     refine dw_o rfl (ok_move rfl) ?_
     refine dw_o rfl (ok_call (Mul_ok c.F a (ix 0 (ix [] c.Gen (r : Int)) j) (by first | rfl | assumption | omega | (simp_all; done) | grind)) rfl) ?_
     refine dw_o rfl (ok_call (Add_ok c.F (ix 0 (mixL (nxW c.F (wkF c.F c.N c.Gen r v) a (ix [] c.Gen r)) (wkF c.F c.N c.Gen r v) j) j) (mulF c.F a (ix 0 (ix [] c.Gen (r : Int)) j)) (by first | rfl | assumption | omega | (simp_all; done) | grind)) rfl) ?_
     refine dw_o rfl (ok_indexV sl22 rfl rfl (by omega) (by omega)) ?_
     refine dw_nil ?_
     refine ent_storeV (k := 0) (z := addF c.F (ix 0 (mixL (nxW c.F (wkF c.F c.N c.Gen r v) a (ix [] c.Gen r)) (wkF c.F c.N c.Gen r v) j) j) (mulF c.F a (ix 0 (ix [] c.Gen (r : Int)) j))) ti3 rfl rfl rfl (elem_one (one_int _)) (by omega) (by omega) ?_
     refine enk K15 ?_
     refine ent_region ?_
     refine ent_o rfl (ok_add rfl rfl (by omega) (by omega)) ?_
     refine emm rfl ?_
     refine ent_nil ?_
     refine ent_again (s := (j)) (j + 1) ⟨(by first | rfl | assumption | omega | (simp_all; done) | grind), (by omega)⟩ (by first | omega | (dsimp only; omega)) (ent_rep ⟨rfl, rfl, rfl, rfl, rfl, rfl, rfl, rfl, rfl, rfl, rfl, rfl, trivial⟩ (own_cons (own_vec (show mixL (nxW c.F (wkF c.F c.N c.Gen r v) a (ix [] c.Gen r)) (wkF c.F c.N c.Gen r v) (j + 1) = List.set (mixL (nxW c.F (wkF c.F c.N c.Gen r v) a (ix [] c.Gen r)) (wkF c.F c.N c.Gen r v) j) (j).toNat (addF c.F (ix 0 (mixL (nxW c.F (wkF c.F c.N c.Gen r v) a (ix [] c.Gen r)) (wkF c.F c.N c.Gen r v) j) j) (mulF c.F a (ix 0 (ix [] c.Gen (r : Int)) j))) by first | exact (nxW_set _ _ _ _ j0 (by omega) h50.1 h50.2).symm | exact (nxW_stay _ _ _ _ j0 (by omega) h50).symm)) (rfl)))
    ·refine esp K15 ?_
     refine ent_region ?_
     refine ent_o rfl (ok_add rfl rfl (by omega) (by omega)) ?_
     refine emm rfl ?_
     refine ent_nil ?_
     refine ent_again (s := (j)) (j + 1) ⟨(by first | rfl | assumption | omega | (simp_all; done) | grind), (by omega)⟩ (by first | omega | (dsimp only; omega)) (ent_rep ⟨rfl, rfl, rfl, rfl, rfl, rfl, rfl, rfl, rfl, rfl, rfl, rfl, trivial⟩ (own_cons (own_vec (show mixL (nxW c.F (wkF c.F c.N c.Gen r v) a (ix [] c.Gen r)) (wkF c.F c.N c.Gen r v) (j + 1) = mixL (nxW c.F (wkF c.F c.N c.Gen r v) a (ix [] c.Gen r)) (wkF c.F c.N c.Gen r v) j by first | exact (nxW_set _ _ _ _ j0 (by omega) h50.1 h50.2).symm | exact (nxW_stay _ _ _ _ j0 (by omega) h50).symm)) (rfl)))
   ·refine ent_exit ?_
    refine ent_k K11 ?_
    refine esr rfl fun _ K18 => ?_
    have hnx : mixL (nxW c.F (wkF c.F c.N c.Gen r v) a (ix [] c.Gen r)) (wkF c.F c.N c.Gen r v) j = wkF c.F c.N c.Gen (r + 1) (v * c.F.q + a) := by rw [nxW_all _ _ _ _ (by omega)]; exact wkF_nx a0 h30
    have hva : 0 ≤ v * c.F.q := Int.mul_nonneg hv0 (by omega)
    have hvb : v * c.F.q + a < c.F.q ^ (r + 1) := by
       have := Int.mul_le_mul_of_nonneg_right (show v + 1 ≤ c.F.q ^ r by omega) (show 0 ≤ c.F.q by omega)
       rw [Int.add_mul, Int.one_mul, ← Int.pow_succ c.F.q r] at this
       have hrs : r.succ = r + 1 := rfl
       rw [hrs] at this
       omega
    refine ent_o rfl (ok_load ti104 rfl) ?_
    refine emm rfl ?_
    refine ent_o rfl (ok_add rfl rfl (by omega) (by omega)) ?_
    refine emm rfl ?_
    refine ent_give 0 68 rfl (cv_vec (k := 0) (off_erase rfl) (by first | rfl | assumption | (simp; done) | (simp_all; done) | omega) rfl) ?_
    refine ent_callWP (As := [aInt (↑(r + 1) : Int), aSl 1 false aInt (wkF c.F c.N c.Gen (r + 1) (v * c.F.q + a))]) (Bs := [aAt 5 true (aCod c), aEx (.pointer (some ⟨bat, 0, none⟩)), aAt 1 false (aEx (.func (.yield l) #[] #[])), aAt 1 false (aGF c.F), aFrm 80 [aAt 5 true (aCod c), aEx (.pointer (some ⟨bat, 0, none⟩)), aAt 1 false (aEx (.func (.yield l) #[] #[])), aAt 1 false (aGF c.F)] m]) (rs := []) [] rfl (IH sa (v * c.F.q + a) (by omega) hvb hJa) rfl rfl (.inl rfl) rfl ⟨arg_a rfl (cv_int (by first | rfl | assumption | omega | (simp_all; done) | grind)), arg_a rfl (cv_sl (sub_lent _) (by first | rfl | assumption | omega | (simp_all; done) | grind)), trivial⟩ ?_
    rintro s2_2 h69_2
    show Ent _ ⟨_ :: _, [_, _]⟩ _
    have hIH := h69_2
    refine ent_o rfl (ok_not rfl) ?_
    refine enk K18 ?_
    refine ent_condF rfl ?_
    refine esp K8 ?_
    refine ent_region ?_
    refine ent_o rfl (ok_add rfl rfl (by omega) (by omega)) ?_
    refine emm rfl ?_
    refine ent_nil ?_
    refine ent_again (s := (a, sa)) (a + 1, s2_2) ⟨(by omega), (by omega), (by rw [← Int.add_assoc]; exact hIH)⟩ (by first | omega | (dsimp only; omega)) (ent_rep ⟨rfl, rfl, rfl, rfl, rfl, rfl, rfl, trivial⟩ (own_cons (own_box (av_cons (av_int (show (v * c.F.q + (a + 1)) * c.F.q ^ m = ((v * c.F.q + a) + 1) * c.F.q ^ m by rw [← Int.add_assoc])) (rfl))) (rfl)))
  ·refine ent_exit ?_
   refine ent_k K4 ?_
   refine esk rfl ?_
   refine ent_ret ?_
   exact retW (.inr rfl) (sa) ((by have := hJa; rw [show a = c.F.q by omega, e1] at this; exact this)) ((show ([oBox bat 3 [aInt ((v + 1) * c.F.q ^ (m + 1))], T sa] : List Own) = [oBox bat 3 [aInt ((v * c.F.q + a) * c.F.q ^ m)], T sa] from (own_cons (own_box (av_cons (av_int (show (v + 1) * c.F.q ^ (m + 1) = (v * c.F.q + a) * c.F.q ^ m by rw [show a = c.F.q by omega]; exact e1.symm)) (rfl))) (rfl))).symm) (resW1 Try.results80 (resr_tmp (res_cv rfl (cv_bool (by first | rfl | assumption | omega | (simp_all; done) | grind)))))

theorem from_ok {σ : Type} (c : Cod) (l bat : Nat) (T : σ → Own) (J : Int → σ → Prop) (hY : ∀ i s, 0 ≤ i → i < c.F.q ^ c.Gen.length → J i s → CtrY Try.prog l [T s] [aInt i, aSl 1 false aInt (wdF c.F c.N c.Gen i)] (J (i + 1)) (fun _ => aBool true) (fun s2 => [T s2])) (hF : FOk c.F) (hN1 : 1 ≤ c.N) (hN : c.N ≤ 64) (hq : c.F.q ^ c.Gen.length ≤ 65536) (hro : ∀ i : Int, 0 ≤ i → i < c.Gen.length → ((ix [] c.Gen i).length : Int) = c.N) : ∀ (m r : Nat) (s : σ) (v : Int), r + m = c.Gen.length → 0 ≤ v → v < c.F.q ^ r → J (v * c.F.q ^ m) s →
  CtrW Try.prog 80 [oBox bat 3 [aInt (v * c.F.q ^ m)], T s] [aInt (r : Int), aSl 1 false aInt (wkF c.F c.N c.Gen r v), aAt 5 true (aCod c), aEx (.pointer (some ⟨bat, 0, none⟩)), aAt 1 false (aEx (.func (.yield l) #[] #[])), aAt 1 false (aGF c.F), aFrm 80 [aAt 5 true (aCod c), aEx (.pointer (some ⟨bat, 0, none⟩)), aAt 1 false (aEx (.func (.yield l) #[] #[])), aAt 1 false (aGF c.F)] m] (fun (s2 : σ) => J ((v + 1) * c.F.q ^ m) s2) (fun (s2 : σ) => aBool true) (fun (s2 : σ) => [oBox bat 3 [aInt ((v + 1) * c.F.q ^ m)], T s2])
 | 0, r, s, v, hr, hv0, hv1, hJ => by
  have hr' : r = c.Gen.length := by omega
  subst hr'
  simp only [Int.pow_zero, Int.mul_one] at hJ ⊢
  exact from_zero c l bat T J s v hY hN1 hN hq hv0 hv1 hJ
 | m + 1, r, s, v, hr, hv0, hv1, hJ =>
  from_step c l bat T J s v r m hF hN1 hN hro hr hv0 hv1 hJ fun s v h0 h1 h2 => from_ok c l bat T J hY hF hN1 hN hq hro m (r + 1) s v (by omega) h0 h1 h2

theorem from_top {σ : Type} (c : Cod) (l bat : Nat) (T : σ → Own) (J : Int → σ → Prop) (s : σ) (hY : ∀ i s, 0 ≤ i → i < c.F.q ^ c.Gen.length → J i s → CtrY Try.prog l [T s] [aInt i, aSl 1 false aInt (wdF c.F c.N c.Gen i)] (J (i + 1)) (fun _ => aBool true) (fun s2 => [T s2])) (hF : FOk c.F) (hN1 : 1 ≤ c.N) (hN : c.N ≤ 64) (hq : c.F.q ^ c.Gen.length ≤ 65536) (hro : ∀ i : Int, 0 ≤ i → i < c.Gen.length → ((ix [] c.Gen i).length : Int) = c.N) (hJ : J 0 s) : CtrW Try.prog 80 [oBox bat 3 [aInt 0], T s] [aInt 0, aSl 1 false aInt (List.replicate c.N.toNat 0), aAt 5 true (aCod c), aEx (.pointer (some ⟨bat, 0, none⟩)), aAt 1 false (aEx (.func (.yield l) #[] #[])), aAt 1 false (aGF c.F), aFrm 80 [aAt 5 true (aCod c), aEx (.pointer (some ⟨bat, 0, none⟩)), aAt 1 false (aEx (.func (.yield l) #[] #[])), aAt 1 false (aGF c.F)] c.Gen.length] (fun (s2 : σ) => J (c.F.q ^ c.Gen.length) s2) (fun (s2 : σ) => aBool true) (fun (s2 : σ) => [oBox bat 3 [aInt (c.F.q ^ c.Gen.length)], T s2]) := by
 have h := from_ok c l bat T J hY hF hN1 hN hq hro c.Gen.length 0 s 0 (by omega) (Int.le_refl 0) (by simp) (by rw [Int.zero_mul]; exact hJ)
 rw [Int.zero_mul, show ((0 : Int) + 1) = 1 from rfl, Int.one_mul] at h
 exact h
end Go.Proofs.Ytbofipdmoocflaa

