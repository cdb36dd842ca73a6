/-
  Walks of functions of the program and the reference.
-/
import Derived.Test.YtbofipdmoocflaaProg
import Derived.Test.YtbofipdmoocflaaXTab
import Derived.Test.YtbofipdmoocflaaPlainDs
import Derived.Test.YtbofipdmoocflaaCiLib
import Derived.Test.YtbofipdmoocflaaX4
import Derived.Test.YtbofipdmoocflaaX5
import Derived.Test.YtbofipdmoocflaaX6
import Derived.Test.YtbofipdmoocflaaX9
import Derived.Test.YtbofipdmoocflaaX1
import Derived.Test.YtbofipdmoocflaaX10
import Derived.Test.YtbofipdmoocflaaX11
import Derived.Test.YtbofipdmoocflaaX12
import Derived.Test.YtbofipdmoocflaaX13
import Derived.Test.YtbofipdmoocflaaX14
import Derived.Test.YtbofipdmoocflaaX15
import Derived.Test.YtbofipdmoocflaaX18
import Derived.Test.YtbofipdmoocflaaX19
import Derived.Test.YtbofipdmoocflaaX20
import Derived.Test.YtbofipdmoocflaaX30
import Derived.Test.YtbofipdmoocflaaX31
import Derived.Test.YtbofipdmoocflaaX32
import Derived.Test.YtbofipdmoocflaaX33
import Derived.Test.YtbofipdmoocflaaX35
import Derived.Test.YtbofipdmoocflaaX36
open Go Go.Cw
namespace Go.Proofs.Ytbofipdmoocflaa
set_option maxRecDepth 100000
set_option linter.unusedVariables false
set_option linter.unusedSimpArgs false
theorem eDistances_ok (f : Fld) (n : Int) (l : List (List Int))  : Ctr Try.prog 32 [aFld f, aInt n, aSl 1 false aInts l] (aTup [aSl 1 false aInt (diL f n l), aInt (diE f n l)]) := by
 refine ctr_of Try.call32 Try.func32 rfl rfl ?_
 intro w O
 refine ent_lenC 0 2 rfl rfl (fun hlen0_2 => ?_)
 refine ent_len 2 rfl (fun hlen2 => ?_)
 refine esr rfl fun _ K1 => ?_
 refine ent_boxS rfl rfl (AllOne.mem ⟨(one_int _), (one_int _), one_sl, trivial⟩) (fun b3_1 => ?_)
 refine emm rfl ?_
 refine enk K1 ?_
 refine esr rfl fun _ K2 => ?_
 refine ent_o rfl (ok_loadBS (k := 0) ti24 rfl rfl rfl) ?_
 rcases Classical.em (FOk f) with hF | hF
 ·refine ent_o rfl (ok_call (CtrF.ctr (New_ok f hF)) rfl) ?_
  refine emm rfl ?_
  refine ent_o rfl (ok_extract rfl rfl) ?_
  refine ent_o rfl (ok_extract rfl rfl) ?_
  refine emm rfl ?_
  refine enk K2 ?_
  refine ent_seq fun _ K3 => ?_
  refine ent_block ?_
  refine esr rfl fun _ K4 => ?_
  refine ent_o rfl (ok_neq rfl rfl) ?_
  refine emm rfl ?_
  refine enk K4 ?_
  refine ent_condFP rfl (by decide) ?_
  refine ent_seq fun _ K5 => ?_
  refine ent_cut (⟨[(1, aInt n), (2, aSl 1 false aInts l), (8, aGF f), (27, aBool (decide ((n < 1) ∨ (64 < n))))], [oBox b3_1 24 [aInt f.P, aInt f.M, aSl 1 false aInt f.mod]]⟩) ?_ ?_
  ·refine ent_region ?_
   refine emm rfl ?_
   refine ent_o rfl (ok_lss rfl rfl) ?_
   refine emm rfl ?_
   refine ent_guardXDf rfl rfl rfl rfl (fun hg30 => ?_) (fun hg30 => ?_)
   ·refine emm rfl ?_
    refine ent_guardXT rfl rfl rfl rfl (decide_eq_false hg30) ?_
    refine ent_o rfl (ok_gtr rfl rfl) ?_
    refine ent_o rfl (ok_pickF rfl (decide_eq_false hg30) rfl) ?_
    refine emm rfl ?_
    refine ent_nil ?_
    exact ent_rep ⟨rfl, rfl, rfl, slot_bool (dq_Q ((or_iff_right hg30).trans Iff.rfl)), trivial⟩ rfl
   ·refine ent_guardXF rfl rfl rfl rfl (decide_eq_true hg30) ?_
    refine ent_o rfl (ok_pickT rfl (decide_eq_true hg30) rfl) ?_
    refine emm rfl ?_
    refine ent_nil ?_
    exact ent_rep ⟨rfl, rfl, rfl, slot_bool (dq_T rfl (Or.inl hg30)), trivial⟩ rfl
  refine ent_k K5 ?_
  refine ent_condD rfl (fun h27 => ?_) (fun h27 => ?_)
  ·have he : diE f n l = 4 := by unfold diE; rw [if_pos hF, if_pos h27]
   have hL : diL f n l = [] := diL_no (by rw [he]; decide)
   refine esk rfl ?_
   refine ent_ret ?_
   exact retR2 (.inr rfl) Try.results32 (resr_tmp (res_cv rfl (cv_nil (fun _ => rfl) (by first | (rw [hL]; done) | (rw [diL_no (by unfold diE; rw [if_neg hF]; decide)]; done) | (rw [hL, show a.toNat = l.length by omega]; exact dis_eq hll (by omega)))))) (resr_tmp (res_cv rfl (cv_int (by first | exact he.symm | (unfold diE; rw [if_neg hF]; done)))))
  ·refine esr rfl fun _ K7 => ?_
   refine ent_o rfl (ok_len rfl Try.runUnderlying25 rfl) ?_
   refine ent_o rfl (ok_gtr rfl rfl) ?_
   refine emm rfl ?_
   refine enk K7 ?_
   refine ent_condD rfl (fun h34 => ?_) (fun h34 => ?_)
   ·have he : diE f n l = 8 := by unfold diE; rw [if_pos hF, if_neg h27, if_pos h34]
    have hL : diL f n l = [] := diL_no (by rw [he]; decide)
    refine esk rfl ?_
    refine ent_ret ?_
    exact retR2 (.inr rfl) Try.results32 (resr_tmp (res_cv rfl (cv_nil (fun _ => rfl) (by first | (rw [hL]; done) | (rw [diL_no (by unfold diE; rw [if_neg hF]; decide)]; done) | (rw [hL, show a.toNat = l.length by omega]; exact dis_eq hll (by omega)))))) (resr_tmp (res_cv rfl (cv_int (by first | exact he.symm | (unfold diE; rw [if_neg hF]; done)))))
   ·have hr : diE f n l = rowE f n l := by unfold diE; rw [if_pos hF, if_neg h27, if_neg h34]
    refine esp K3 ?_
    refine ent_seq fun _ K9 => ?_
    refine esr rfl fun _ K10 => ?_
    refine ent_o rfl (ok_len rfl Try.runUnderlying25 rfl) ?_
    refine emm rfl ?_
    refine enk K10 ?_
    refine ent_block ?_
    refine ent_loop (fun (k : Int) => (⟨[(1, aInt n), (2, aSl 1 false aInts l), (8, aGF f), (38, aSl 1 false aInts l), (39, aInt (↑l.length : Int)), (40, aInt k)], [oBox b3_1 24 [aInt f.P, aInt f.M, aSl 1 false aInt f.mod]]⟩ : St)) (fun (k : Int) => (0 ≤ k) ∧ (k ≤ l.length) ∧ (∀ z : Int, 0 ≤ z → z < k → lisE f (ix [] l z) n = 0)) (fun (k : Int) => (l.length - k).toNat) 0 ⟨(by first | rfl | assumption | omega | (simp_all; done) | grind), (by first | rfl | assumption | omega | (simp_all; done) | grind), (fun z z0 z1 => by omega)⟩ (ent_rep ⟨rfl, rfl, rfl, rfl, rfl, slot_av (av_int (show 0 = (0 : Int) by first | rfl | assumption | omega | (simp_all; done) | grind)), trivial⟩ rfl) ?_
    rintro k ⟨k0, k1, kn⟩
    show Ent _ ⟨_, [_]⟩ _
    refine esr rfl fun _ K11 => ?_
    refine ent_o rfl (ok_lss rfl rfl) ?_
    refine enk K11 ?_
    refine ent_seq fun _ K12 => ?_
    refine ent_condD rfl (fun h41 => ?_) (fun h41 => ?_)
    ·refine esp K12 ?_
     refine ent_seq fun _ K13 => ?_
     refine ent_block ?_
     refine esr rfl fun _ K14 => ?_
     refine ent_o rfl (ok_index [] sl25 rfl rfl (by first | omega | (simp; omega)) (by first | omega | (simp; omega))) ?_
     refine ent_o rfl (ok_load ti22 rfl) ?_
     refine emm rfl ?_
     refine enk K14 ?_
     refine esr rfl fun _ K15 => ?_
     refine ent_o rfl (ok_call (eEntries_ok f (ix [] l k) n) rfl) ?_
     refine emm rfl ?_
     refine enk K15 ?_
     refine esr rfl fun _ K16 => ?_
     refine ent_o rfl (ok_neq rfl rfl) ?_
     refine enk K16 ?_
     refine ent_condD rfl (fun h49 => ?_) (fun h49 => ?_)
     ·have he := hr.trans (rowE_at k0 (by omega) kn h49)
      have hL : diL f n l = [] := diL_no (by rw [he]; exact h49)
      refine esk rfl ?_
      refine ent_ret ?_
      exact retR2 (.inr rfl) Try.results32 (resr_tmp (res_cv rfl (cv_nil (fun _ => rfl) (by first | (rw [hL]; done) | (rw [diL_no (by unfold diE; rw [if_neg hF]; decide)]; done) | (rw [hL, show a.toNat = l.length by omega]; exact dis_eq hll (by omega)))))) (resr_tmp (res_cv rfl (cv_int (by first | exact he.symm | (unfold diE; rw [if_neg hF]; done)))))
     ·refine esp K13 ?_
      refine ent_region ?_
      refine ent_o rfl (ok_add rfl rfl (by first | omega | (simp; omega)) (by first | omega | (simp; omega))) ?_
      refine emm rfl ?_
      refine ent_nil ?_
      refine ent_again (s := (k)) (k + 1) ⟨(by first | rfl | assumption | omega | (simp_all; done) | grind), (by first | rfl | assumption | omega | (simp_all; done) | grind), (fun z z0 z1 => by by_cases hz : z = k; (rw [hz]; exact Classical.not_not.1 h49); exact kn z z0 (by omega))⟩ (by first | omega | (dsimp only; omega)) (ent_rep ⟨rfl, rfl, rfl, rfl, rfl, rfl, trivial⟩ rfl)
    ·refine ent_exit ?_
     refine ent_k K9 ?_
     refine esr rfl fun _ K18 => ?_
     have hall : ∀ z : Int, 0 ≤ z → z < l.length → lisE f (ix [] l z) n = 0 := fun z z0 z1 => kn z z0 (by omega)
     have hll := lis_lens hall
     have he := hr.trans (rowE_all hall)
     have hL := diL_ok he
     refine emm rfl ?_
     refine ent_o rfl (ok_add rfl rfl (by first | omega | (simp; omega)) (by first | omega | (simp; omega))) ?_
     refine ent_make aInt 0 rfl vt22 rfl rfl (by first | omega | (simp; omega)) (by first | omega | (simp; omega)) (by first | omega | (simp; omega)) (fun _ _ => rfl) (AllV.mem ⟨rfl, trivial⟩) (fun b54_2 => ?_)
     refine emm rfl ?_
     refine enk K18 ?_
     refine esr rfl fun _ K19 => ?_
     refine ent_o rfl (ok_len rfl Try.runUnderlying25 rfl) ?_
     refine ent_o rfl (ok_indexV sl22 rfl rfl (by first | omega | (simp; omega)) (by first | omega | (simp; omega))) ?_
     refine ent_storeV (k := 0) (z := (↑l.length : Int)) ti3 rfl rfl rfl (elem_one (one_int _)) (by first | omega | (simp; omega)) (by first | omega | (simp; omega)) ?_
     refine enk K19 ?_
     refine ent_seq fun _ K20 => ?_
     refine esr rfl fun _ K21 => ?_
     refine ent_o rfl (ok_len rfl Try.runUnderlying25 rfl) ?_
     refine emm rfl ?_
     refine enk K21 ?_
     refine ent_block ?_
     refine ent_loop (fun (a : Int) => (⟨[(2, aSl 1 false aInts l), (13, aEx (vec (some b54_2) ((n + 1).toNat) ((n + 1).toNat))), (59, aSl 1 false aInts l), (60, aInt (↑l.length : Int)), (61, aInt a)], [oVec (some b54_2) ((n + 1).toNat) 3 1 false aInt (disP l n a.toNat), oBox b3_1 24 [aInt f.P, aInt f.M, aSl 1 false aInt f.mod]]⟩ : St)) (fun (a : Int) => (0 ≤ a) ∧ (a ≤ l.length)) (fun (a : Int) => (l.length - a).toNat) 0 ⟨(by first | rfl | assumption | omega | (simp_all; done) | grind), (by first | rfl | assumption | omega | (simp_all; done) | grind)⟩ (ent_rep ⟨rfl, rfl, rfl, rfl, slot_av (av_int (show 0 = (0 : Int) by first | rfl | assumption | omega | (simp_all; done) | grind)), trivial⟩ (own_cons (own_vec (show disP l n (0 : Int).toNat = List.set (List.replicate ((n + 1).toNat) 0) 0 (↑l.length : Int) by rfl)) (rfl))) ?_
     rintro a ⟨a0, a1⟩
     show Ent _ ⟨_, [_, _]⟩ _
     have ldp : (disP l n a.toNat).length = (n + 1).toNat := length_disP _ _ _
     refine esr rfl fun _ K22 => ?_
     refine ent_o rfl (ok_lss rfl rfl) ?_
     refine enk K22 ?_
     refine ent_seq fun _ K23 => ?_
     refine ent_condD rfl (fun h62 => ?_) (fun h62 => ?_)
     ·refine esp K23 ?_
      refine ent_seq fun _ K24 => ?_
      refine ent_block ?_
      refine esr rfl fun _ K25 => ?_
      refine ent_o rfl (ok_index [] sl25 rfl rfl (by first | omega | (simp; omega)) (by first | omega | (simp; omega))) ?_
      refine ent_o rfl (ok_load ti22 rfl) ?_
      refine emm rfl ?_
      refine enk K25 ?_
      refine esr rfl fun _ K26 => ?_
      refine ent_o rfl (ok_sliceTo sl25 rfl rfl (by first | omega | (simp; omega)) (by first | omega | (simp; omega))) ?_
      refine ent_o rfl (ok_len rfl Try.runUnderlying25 rfl) ?_
      refine emm rfl ?_
      refine enk K26 ?_
      refine ent_block ?_
      refine ent_loop (fun (b : Int) => (⟨[(2, aSl 1 false aInts l), (13, aEx (vec (some b54_2) ((n + 1).toNat) ((n + 1).toNat))), (15, aSl 1 false aInt (ix [] l a)), (59, aSl 1 false aInts l), (60, aInt (↑l.length : Int)), (61, aInt a), (68, aSl 1 false aInts (List.take (a).toNat l)), (69, aInt (↑(List.take (a).toNat l).length : Int)), (70, aInt b)], [oVec (some b54_2) ((n + 1).toNat) 3 1 false aInt (hisOn (disP l n a.toNat) (dg l a) 2 b.toNat), oBox b3_1 24 [aInt f.P, aInt f.M, aSl 1 false aInt f.mod]]⟩ : St)) (fun (b : Int) => (0 ≤ b) ∧ (b ≤ a)) (fun (b : Int) => (a - b).toNat) 0 ⟨(by first | rfl | assumption | omega | (simp_all; done) | grind), (by first | rfl | assumption | omega | (simp_all; done) | grind)⟩ (ent_rep ⟨rfl, rfl, rfl, rfl, rfl, rfl, rfl, rfl, slot_av (av_int (show 0 = (0 : Int) by first | rfl | assumption | omega | (simp_all; done) | grind)), trivial⟩ (own_cons (own_vec (show hisOn (disP l n a.toNat) (dg l a) 2 (0 : Int).toNat = disP l n a.toNat by rfl)) (rfl))) ?_
      rintro b ⟨b0, b1⟩
      show Ent _ ⟨_, [_, _]⟩ _
      have lho : (hisOn (disP l n a.toNat) (dg l a) 2 b.toNat).length = (n + 1).toNat := by rw [length_hisOn]; exact ldp
      have ltk : (List.take a.toNat l).length = a.toNat := by rw [List.length_take]; omega
      refine esr rfl fun _ K27 => ?_
      refine ent_o rfl (ok_lss rfl rfl) ?_
      refine enk K27 ?_
      refine ent_seq fun _ K28 => ?_
      refine ent_condD rfl (fun h71 => ?_) (fun h71 => ?_)
      ·refine esp K28 ?_
       refine ent_seq fun _ K29 => ?_
       refine ent_block ?_
       refine esr rfl fun _ K30 => ?_
       refine ent_o rfl (ok_index [] sl25 rfl rfl (by first | omega | (simp; omega)) (by first | omega | (simp; omega))) ?_
       refine ent_o rfl (ok_load ti22 rfl) ?_
       refine emm rfl ?_
       refine enk K30 ?_
       refine ent_region ?_
       have htk := take_ix (l := l) b0 (show b < a by omega)
       have hdr := dg_rng hll (show 0 ≤ n by omega) (a := a) (b := b) a0 (by omega)
       have hdd : dg l a b = dst (ix [] l a) (ix [] l b) := rfl
       have hbb := hisOn_bd (L := disP l n a.toNat) (g := dg l a) (s := 2) (b := l.length + 2 * (a.toNat * l.length)) (k := b.toNat) (fun i _ _ => by have := dg_rng hll (show 0 ≤ n by omega) (a := a) (b := i) a0 (by omega); rw [length_disP]; omega) (by decide) (fun j j0 => disP_bd hll (by omega) j0 (by omega)) (j := dst (ix [] l a) (ix [] l b)) hdr.1
       have hmm : (a.toNat : Int) * l.length ≤ 256 * 256 := Int.mul_le_mul (by omega) (by omega) (by omega) (by decide)
       rw [← htk] at hbb hdd
       rw [hdd] at hdr
       refine emm rfl ?_
       refine ent_o rfl (ok_call (distance_ok (ix [] l a) (ix [] (List.take (a).toNat l) b) (by have h1 := hll a a0 (by omega); have h2 := hll b b0 (by omega); rw [htk]; omega)) rfl) ?_
       refine ent_o rfl (ok_indexV sl22 rfl rfl (by first | omega | (simp; omega)) (by first | omega | (simp; omega))) ?_
       refine ent_o rfl (ok_loadV (k := 0) 0 ti3 rfl rfl (by first | omega | (simp; omega)) (by first | omega | (simp; omega))) ?_
       refine ent_o rfl (ok_add rfl rfl (by first | omega | (simp; omega)) (by first | omega | (simp; omega))) ?_
       refine ent_o rfl (ok_indexV sl22 rfl rfl (by first | omega | (simp; omega)) (by first | omega | (simp; omega))) ?_
       refine ent_storeV (k := 0) (z := (ix 0 (hisOn (disP l n a.toNat) (dg l a) 2 b.toNat) (dst (ix [] l a) (ix [] (List.take (a).toNat l) b))) + 2) ti3 rfl rfl rfl (elem_one (one_int _)) (by first | omega | (simp; omega)) (by first | omega | (simp; omega)) ?_
       refine enk K29 ?_
       refine ent_region ?_
       refine ent_o rfl (ok_add rfl rfl (by first | omega | (simp; omega)) (by first | omega | (simp; omega))) ?_
       refine emm rfl ?_
       refine ent_nil ?_
       refine ent_again (s := (b)) (b + 1) ⟨(by first | rfl | assumption | omega | (simp_all; done) | grind), (by omega)⟩ (by first | omega | (dsimp only; omega)) (ent_rep ⟨rfl, rfl, rfl, rfl, rfl, rfl, rfl, rfl, rfl, trivial⟩ (own_cons (own_vec (show hisOn (disP l n a.toNat) (dg l a) 2 (b + 1).toNat = List.set (hisOn (disP l n a.toNat) (dg l a) 2 b.toNat) (dst (ix [] l a) (ix [] (List.take (a).toNat l) b)).toNat ((ix 0 (hisOn (disP l n a.toNat) (dg l a) 2 b.toNat) (dst (ix [] l a) (ix [] (List.take (a).toNat l) b))) + 2) by rw [hisOn_step b0, htk]; rfl)) (rfl)))
      ·refine ent_exit ?_
       refine ent_k K24 ?_
       refine ent_region ?_
       refine ent_o rfl (ok_add rfl rfl (by first | omega | (simp; omega)) (by first | omega | (simp; omega))) ?_
       refine emm rfl ?_
       refine ent_nil ?_
       refine ent_again (s := (a)) (a + 1) ⟨(by first | rfl | assumption | omega | (simp_all; done) | grind), (by first | rfl | assumption | omega | (simp_all; done) | grind)⟩ (by first | omega | (dsimp only; omega)) (ent_rep ⟨rfl, rfl, rfl, rfl, rfl, trivial⟩ (own_cons (own_vec (show disP l n (a + 1).toNat = hisOn (disP l n a.toNat) (dg l a) 2 b.toNat by rw [show b = a by omega, show (a + 1).toNat = a.toNat + 1 by omega, disP, show ((a.toNat : Nat) : Int) = a by omega])) (rfl)))
     ·refine ent_exit ?_
      refine ent_k K20 ?_
      refine esk rfl ?_
      refine ent_ret ?_
      exact retR2 (.inr rfl) Try.results32 (resr_tmp (res_cv rfl (cv_vec (k := 0) (off_x rfl) (by first | rfl | assumption | (simp; done) | (simp_all; done) | omega) (by first | (rw [hL]; done) | (rw [diL_no (by unfold diE; rw [if_neg hF]; decide)]; done) | (rw [hL, show a.toNat = l.length by omega]; exact dis_eq hll (by omega)))))) (resr_tmp (res_cv rfl (cv_int (by first | exact he.symm | (unfold diE; rw [if_neg hF]; done)))))
 ·refine ent_o rfl (ok_call (New_no f hF) rfl) ?_
  refine emm rfl ?_
  refine ent_o rfl (ok_extract rfl rfl) ?_
  refine ent_o rfl (ok_extract rfl rfl) ?_
  refine emm rfl ?_
  refine enk K2 ?_
  refine ent_seq fun _ K32 => ?_
  refine ent_block ?_
  refine esr rfl fun _ K33 => ?_
  refine ent_o rfl (ok_neq rfl rfl) ?_
  refine emm rfl ?_
  refine enk K33 ?_
  refine ent_condTP rfl (by decide) ?_
  refine esk rfl ?_
  refine ent_ret ?_
  exact retR2 (.inr rfl) Try.results32 (resr_tmp (res_cv rfl (cv_nil (fun _ => rfl) (by first | (rw [hL]; done) | (rw [diL_no (by unfold diE; rw [if_neg hF]; decide)]; done) | (rw [hL, show a.toNat = l.length by omega]; exact dis_eq hll (by omega)))))) (resr_tmp (res_cv rfl (cv_int (by first | exact he.symm | (unfold diE; rw [if_neg hF]; done)))))

end Go.Proofs.Ytbofipdmoocflaa

