/-
  Least weights of the reference; paths.
-/
import Derived.Test.YtfjhbdfgbpcchaaProg
import Derived.Test.YtfjhbdfgbpcchaaTab
import Derived.Test.YtfjhbdfgbpcchaaCy
import Derived.Test.YtfjhbdfgbpcchaaPlainFr
import Derived.Test.YtfjhbdfgbpcchaaFieldA
import Derived.Test.YtfjhbdfgbpcchaaFieldB
import Derived.Test.YtfjhbdfgbpcchaaFieldC
import Derived.Test.YtfjhbdfgbpcchaaFieldE
import Derived.Test.YtfjhbdfgbpcchaaPoly
import Derived.Test.YtfjhbdfgbpcchaaBuild
import Derived.Test.YtfjhbdfgbpcchaaRefC
import Derived.Test.YtfjhbdfgbpcchaaStep
import Derived.Test.YtfjhbdfgbpcchaaRefN
import Derived.Test.YtfjhbdfgbpcchaaEncode
import Derived.Test.YtfjhbdfgbpcchaaTerm
import Derived.Test.YtfjhbdfgbpcchaaAdd
import Derived.Test.YtfjhbdfgbpcchaaDigits
import Derived.Test.YtfjhbdfgbpcchaaEdges
import Derived.Test.YtfjhbdfgbpcchaaReach
import Derived.Test.YtfjhbdfgbpcchaaAccept
open Go Go.Cw
namespace Go.Proofs.Ytfjhbdfgbpcchaa
set_option maxRecDepth 100000
set_option linter.unusedVariables false
set_option linter.unusedSimpArgs false
set_option maxHeartbeats 1000000 in
theorem rLeast_ok (c : Cnv) (hFew : c.Few) (hOk : c.Ok) : Ctr Try.prog 73 [aCnv c] (aSl 1 false aInt c.leastL) := by
  have hF := hOk.fld
  have hS := hF.1
  have hq := hS.bd
  have hq2 := hq.2.2.2.2.2.1
  have hik : c.k = (c.Gen.length : Int) := rfl
  have hen : c.n = ((ix [] c.Gen 0).length : Int) := rfl
  have hkn := hOk.kn
  have hnl := hOk.len
  have hi1 := Cnv.ins_pos (c := c) hq2
  have hsi := Cnv.states_ins hq2 hOk.small
  have hil := Cnv.ins_le hq2 hOk.small
  have hst := Cnv.states_le hq2 hOk.small
  have hf1 := hFew.1
  refine ctr_of Try.call73 Try.func73 rfl rfl ?_
  intro w O
  refine ent_lenC 0 2 rfl rfl (fun hlen0_2 => ?_)
  refine ent_lenC 0 3 rfl rfl (fun hlen0_3 => ?_)
  refine ent_seq fun K1 hK1 => ?_
  refine ent_region ?_
  refine ent_boxS rfl rfl (AllOne.mem ⟨(one_int _), (one_int _), one_sl, one_sl, trivial⟩) (fun b1_1 => ?_)
  refine ent_o rfl (ok_assign rfl) ?_
  refine ent_nil ?_
  refine ent_k hK1 ?_
  refine ent_seq fun K2 hK2 => ?_
  refine ent_region ?_
  refine ent_o rfl (ok_loadBS (k := 0) ti27 rfl rfl rfl) ?_
  refine ent_o rfl (ok_call (rStates_ok c (by first | rfl | assumption | omega | (simp_all; done) | grind) (by first | rfl | assumption | omega | (simp_all; done) | grind)) rfl) ?_
  refine ent_make aInt 0 rfl vt22 rfl rfl (by omega) (by omega) (by omega) (fun _ _ => rfl) (AllV.mem ⟨rfl, trivial⟩) (fun b12_2 => ?_)
  refine ent_o rfl (ok_assign rfl) ?_
  refine ent_nil ?_
  refine ent_k hK2 ?_
  refine ent_seq fun K3 hK3 => ?_
  refine ent_seq fun K4 hK4 => ?_
  refine ent_region ?_
  refine ent_o rfl (ok_assign rfl) ?_
  refine ent_nil ?_
  refine ent_k hK4 ?_
  refine ent_block ?_
  refine ent_loop (fun (s : Int) => (⟨[(1, aEx (.pointer (some ⟨b1_1, 0, none⟩))), (3, aEx (vec (some b12_2) ((c.states).toNat) ((c.states).toNat))), (4, aInt s)], [oVec (some b12_2) ((c.states).toNat) 3 1 false aInt (fillR (fun ss => if ss = 0 then (0 : Int) else 1073741824) 0 c.states s), oBox b1_1 27 [aInt c.F.P, aInt c.F.M, aSl 1 false aInt c.F.mod, aSl 1 false aRows c.Gen]]⟩ : St)) (fun (s : Int) => (1 ≤ s) ∧ (s ≤ c.states)) (fun (s : Int) => (c.states - s).toNat) 1 ⟨(by first | rfl | assumption | omega | (simp_all; done) | grind), (by first | rfl | assumption | omega | (simp_all; done) | grind)⟩ (ent_rep ⟨rfl, rfl, slot_av (av_int (show 1 = (1 : Int) by first | rfl | assumption | omega | (simp_all; done) | grind)), trivial⟩ (own_cons (own_vec (show fillR (fun ss => if ss = 0 then (0 : Int) else 1073741824) 0 c.states (1 : Int) = List.replicate ((c.states).toNat) 0 by exact fill_first rfl (by omega))) (rfl))) ?_
  rintro s ⟨s0, s1⟩
  show Ent _ (⟨[(1, aEx (.pointer (some ⟨b1_1, 0, none⟩))), (3, aEx (vec (some b12_2) ((c.states).toNat) ((c.states).toNat))), (4, aInt s)], [oVec (some b12_2) ((c.states).toNat) 3 1 false aInt (fillR (fun ss => if ss = 0 then (0 : Int) else 1073741824) 0 c.states s), oBox b1_1 27 [aInt c.F.P, aInt c.F.M, aSl 1 false aInt c.F.mod, aSl 1 false aRows c.Gen]]⟩ : St) _
  have lf : (fillR (fun ss => if ss = 0 then (0 : Int) else 1073741824) 0 c.states s).length = c.states.toNat := length_fillR _ _ (by omega) s1
  refine ent_seq fun K5 hK5 => ?_
  refine ent_seq fun K6 hK6 => ?_
  refine ent_region ?_
  refine ent_o rfl (ok_move rfl) ?_
  refine ent_o rfl (ok_move rfl) ?_
  refine ent_o rfl (ok_lenEx rfl Try.runUnderlying22 rfl) ?_
  refine ent_o rfl (ok_lss rfl rfl) ?_
  refine ent_nil ?_
  refine ent_k hK6 ?_
  refine ent_condD rfl (fun h16 => ?_) (fun h16 => ?_)
  · refine ent_skip ?_
    refine ent_k hK5 ?_
    refine ent_seq fun K7 hK7 => ?_
    refine ent_block ?_
    refine ent_region ?_
    refine ent_o rfl (ok_move rfl) ?_
    refine ent_o rfl (ok_move rfl) ?_
    refine ent_o rfl (ok_indexV sl22 rfl rfl (by omega) (by omega)) ?_
    refine ent_storeV (k := 0) (z := 1073741824) ti3 rfl rfl rfl (elem_one (one_int _)) (by omega) (by omega) ?_
    refine ent_nil ?_
    refine ent_k hK7 ?_
    refine ent_region ?_
    refine ent_o rfl (ok_move rfl) ?_
    refine ent_o rfl (ok_add rfl rfl (by omega) (by omega)) ?_
    refine ent_o rfl (ok_assign rfl) ?_
    refine ent_nil ?_
    refine ent_again (s := (s)) (s + 1) ⟨(by first | rfl | assumption | omega | (simp_all; done) | grind), (by first | rfl | assumption | omega | (simp_all; done) | grind)⟩ (by first | omega | (dsimp only; omega)) (ent_rep ⟨rfl, rfl, rfl, trivial⟩ (own_cons (own_vec (show fillR (fun ss => if ss = 0 then (0 : Int) else 1073741824) 0 c.states (s + 1) = List.set (fillR (fun ss => if ss = 0 then (0 : Int) else 1073741824) 0 c.states s) (s).toNat 1073741824 by rw [← fillR_set (fun ss => if ss = 0 then (0 : Int) else 1073741824) 0 (by omega) (by omega), show (if s = 0 then (0 : Int) else 1073741824) = 1073741824 from if_neg (by omega)])) (rfl)))
  · refine ent_exit ?_
    refine ent_k hK3 ?_
    refine ent_seq fun K8 hK8 => ?_
    refine ent_seq fun K9 hK9 => ?_
    refine ent_region ?_
    refine ent_o rfl (ok_assign rfl) ?_
    refine ent_nil ?_
    refine ent_k hK9 ?_
    refine ent_block ?_
    refine ent_loop (fun (ss : List Int × Bool) => match ss with | (l, ch) => (⟨[(1, aEx (.pointer (some ⟨b1_1, 0, none⟩))), (3, aEx (vec (some b12_2) ((c.states).toNat) ((c.states).toNat))), (5, aBool ch)], [oVec (some b12_2) ((c.states).toNat) 3 1 false aInt l, oBox b1_1 27 [aInt c.F.P, aInt c.F.M, aSl 1 false aInt c.F.mod, aSl 1 false aRows c.Gen]]⟩ : St)) (fun (ss : List Int × Bool) => match ss with | (l, ch) => (c.PotOk 1073741824 l) ∧ (ch = true ∨ c.Feas l)) (fun (ss : List Int × Bool) => match ss with | (l, ch) => (sumI l).toNat + Cnv.sumB ch) (Cnv.pot0 1073741824 c.states, true) ⟨(Cnv.PotOk.first (by omega) hq2), (.inl rfl)⟩ (ent_rep ⟨rfl, rfl, rfl, trivial⟩ (own_cons (own_vec (show (Cnv.pot0 1073741824 c.states) = fillR (fun ss => if ss = 0 then (0 : Int) else 1073741824) 0 c.states s by rw [fillR_all _ _ (by omega), show s = c.states by omega]; rfl)) (rfl))) ?_
    rintro ⟨l, ch⟩ ⟨hp, hc⟩
    show Ent _ (⟨[(1, aEx (.pointer (some ⟨b1_1, 0, none⟩))), (3, aEx (vec (some b12_2) ((c.states).toNat) ((c.states).toNat))), (5, aBool ch)], [oVec (some b12_2) ((c.states).toNat) 3 1 false aInt l, oBox b1_1 27 [aInt c.F.P, aInt c.F.M, aSl 1 false aInt c.F.mod, aSl 1 false aRows c.Gen]]⟩ : St) _
    refine ent_seq fun K10 hK10 => ?_
    refine ent_seq fun K11 hK11 => ?_
    refine ent_region ?_
    refine ent_o rfl (ok_move rfl) ?_
    refine ent_nil ?_
    refine ent_k hK11 ?_
    refine ent_cond rfl (fun h22 => ?_) (fun h22 => ?_)
    · refine ent_skip ?_
      refine ent_k hK10 ?_
      refine ent_block ?_
      refine ent_seq fun K12 hK12 => ?_
      refine ent_region ?_
      refine ent_o rfl (ok_assign rfl) ?_
      refine ent_nil ?_
      refine ent_k hK12 ?_
      refine ent_seq fun K13 hK13 => ?_
      refine ent_region ?_
      refine ent_o rfl (ok_assign rfl) ?_
      refine ent_nil ?_
      refine ent_k hK13 ?_
      refine ent_block ?_
      refine ent_loop (fun (ss : Int × List Int × Bool) => match ss with | (s, l1, ch1) => (⟨[(1, aEx (.pointer (some ⟨b1_1, 0, none⟩))), (3, aEx (vec (some b12_2) ((c.states).toNat) ((c.states).toNat))), (5, aBool ch1), (6, aInt s)], [oVec (some b12_2) ((c.states).toNat) 3 1 false aInt l1, oBox b1_1 27 [aInt c.F.P, aInt c.F.M, aSl 1 false aInt c.F.mod, aSl 1 false aRows c.Gen]]⟩ : St)) (fun (ss : Int × List Int × Bool) => match ss with | (s, l1, ch1) => (1 ≤ s) ∧ (s ≤ c.states) ∧ (c.PotOk 1073741824 l1) ∧ (sumI l1 ≤ sumI l) ∧ (ch1 = true → sumI l1 < sumI l) ∧ (ch1 = false → c.Chk l1 s 0)) (fun (ss : Int × List Int × Bool) => match ss with | (s, l1, ch1) => (c.states - s).toNat) (1, l, false) ⟨(by first | rfl | assumption | omega | (simp_all; done) | grind), (by first | rfl | assumption | omega | (simp_all; done) | grind), hp, (Int.le_refl _), (fun h => by cases h), (fun _ => Cnv.Chk.first l)⟩ (ent_rep ⟨rfl, rfl, rfl, slot_av (av_int (show 1 = (1 : Int) by first | rfl | assumption | omega | (simp_all; done) | grind)), trivial⟩ rfl) ?_
      rintro ⟨s, l1, ch1⟩ ⟨s0, s1, hp1, hs1, hg1, hk1⟩
      show Ent _ (⟨[(1, aEx (.pointer (some ⟨b1_1, 0, none⟩))), (3, aEx (vec (some b12_2) ((c.states).toNat) ((c.states).toNat))), (5, aBool ch1), (6, aInt s)], [oVec (some b12_2) ((c.states).toNat) 3 1 false aInt l1, oBox b1_1 27 [aInt c.F.P, aInt c.F.M, aSl 1 false aInt c.F.mod, aSl 1 false aRows c.Gen]]⟩ : St) _
      have hll1 := hp1.len
      refine ent_seq fun K14 hK14 => ?_
      refine ent_seq fun K15 hK15 => ?_
      refine ent_region ?_
      refine ent_o rfl (ok_move rfl) ?_
      refine ent_o rfl (ok_move rfl) ?_
      refine ent_o rfl (ok_lenEx rfl Try.runUnderlying22 rfl) ?_
      refine ent_o rfl (ok_lss rfl rfl) ?_
      refine ent_nil ?_
      refine ent_k hK15 ?_
      refine ent_condD rfl (fun h26 => ?_) (fun h26 => ?_)
      · refine ent_skip ?_
        refine ent_k hK14 ?_
        refine ent_seq fun K16 hK16 => ?_
        refine ent_block ?_
        refine ent_seq fun K17 hK17 => ?_
        refine ent_region ?_
        refine ent_o rfl (ok_assign rfl) ?_
        refine ent_nil ?_
        refine ent_k hK17 ?_
        refine ent_block ?_
        refine ent_loop (fun (ss : Int × List Int × Bool) => match ss with | (x, l2, ch2) => (⟨[(1, aEx (.pointer (some ⟨b1_1, 0, none⟩))), (3, aEx (vec (some b12_2) ((c.states).toNat) ((c.states).toNat))), (5, aBool ch2), (6, aInt s), (7, aInt x)], [oVec (some b12_2) ((c.states).toNat) 3 1 false aInt l2, oBox b1_1 27 [aInt c.F.P, aInt c.F.M, aSl 1 false aInt c.F.mod, aSl 1 false aRows c.Gen]]⟩ : St)) (fun (ss : Int × List Int × Bool) => match ss with | (x, l2, ch2) => (0 ≤ x) ∧ (x ≤ c.ins) ∧ (c.PotOk 1073741824 l2) ∧ (sumI l2 ≤ sumI l) ∧ (ch2 = true → sumI l2 < sumI l) ∧ (ch2 = false → c.Chk l2 s x)) (fun (ss : Int × List Int × Bool) => match ss with | (x, l2, ch2) => (c.ins - x).toNat) (0, l1, ch1) ⟨(by first | rfl | assumption | omega | (simp_all; done) | grind), (by first | rfl | assumption | omega | (simp_all; done) | grind), hp1, hs1, hg1, hk1⟩ (ent_rep ⟨rfl, rfl, rfl, rfl, slot_av (av_int (show 0 = (0 : Int) by first | rfl | assumption | omega | (simp_all; done) | grind)), trivial⟩ rfl) ?_
        rintro ⟨x, l2, ch2⟩ ⟨x0, x1, hp2, hs2, hg2, hk2⟩
        show Ent _ (⟨[(1, aEx (.pointer (some ⟨b1_1, 0, none⟩))), (3, aEx (vec (some b12_2) ((c.states).toNat) ((c.states).toNat))), (5, aBool ch2), (6, aInt s), (7, aInt x)], [oVec (some b12_2) ((c.states).toNat) 3 1 false aInt l2, oBox b1_1 27 [aInt c.F.P, aInt c.F.M, aSl 1 false aInt c.F.mod, aSl 1 false aRows c.Gen]]⟩ : St) _
        have hll2 := hp2.len
        refine ent_seq fun K18 hK18 => ?_
        refine ent_seq fun K19 hK19 => ?_
        refine ent_region ?_
        refine ent_o rfl (ok_move rfl) ?_
        refine ent_o rfl (ok_loadBS (k := 1) ti27 rfl rfl rfl) ?_
        refine ent_o rfl (ok_call (rInputs_ok c (by first | rfl | assumption | omega | (simp_all; done) | grind) (by first | rfl | assumption | omega | (simp_all; done) | grind)) rfl) ?_
        refine ent_o rfl (ok_lss rfl rfl) ?_
        refine ent_nil ?_
        refine ent_k hK19 ?_
        refine ent_condD rfl (fun h32 => ?_) (fun h32 => ?_)
        · have hgx := Cnv.inp_good (c := c) hq2 x
          have hnb := Cnv.nN_lt (c := c) hq2 s x
          have hwb := Cnv.wW_le (c := c) s x
          have hlo := Cnv.length_outL (c := c) s (c.inp x)
          have hw1 : wtL [c.outL s (c.inp x)] = c.wW s x := wtL_single _
          have hl2 := hp2.len
          have hpo := hp2.lo (c.nxt s (c.inp x) c.Gen.length)
          have hph := hp2.hi (c.nxt s (c.inp x) c.Gen.length)
          have hps := hp2.lo s
          have hph2 := hp2.hi s
          change 0 ≤ c.nxt s (c.inp x) c.Gen.length ∧ c.nxt s (c.inp x) c.Gen.length < c.states at hnb
          refine ent_skip ?_
          refine ent_k hK18 ?_
          refine ent_seq fun K20 hK20 => ?_
          refine ent_block ?_
          refine ent_seq fun K21 hK21 => ?_
          refine ent_draw 11 mixed (by kernel_rfl) (by kernel_rfl) (by kernel_rfl) ?_
          refine dw_o rfl (ok_loadBS (k := 1) ti27 rfl rfl rfl) ?_
          refine dw_o rfl (ok_move rfl) ?_
          refine dw_o rfl (ok_loadBS (k := 1) ti27 rfl rfl rfl) ?_
          refine dw_o rfl (ok_move rfl) ?_
          refine dw_o rfl (ok_call (CtrF.ctr (rInput_ok c x (by first | rfl | assumption | omega | (simp_all; done) | grind) (by first | rfl | assumption | omega | (simp_all; done) | grind) (by first | rfl | assumption | omega | (simp_all; done) | grind) (by omega))) rfl) ?_
          refine dw_o rfl (ok_call (CtrF.ctr (rNext_ok c s (c.inp x) (by first | rfl | assumption | omega | (simp_all; done) | grind) (by first | rfl | assumption | omega | (simp_all; done) | grind) (by omega) (by omega) hgx)) rfl) ?_
          refine dw_o rfl (ok_move rfl) ?_
          refine dw_o rfl (ok_extract rfl rfl) ?_
          refine dw_o rfl (ok_extract rfl rfl) ?_
          refine dw_o rfl (ok_assign rfl) ?_
          refine dw_o rfl (ok_assign rfl) ?_
          refine dw_nil ?_
          refine ent_nil ?_
          refine ent_k hK21 ?_
          refine ent_seq fun K22 hK22 => ?_
          refine ent_draw 13 mixed (by kernel_rfl) (by kernel_rfl) (by kernel_rfl) ?_
          refine dw_o rfl (ok_move rfl) ?_
          refine dw_o rfl (ok_build1 (enc := aInts) (y := c.outL s (c.inp x)) vt42 rfl (elem_one one_sl) (by decide)) ?_
          refine dw_o rfl (ok_call (rWeight_ok [c.outL s (c.inp x)] (by simp) (by intro r hr; rw [List.mem_singleton] at hr; rw [hr]; omega)) rfl) ?_
          refine dw_o rfl (ok_move rfl) ?_
          refine dw_o rfl (ok_move rfl) ?_
          refine dw_o rfl (ok_indexV sl22 rfl rfl (by omega) (by omega)) ?_
          refine dw_o rfl (ok_loadV (k := 0) 0 ti3 rfl rfl (by omega) (by omega)) ?_
          refine dw_o rfl (ok_add rfl rfl (by omega) (by omega)) ?_
          refine dw_o rfl (ok_move rfl) ?_
          refine dw_o rfl (ok_move rfl) ?_
          refine dw_o rfl (ok_indexV sl22 rfl rfl (by omega) (by omega)) ?_
          refine dw_o rfl (ok_loadV (k := 0) 0 ti3 rfl rfl (by omega) (by omega)) ?_
          refine dw_o rfl (ok_lss rfl rfl) ?_
          refine dw_nil ?_
          refine ent_nil ?_
          refine ent_k hK22 ?_
          refine ent_condD rfl (fun h56 => ?_) (fun h56 => ?_)
          · have hsm := sumI_set l2 s.toNat (wtL [c.outL s (c.inp x)] + ix 0 l2 (c.nxt s (c.inp x) c.Gen.length)) (by omega)
            change sumI _ = sumI l2 - ix 0 l2 s + _ at hsm
            have hrl := hp2.relax (s := s) (x := x) hq2 (by omega) (by omega) x0 h32 (by rw [← hw1]; exact h56)
            rw [← hw1] at hrl
            refine ent_seq fun K23 hK23 => ?_
            refine ent_draw 11 mixed (by kernel_rfl) (by kernel_rfl) (by kernel_rfl) ?_
            refine dw_o rfl (ok_move rfl) ?_
            refine dw_o rfl (ok_move rfl) ?_
            refine dw_o rfl (ok_move rfl) ?_
            refine dw_o rfl (ok_build1 (enc := aInts) (y := c.outL s (c.inp x)) vt42 rfl (elem_one one_sl) (by decide)) ?_
            refine dw_o rfl (ok_call (rWeight_ok [c.outL s (c.inp x)] (by simp) (by intro r hr; rw [List.mem_singleton] at hr; rw [hr]; omega)) rfl) ?_
            refine dw_o rfl (ok_move rfl) ?_
            refine dw_o rfl (ok_move rfl) ?_
            refine dw_o rfl (ok_indexV sl22 rfl rfl (by omega) (by omega)) ?_
            refine dw_o rfl (ok_loadV (k := 0) 0 ti3 rfl rfl (by omega) (by omega)) ?_
            refine dw_o rfl (ok_add rfl rfl (by omega) (by omega)) ?_
            refine dw_o rfl (ok_indexV sl22 rfl rfl (by omega) (by omega)) ?_
            refine dw_nil ?_
            refine ent_storeV (k := 0) (z := (wtL [c.outL s (c.inp x)]) + (ix 0 l2 (c.nxt s (c.inp x) c.Gen.length))) ti3 rfl rfl rfl (elem_one (one_int _)) (by omega) (by omega) ?_
            refine ent_nil ?_
            refine ent_k hK23 ?_
            refine ent_region ?_
            refine ent_o rfl (ok_assign rfl) ?_
            refine ent_nil ?_
            refine ent_k hK20 ?_
            refine ent_region ?_
            refine ent_o rfl (ok_move rfl) ?_
            refine ent_o rfl (ok_add rfl rfl (by omega) (by omega)) ?_
            refine ent_o rfl (ok_assign rfl) ?_
            refine ent_nil ?_
            refine ent_again (s := (x, l2, ch2)) (x + 1, List.set l2 (s).toNat ((wtL [c.outL s (c.inp x)]) + (ix 0 l2 (c.nxt s (c.inp x) c.Gen.length))), true) ⟨(by first | rfl | assumption | omega | (simp_all; done) | grind), (by first | rfl | assumption | omega | (simp_all; done) | grind), (by first | exact hrl | exact hp2), (by first | omega | exact hs2), (by first | exact (fun _ => by omega) | exact hg2), (by intro h; first | exact absurd h (by decide) | exact (hk2 h).succ (by rw [← hw1]; exact h56))⟩ (by first | omega | (dsimp only; omega)) (ent_rep ⟨rfl, rfl, rfl, rfl, rfl, trivial⟩ rfl)
          · refine ent_skip ?_
            refine ent_k hK20 ?_
            refine ent_region ?_
            refine ent_o rfl (ok_move rfl) ?_
            refine ent_o rfl (ok_add rfl rfl (by omega) (by omega)) ?_
            refine ent_o rfl (ok_assign rfl) ?_
            refine ent_nil ?_
            refine ent_again (s := (x, l2, ch2)) (x + 1, l2, ch2) ⟨(by first | rfl | assumption | omega | (simp_all; done) | grind), (by first | rfl | assumption | omega | (simp_all; done) | grind), (by first | exact hrl | exact hp2), (by first | omega | exact hs2), (by first | exact (fun _ => by omega) | exact hg2), (by intro h; first | exact absurd h (by decide) | exact (hk2 h).succ (by rw [← hw1]; exact h56))⟩ (by first | omega | (dsimp only; omega)) (ent_rep ⟨rfl, rfl, rfl, rfl, rfl, trivial⟩ rfl)
        · refine ent_exit ?_
          refine ent_k hK16 ?_
          refine ent_region ?_
          refine ent_o rfl (ok_move rfl) ?_
          refine ent_o rfl (ok_add rfl rfl (by omega) (by omega)) ?_
          refine ent_o rfl (ok_assign rfl) ?_
          refine ent_nil ?_
          refine ent_again (s := (s, l1, ch1)) (s + 1, l2, ch2) ⟨(by first | rfl | assumption | omega | (simp_all; done) | grind), (by first | rfl | assumption | omega | (simp_all; done) | grind), hp2, hs2, hg2, (fun h => (hk2 h).next (by omega))⟩ (by first | omega | (dsimp only; omega)) (ent_rep ⟨rfl, rfl, rfl, rfl, trivial⟩ rfl)
      · refine ent_exit ?_
        refine ent_again (s := (l, ch)) (l1, ch1) ⟨hp1, (by cases ch1; exact .inr ((hk1 rfl).all (by omega) hp1.z); exact .inl rfl)⟩ (by have hA := sumI_nonneg l (fun y hy => by obtain ⟨j, _, hj2, rfl⟩ := mem_take_getD 0 l l.length y (by simpa using hy); exact hp.lo j); have hB := sumI_nonneg l1 (fun y hy => by obtain ⟨j, _, hj2, rfl⟩ := mem_take_getD 0 l1 l1.length y (by simpa using hy); exact hp1.lo j); cases ch1 <;> simp [Cnv.sumB, h22] <;> first | omega | (have := hg1 rfl; omega)) (ent_rep ⟨rfl, rfl, rfl, trivial⟩ rfl)
    · have hll0 := hp.len
      have hfe : c.Feas l := by rcases hc with g | g; rw [h22] at g; cases g; exact g
      refine ent_exit ?_
      refine ent_k hK8 ?_
      refine ent_seq fun K24 hK24 => ?_
      refine ent_region ?_
      refine ent_o rfl (ok_move rfl) ?_
      refine ent_o rfl (ok_assign rfl) ?_
      refine ent_nil ?_
      refine ent_k hK24 ?_
      refine ent_ret ?_
      exact retR1 (.inr rfl) Try.results73 (resr_tmp (res_cv rfl (cv_vec (k := 0) (off_x rfl) (by first | rfl | (simp; done) | (simp_all; done) | omega) (by exact Cnv.least_eq (H := 1073741824) hOk hFew ⟨l, hp, hfe⟩ (by omega) hp hfe))))

theorem rFree_ok (c : Cnv) (hFew : c.Few) (hOk : c.Ok) (hex : c.PotOk 1073741824 c.leastL) : Ctr Try.prog 37 [aCnv c] (aInt (c.fdist c.leastL 1073741824)) := by
  have hF := hOk.fld
  have hS := hF.1
  have hq := hS.bd
  have hq2 := hq.2.2.2.2.2.1
  have hik : c.k = (c.Gen.length : Int) := rfl
  have hen : c.n = ((ix [] c.Gen 0).length : Int) := rfl
  have hkn := hOk.kn
  have hnl := hOk.len
  have hi1 := Cnv.ins_pos (c := c) hq2
  have hsi := Cnv.states_ins hq2 hOk.small
  have hil := Cnv.ins_le hq2 hOk.small
  have hst := Cnv.states_le hq2 hOk.small
  have hf1 := hFew.1
  have hll := hex.len
  have hi2 := Cnv.ins_two hOk
  refine ctr_of Try.call37 Try.func37 rfl rfl ?_
  intro w O
  refine ent_lenC 0 2 rfl rfl (fun hlen0_2 => ?_)
  refine ent_lenC 0 3 rfl rfl (fun hlen0_3 => ?_)
  refine ent_seq fun K1 hK1 => ?_
  refine ent_region ?_
  refine ent_boxS rfl rfl (AllOne.mem ⟨(one_int _), (one_int _), one_sl, one_sl, trivial⟩) (fun b1_1 => ?_)
  refine ent_o rfl (ok_assign rfl) ?_
  refine ent_nil ?_
  refine ent_k hK1 ?_
  refine ent_seq fun K2 hK2 => ?_
  refine ent_region ?_
  refine ent_o rfl (ok_loadBS (k := 0) ti27 rfl rfl rfl) ?_
  refine ent_o rfl (ok_call (rLeast_ok c (by first | rfl | assumption | omega | (simp_all; done) | grind) (by first | rfl | assumption | omega | (simp_all; done) | grind)) rfl) ?_
  refine ent_o rfl (ok_assign rfl) ?_
  refine ent_nil ?_
  refine ent_k hK2 ?_
  refine ent_seq fun K3 hK3 => ?_
  refine ent_region ?_
  refine ent_o rfl (ok_assign rfl) ?_
  refine ent_nil ?_
  refine ent_k hK3 ?_
  refine ent_seq fun K4 hK4 => ?_
  refine ent_seq fun K5 hK5 => ?_
  refine ent_region ?_
  refine ent_o rfl (ok_assign rfl) ?_
  refine ent_nil ?_
  refine ent_k hK5 ?_
  refine ent_block ?_
  refine ent_loop (fun (x : Int) => (⟨[(1, aEx (.pointer (some ⟨b1_1, 0, none⟩))), (3, aSl 1 false aInt c.leastL), (4, aInt (c.fdTo c.leastL 1073741824 (x - 1).toNat)), (5, aInt x)], [oBox b1_1 27 [aInt c.F.P, aInt c.F.M, aSl 1 false aInt c.F.mod, aSl 1 false aRows c.Gen]]⟩ : St)) (fun (x : Int) => (1 ≤ x) ∧ (x ≤ c.ins)) (fun (x : Int) => (c.ins - x).toNat) 1 ⟨(by first | rfl | assumption | omega | (simp_all; done) | grind), (by first | rfl | assumption | omega | (simp_all; done) | grind)⟩ (ent_rep ⟨rfl, rfl, slot_av (av_int (show 1073741824 = c.fdTo c.leastL 1073741824 ((1 : Int) - 1).toNat by rfl)), slot_av (av_int (show 1 = (1 : Int) by first | rfl | assumption | omega | (simp_all; done) | grind)), trivial⟩ rfl) ?_
  rintro x ⟨x0, x1⟩
  show Ent _ (⟨[(1, aEx (.pointer (some ⟨b1_1, 0, none⟩))), (3, aSl 1 false aInt c.leastL), (4, aInt (c.fdTo c.leastL 1073741824 (x - 1).toNat)), (5, aInt x)], [oBox b1_1 27 [aInt c.F.P, aInt c.F.M, aSl 1 false aInt c.F.mod, aSl 1 false aRows c.Gen]]⟩ : St) _
  refine ent_seq fun K6 hK6 => ?_
  refine ent_seq fun K7 hK7 => ?_
  refine ent_region ?_
  refine ent_o rfl (ok_move rfl) ?_
  refine ent_o rfl (ok_loadBS (k := 0) ti27 rfl rfl rfl) ?_
  refine ent_o rfl (ok_call (rInputs_ok c (by first | rfl | assumption | omega | (simp_all; done) | grind) (by first | rfl | assumption | omega | (simp_all; done) | grind)) rfl) ?_
  refine ent_o rfl (ok_lss rfl rfl) ?_
  refine ent_nil ?_
  refine ent_k hK7 ?_
  refine ent_condD rfl (fun h13 => ?_) (fun h13 => ?_)
  · have hgx := Cnv.inp_good (c := c) hq2 x
    have hnb := Cnv.nN_lt (c := c) hq2 0 x
    have hwb := Cnv.wW_le (c := c) 0 x
    have hlo := Cnv.length_outL (c := c) 0 (c.inp x)
    have hw1 : wtL [c.outL 0 (c.inp x)] = c.wW 0 x := wtL_single _
    have hpo := hex.lo (c.nxt 0 (c.inp x) c.Gen.length)
    have hph := hex.hi (c.nxt 0 (c.inp x) c.Gen.length)
    change 0 ≤ c.nxt 0 (c.inp x) c.Gen.length ∧ c.nxt 0 (c.inp x) c.Gen.length < c.states at hnb
    refine ent_skip ?_
    refine ent_k hK6 ?_
    refine ent_seq fun K8 hK8 => ?_
    refine ent_block ?_
    refine ent_seq fun K9 hK9 => ?_
    refine ent_draw 10 mixed (by kernel_rfl) (by kernel_rfl) (by kernel_rfl) ?_
    refine dw_o rfl (ok_loadBS (k := 0) ti27 rfl rfl rfl) ?_
    refine dw_o rfl (ok_loadBS (k := 0) ti27 rfl rfl rfl) ?_
    refine dw_o rfl (ok_move rfl) ?_
    refine dw_o rfl (ok_call (CtrF.ctr (rInput_ok c x (by first | rfl | assumption | omega | (simp_all; done) | grind) (by first | rfl | assumption | omega | (simp_all; done) | grind) (by first | rfl | assumption | omega | (simp_all; done) | grind) (by omega))) rfl) ?_
    refine dw_o rfl (ok_call (CtrF.ctr (rNext_ok c 0 (c.inp x) (by first | rfl | assumption | omega | (simp_all; done) | grind) (by first | rfl | assumption | omega | (simp_all; done) | grind) (Int.le_refl 0) (by omega) hgx)) rfl) ?_
    refine dw_o rfl (ok_move rfl) ?_
    refine dw_o rfl (ok_extract rfl rfl) ?_
    refine dw_o rfl (ok_extract rfl rfl) ?_
    refine dw_o rfl (ok_assign rfl) ?_
    refine dw_o rfl (ok_assign rfl) ?_
    refine dw_nil ?_
    refine ent_nil ?_
    refine ent_k hK9 ?_
    refine ent_draw 11 mixed (by kernel_rfl) (by kernel_rfl) (by kernel_rfl) ?_
    refine dw_o rfl (ok_move rfl) ?_
    refine dw_o rfl (ok_move rfl) ?_
    refine dw_o rfl (ok_build1 (enc := aInts) (y := c.outL 0 (c.inp x)) vt42 rfl (elem_one one_sl) (by decide)) ?_
    refine dw_o rfl (ok_call (rWeight_ok [c.outL 0 (c.inp x)] (by simp) (by intro r hr; rw [List.mem_singleton] at hr; rw [hr]; omega)) rfl) ?_
    refine dw_o rfl (ok_move rfl) ?_
    refine dw_o rfl (ok_move rfl) ?_
    refine dw_o rfl (ok_index 0 sl22 rfl rfl (by omega) (by omega)) ?_
    refine dw_o rfl (ok_load ti3 rfl) ?_
    refine dw_o rfl (ok_add rfl rfl (by omega) (by omega)) ?_
    refine dw_o rfl (ok_min rfl rfl) ?_
    refine dw_o rfl (ok_assign rfl) ?_
    refine dw_nil ?_
    refine ent_nil ?_
    refine ent_k hK8 ?_
    refine ent_region ?_
    refine ent_o rfl (ok_move rfl) ?_
    refine ent_o rfl (ok_add rfl rfl (by omega) (by omega)) ?_
    refine ent_o rfl (ok_assign rfl) ?_
    refine ent_nil ?_
    refine ent_again (s := (x)) (x + 1) ⟨(by first | rfl | assumption | omega | (simp_all; done) | grind), (by first | rfl | assumption | omega | (simp_all; done) | grind)⟩ (by first | omega | (dsimp only; omega)) (ent_rep ⟨rfl, rfl, slot_av (av_int (show min (c.fdTo c.leastL 1073741824 (x - 1).toNat) ((wtL [c.outL 0 (c.inp x)]) + (ix 0 c.leastL (c.nxt 0 (c.inp x) c.Gen.length))) = c.fdTo c.leastL 1073741824 ((x + 1) - 1).toNat by rw [show x + 1 - 1 = x by omega, Cnv.fdTo_succ _ _ x0, ← hw1]; rfl)), rfl, trivial⟩ rfl)
  · refine ent_exit ?_
    refine ent_k hK4 ?_
    refine ent_seq fun K10 hK10 => ?_
    refine ent_region ?_
    refine ent_o rfl (ok_move rfl) ?_
    refine ent_o rfl (ok_assign rfl) ?_
    refine ent_nil ?_
    refine ent_k hK10 ?_
    refine ent_ret ?_
    exact retR1 (.inr rfl) Try.results37 (resr_tmp (res_cv rfl (cv_int (by rw [show x = c.ins by omega]; rfl))))

theorem path_ok (c : Cnv) (l b : List Int) (D : Int) (n : Nat) (hFew : c.Few) (hOk : c.Ok) (hbl : (b.length : Int) = c.states) (hf : c.Found l b D n) : Ctr Try.prog 71 [aMach c, aAgg [aInt c.ins, aSl 1 false aInt c.eNxs, aSl 1 false aInt c.eWts], aSl 1 false aInt b] (aSl 1 false aInts (c.msgR b n)) := by
  have hF := hOk.fld
  have hS := hF.1
  have hq := hS.bd
  have hq2 := hq.2.2.2.2.2.1
  have hik : c.k = (c.Gen.length : Int) := rfl
  have hen : c.n = ((ix [] c.Gen 0).length : Int) := rfl
  have hkn := hOk.kn
  have hnl := hOk.len
  have hi1 := Cnv.ins_pos (c := c) hq2
  have hsi := Cnv.states_ins hq2 hOk.small
  have hil := Cnv.ins_le hq2 hOk.small
  have hst := Cnv.states_le hq2 hOk.small
  have hf1 := hFew.1
  have hsh := hf.short hq2
  have hps := hf.pos
  have hsn := Int.mul_nonneg (show 0 ≤ c.states by omega) (show 0 ≤ c.ins by omega)
  have hee : (c.eNxs.length : Int) = c.states * c.ins := by unfold Cnv.eNxs; rw [length_mapR]; omega
  refine ctr_of Try.call71 Try.func71 rfl rfl ?_
  intro w O
  refine ent_lenP 0 1 rfl rfl (fun hlen0_1 => ?_)
  refine ent_lenP 0 4 rfl rfl (fun hlen0_4 => ?_)
  refine ent_lenP 0 8 rfl rfl (fun hlen0_8 => ?_)
  refine ent_lenC 1 1 rfl rfl (fun hlen1_1 => ?_)
  refine ent_lenC 1 2 rfl rfl (fun hlen1_2 => ?_)
  refine ent_len 2 rfl (fun hlen2 => ?_)
  refine ent_seq fun K1 hK1 => ?_
  refine ent_region ?_
  refine ent_boxS rfl rfl (AllOne.mem ⟨(one_int _), one_sl, one_sl, trivial⟩) (fun b4_1 => ?_)
  refine ent_o rfl (ok_assign rfl) ?_
  refine ent_nil ?_
  refine ent_k hK1 ?_
  refine ent_seq fun K2 hK2 => ?_
  refine ent_region ?_
  refine ent_o rfl (ok_assign rfl) ?_
  refine ent_nil ?_
  refine ent_k hK2 ?_
  refine ent_seq fun K3 hK3 => ?_
  refine ent_seq fun K4 hK4 => ?_
  refine ent_region ?_
  refine ent_o rfl (ok_assign rfl) ?_
  refine ent_o rfl (ok_assign rfl) ?_
  refine ent_nil ?_
  refine ent_k hK4 ?_
  refine ent_block ?_
  refine ent_open 22 1 false aInts (fun _ => rfl) ?_
  refine ent_loop (fun (ss : Int × Option Nat × Nat) => match ss with | (j, rr3, cc3) => (⟨[(0, aMach c), (2, aSl 1 false aInt b), (4, aEx (.pointer (some ⟨b4_1, 0, none⟩))), (7, aEx (vec rr3 ((c.msgR b j).length) cc3)), (8, aInt (c.pst b j.toNat)), (9, aBool (decide (j = 0)))], [oVec rr3 cc3 22 1 false aInts (c.msgR b j), oBox b4_1 96 [aInt c.ins, aSl 1 false aInt c.eNxs, aSl 1 false aInt c.eWts]]⟩ : St)) (fun (ss : Int × Option Nat × Nat) => match ss with | (j, rr3, cc3) => (0 ≤ j) ∧ (j ≤ n)) (fun (ss : Int × Option Nat × Nat) => match ss with | (j, rr3, cc3) => (n - j).toNat) (0, none, 0) ⟨(by first | rfl | assumption | omega | (simp_all; done) | grind), (by first | rfl | assumption | omega | (simp_all; done) | grind)⟩ (ent_rep ⟨rfl, rfl, rfl, slot_av ((show aEx (vec none ([] : List _).length 0) = aEx (vec none ((c.msgR b (0 : Int)).length) 0) from av_vec (congrArg List.length (show c.msgR b (0 : Int) = [] by first | rfl | simp [Cnv.msgR, mapR_zero]).symm))), slot_av (av_int (show 0 = c.pst b (0 : Int).toNat by rfl)), slot_av (av_bool (show (true : Bool) = decide ((0 : Int) = 0) by rfl)), trivial⟩ (own_cons (own_vec (show c.msgR b (0 : Int) = [] by first | rfl | simp [Cnv.msgR, mapR_zero])) (rfl))) ?_
  rintro ⟨j, rr3, cc3⟩ ⟨j0, j1⟩
  show Ent _ (⟨[(0, aMach c), (2, aSl 1 false aInt b), (4, aEx (.pointer (some ⟨b4_1, 0, none⟩))), (7, aEx (vec rr3 ((c.msgR b j).length) cc3)), (8, aInt (c.pst b j.toNat)), (9, aBool (decide (j = 0)))], [oVec rr3 cc3 22 1 false aInts (c.msgR b j), oBox b4_1 96 [aInt c.ins, aSl 1 false aInt c.eNxs, aSl 1 false aInt c.eWts]]⟩ : St) _
  have hpl := Cnv.pst_lt hq2 b j.toNat
  have hbr := hf.rng (c.pst b j.toNat)
  have lmg : (c.msgR b j).length = j.toNat := length_mapR _ _
  have hsm := Int.mul_le_mul_of_nonneg_right (show c.pst b j.toNat + 1 ≤ c.states by omega) (show 0 ≤ c.ins by omega)
  rw [Int.add_mul, Int.one_mul] at hsm
  have hsm0 := Int.mul_nonneg hpl.1 (show 0 ≤ c.ins by omega)
  have hxn : ix 0 c.eNxs (c.pst b j.toNat * c.ins + ix 0 b (c.pst b j.toNat)) = c.nN (c.pst b j.toNat) (ix 0 b (c.pst b j.toNat)) := by rw [show ix 0 c.eNxs (c.pst b j.toNat * c.ins + ix 0 b (c.pst b j.toNat)) = c.eNx (c.pst b j.toNat * c.ins + ix 0 b (c.pst b j.toNat)) from ix_mapR 0 _ (by omega) (by omega), Cnv.eNx_at hi1 hbr.1 hbr.2]; rfl
  refine ent_seq fun K5 hK5 => ?_
  refine ent_seq fun K6 hK6 => ?_
  refine ent_cut (⟨[(0, aMach c), (2, aSl 1 false aInt b), (4, aEx (.pointer (some ⟨b4_1, 0, none⟩))), (7, aEx (vec rr3 ((c.msgR b j).length) cc3)), (8, aInt (c.pst b j.toNat)), (14, aBool (decide ((j = 0) ∨ ((c.pst b j.toNat) ≠ 0))))], [oVec rr3 cc3 22 1 false aInts (c.msgR b j), oBox b4_1 96 [aInt c.ins, aSl 1 false aInt c.eNxs, aSl 1 false aInt c.eWts]]⟩) ?_ ?_
  · refine ent_region ?_
    refine ent_o rfl (ok_move rfl) ?_
    refine ent_o rfl (ok_move rfl) ?_
    refine ent_guardXDf rfl rfl rfl rfl (fun hg11 => ?_) (fun hg11 => ?_)
    · refine ent_o rfl (ok_move rfl) ?_
      refine ent_guardXT rfl rfl rfl rfl (decide_eq_false hg11) ?_
      refine ent_o rfl (ok_neq rfl rfl) ?_
      refine ent_o rfl (ok_pickF rfl (decide_eq_false hg11) rfl) ?_
      refine ent_nil ?_
      exact ent_rep ⟨rfl, rfl, rfl, rfl, rfl, slot_bool (dq_Q ((or_iff_right hg11).trans Iff.rfl)), trivial⟩ rfl
    · refine ent_guardXF rfl rfl rfl rfl (decide_eq_true hg11) ?_
      refine ent_o rfl (ok_pickT rfl (decide_eq_true hg11) rfl) ?_
      refine ent_nil ?_
      exact ent_rep ⟨rfl, rfl, rfl, rfl, rfl, slot_bool (dq_T rfl (Or.inl hg11)), trivial⟩ rfl
  refine ent_k hK6 ?_
  refine ent_condD rfl (fun h14 => ?_) (fun h14 => ?_)
  · have hjn : j < n := by
      rcases h14 with g | g
      · omega
      · by_cases hj : j = n
        · exact absurd (by rw [hj]; exact hf.fin) g
        · omega
    refine ent_skip ?_
    refine ent_k hK5 ?_
    refine ent_seq fun K7 hK7 => ?_
    refine ent_block ?_
    refine ent_seq fun K8 hK8 => ?_
    refine ent_draw 15 mixed (by kernel_rfl) (by kernel_rfl) (by kernel_rfl) ?_
    refine dw_o rfl (ok_move rfl) ?_
    refine dw_o rfl (ok_move rfl) ?_
    refine dw_o rfl (ok_move rfl) ?_
    refine dw_o rfl (ok_index 0 sl22 rfl rfl (by omega) (by omega)) ?_
    refine dw_o rfl (ok_load ti3 rfl) ?_
    refine dw_o rfl (ok_move rfl) ?_
    refine dw_o rfl (ok_nilCheck rfl) ?_
    refine dw_o rfl (ok_fieldAddr1 Try.runUnderlying84 rfl Try.sizeOf3 rfl rfl) ?_
    refine dw_o rfl (ok_load ti3 rfl) ?_
    refine dw_o rfl (ok_move rfl) ?_
    refine dw_o rfl (ok_nilCheck rfl) ?_
    refine dw_o rfl (ok_fieldAddr1 Try.runUnderlying84 rfl Try.sizeOf3 rfl rfl) ?_
    refine dw_o rfl (ok_load ti3 rfl) ?_
    refine dw_o rfl (ok_call (CtrF.ctr (CtrF.sl (digits_ok (ix 0 b (c.pst b j.toNat)) c.F.q c.k (by first | rfl | assumption | omega | (simp_all; done) | grind) (by first | rfl | assumption | omega | (simp_all; done) | grind) (by first | rfl | assumption | omega | (simp_all; done) | grind) (by first | rfl | assumption | omega | (simp_all; done) | grind) (by first | rfl | assumption | omega | (simp_all; done) | grind)))) rfl) ?_
    refine dw_o rfl (ok_build1 (enc := aInts) (y := digS c.F.q c.k.toNat (ix 0 b (c.pst b j.toNat))) vt42 rfl (elem_one one_sl) (by decide)) ?_
    refine dw_nil ?_
    refine ent_appendS (k := 0) rfl vt42 rfl rfl (by first | rfl | (simp; done) | (simp_all; done) | omega) rfl (cv_id sub_refl) (by first | omega | (simp only [List.length_append, List.length_cons, List.length_nil]; omega) | (simp; omega)) (by first | omega | (simp only [List.length_append, List.length_cons, List.length_nil]; omega) | (simp; omega)) (fun r30_3 cr30_3 => ?_)
    refine ent_o rfl (ok_assign rfl) ?_
    refine ent_nil ?_
    refine ent_k hK8 ?_
    refine ent_draw 14 mixed (by kernel_rfl) (by kernel_rfl) (by kernel_rfl) ?_
    refine dw_o rfl (ok_fieldAddrEx Try.runUnderlying96 rfl Try.sizeOf22 (by decide) rfl) ?_
    refine dw_o rfl (ok_loadB (k := 1) Try.isAgg22 rfl rfl rfl) ?_
    refine dw_o rfl (ok_move rfl) ?_
    refine dw_o rfl (ok_fieldAddrEx Try.runUnderlying96 rfl Try.sizeOf3 (by decide) rfl) ?_
    refine dw_o rfl (ok_loadB (k := 1) Try.isAgg3 rfl rfl rfl) ?_
    refine dw_o rfl (ok_mul rfl rfl (by omega) (by omega)) ?_
    refine dw_o rfl (ok_move rfl) ?_
    refine dw_o rfl (ok_move rfl) ?_
    refine dw_o rfl (ok_index 0 sl22 rfl rfl (by omega) (by omega)) ?_
    refine dw_o rfl (ok_load ti3 rfl) ?_
    refine dw_o rfl (ok_add rfl rfl (by omega) (by omega)) ?_
    refine dw_o rfl (ok_index 0 sl22 rfl rfl (by omega) (by omega)) ?_
    refine dw_o rfl (ok_load ti3 rfl) ?_
    refine dw_o rfl (ok_assign rfl) ?_
    refine dw_nil ?_
    refine ent_nil ?_
    refine ent_k hK7 ?_
    refine ent_region ?_
    refine ent_o rfl (ok_assign rfl) ?_
    refine ent_nil ?_
    refine ent_again (s := (j, rr3, cc3)) (j + 1, r30_3, cr30_3) ⟨(by first | rfl | assumption | omega | (simp_all; done) | grind), (by omega)⟩ (by first | omega | (dsimp only; omega)) (ent_rep ⟨rfl, rfl, rfl, slot_av (av_vec (congrArg List.length (show c.msgR b (j + 1) = (c.msgR b j) ++ [digS c.F.q c.k.toNat (ix 0 b (c.pst b j.toNat))] by exact mapR_succ _ j0).symm)), slot_av (av_int (show ix 0 c.eNxs (((c.pst b j.toNat) * c.ins) + (ix 0 b (c.pst b j.toNat))) = c.pst b (j + 1).toNat by rw [Cnv.pst_succ b j0, hxn])), slot_av (av_bool (show (false : Bool) = decide ((j + 1) = 0) by exact (decide_eq_false (by omega)).symm)), trivial⟩ (own_cons (own_vec (show c.msgR b (j + 1) = (c.msgR b j) ++ [digS c.F.q c.k.toNat (ix 0 b (c.pst b j.toNat))] by exact mapR_succ _ j0)) (rfl)))
  · have hjn : j = n := by
      by_cases hj : j = n
      · exact hj
      · exact absurd (Classical.not_not.1 (fun g => h14 (.inr g))) (hf.mid j.toNat (by have : ¬ j = 0 := fun e => h14 (.inl e); omega) (by omega))
    refine ent_exit ?_
    refine ent_k hK3 ?_
    refine ent_seq fun K9 hK9 => ?_
    refine ent_region ?_
    refine ent_o rfl (ok_move rfl) ?_
    refine ent_o rfl (ok_assign rfl) ?_
    refine ent_nil ?_
    refine ent_k hK9 ?_
    refine ent_ret ?_
    exact retR1 (.inr rfl) Try.results71 (resr_tmp (res_cv rfl (cv_vec (k := 0) (off_x rfl) (by first | rfl | (simp; done) | (simp_all; done) | omega) (by rw [hjn]))))
end Go.Proofs.Ytfjhbdfgbpcchaa
