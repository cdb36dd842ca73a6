/-
  Walks of functions of the program and the reference.
-/
import Derived.Test.YtfjhbdfgbpcchaaQ18
set_option linter.unnecessarySimpa false
open Go Go.Cw
namespace Go.Proofs.Ytfjhbdfgbpcchaa
open Try
set_option maxRecDepth 100000
set_option linter.unusedVariables false
set_option linter.unusedSimpArgs false
set_option maxHeartbeats 1000000 in
theorem rCircle_ok (c : Cnv) (hFew : c.Few) (hOk : c.Ok) : Ctr Try.prog 43 [aCnv c] (aBool (decide c.cirP)) := by
 have hF := hOk.fld
 have hS := hF.1
 have hq := hS.bd
 have hq2 := hq.2.2.2.2.2.1
 have hik : c.k = (c.Gen.length : Int) := rfl
 have hen : c.n = ((ix [] c.Gen 0).length : Int) := rfl
 have hkn := hOk.kn
 have hnl := hOk.len
 have hi1 := Cnv.ins_pos (c := c) hq2
 have hsi := Cnv.states_ins hq2 hOk.small
 have hil := Cnv.ins_le hq2 hOk.small
 have hst := Cnv.states_le hq2 hOk.small
 have hf1 := hFew.1
 refine ctr_of Try.call43 func43 rfl rfl ?_
 intro w O
 refine ent_lenC 0 2 rfl rfl (fun hlen0_2 => ?_)
 refine ent_lenC 0 3 rfl rfl (fun hlen0_3 => ?_)
 refine esr rfl fun _ K1 => ?_
 refine ent_boxS rfl rfl (AllOne.mem ⟨(one_int _), (one_int _), one_sl, one_sl, trivial⟩) (fun b1_1 => ?_)
 refine emm rfl ?_
 refine enk K1 ?_
 refine esr rfl fun _ K2 => ?_
 refine ent_o rfl (ok_loadBS (k := 0) ti27 rfl rfl rfl) ?_
 refine ent_o rfl (ok_call (rStates_ok c ‹_› ‹_›) rfl) ?_
 refine ent_make aBool false rfl vt102 rfl rfl (by omega) (by omega) (by omega) (fun _ _ => rfl) (AllV.mem ⟨rfl, trivial⟩) (fun b14_2 => ?_)
 refine emm rfl ?_
 refine enk K2 ?_
 refine ent_seq fun _ K3 => ?_
 refine esk rfl ?_
 refine ent_block ?_
 refine ent_loop (fun (s : Int) => (⟨[(1, aEx (.pointer (some ⟨b1_1, 0, none⟩))), (3, aEx (vec (some b14_2) ((c.states).toNat) ((c.states).toNat))), (4, aInt s)], [oVec (some b14_2) ((c.states).toNat) 4 1 false aBool (fillR (fun _ => true) false c.states s), oBox b1_1 27 [aInt c.F.P, aInt c.F.M, aSl 1 false aInt c.F.mod, aSl 1 false aRows c.Gen]]⟩ : St)) (fun (s : Int) => (0 ≤ s) ∧ (s ≤ c.states)) (fun (s : Int) => (c.states - s).toNat) 0 ⟨(by omega), (by omega)⟩ (ent_rep ⟨rfl, rfl, slot_av (av_int (show 0 = (0 : Int) by rfl)), trivial⟩ (own_cons (own_vec (show fillR (fun _ => true) false c.states (0 : Int) = List.replicate ((c.states).toNat) false by exact fillR_zero _ _ _)) (rfl))) ?_
 rintro s ⟨s0, s1⟩
 show Ent _ ⟨_, [_, _]⟩ _
 have lfl : (fillR (fun _ => true) false c.states s).length = c.states.toNat := length_fillR _ _ s0 s1
 refine ent_seq fun _ K5 => ?_
 refine esr rfl fun _ K6 => ?_
 refine ent_o rfl (ok_lenEx rfl runUnderlying102 rfl) ?_
 refine ent_o rfl (ok_lss rfl rfl) ?_
 refine enk K6 ?_
 refine ent_condD rfl (fun h18 => ?_) (fun h18 => ?_)
 ·refine esp K5 ?_
  refine ent_seq fun _ K7 => ?_
  refine ent_block ?_
  refine ent_region ?_
  refine emm rfl ?_
  refine ent_o rfl (ok_indexV sl102 rfl rfl (by omega) (by omega)) ?_
  refine ent_storeV (k := 0) (z := true) ti4 rfl rfl rfl (elem_one (one_bool _)) (by omega) (by omega) ?_
  refine enk K7 ?_
  refine ent_region ?_
  refine emm rfl ?_
  refine ent_o rfl (ok_add rfl rfl (by omega) (by omega)) ?_
  refine emm rfl ?_
  refine ent_nil ?_
  refine ent_again (s := (s)) (s + 1) ⟨(by omega), (by omega)⟩ (by omega) (ent_rep ⟨rfl, rfl, rfl, trivial⟩ (own_cons (own_vec (show fillR (fun _ => true) false c.states (s + 1) = List.set (fillR (fun _ => true) false c.states s) (s).toNat true by exact (fillR_set _ false s0 (by omega)).symm)) (rfl)))
 refine ent_exit ?_
 refine ent_k K3 ?_
 refine ent_seq fun _ K8 => ?_
 refine esk rfl ?_
 refine ent_block ?_
 refine ent_loop (fun (ss : List Bool × Bool) => match ss with | (L, ch) => (⟨[(1, aEx (.pointer (some ⟨b1_1, 0, none⟩))), (3, aEx (vec (some b14_2) ((c.states).toNat) ((c.states).toNat))), (5, aBool ch)], [oVec (some b14_2) ((c.states).toNat) 4 1 false aBool L, oBox b1_1 27 [aInt c.F.P, aInt c.F.M, aSl 1 false aInt c.F.mod, aSl 1 false aRows c.Gen]]⟩ : St)) (fun (ss : List Bool × Bool) => match ss with | (L, ch) => (c.CirI L) ∧ (ch = true ∨ c.FixTo L c.states)) (fun (ss : List Bool × Bool) => match ss with | (L, ch) => 2 * Cnv.cntB L + Cnv.sumB ch) (fillR (fun _ => true) false c.states s, true) ⟨(by rw [fillR_all _ _ (by omega), show s = c.states by omega]; exact Cnv.CirI.start (by omega)), (.inl rfl)⟩ (ent_rep ⟨rfl, rfl, rfl, trivial⟩ rfl) ?_
 rintro ⟨L, ch⟩ ⟨hI, hc⟩
 show Ent _ ⟨_, [_, _]⟩ _
 have lL := hI.len
 refine ent_seq fun _ K10 => ?_
 refine esk rfl ?_
 refine ent_cond rfl (fun h24 => ?_) (fun h24 => ?_)
 ·refine esp K10 ?_
  refine ent_block ?_
  refine esk rfl ?_
  refine esk rfl ?_
  refine ent_block ?_
  refine ent_loop (fun (ss : Int × List Bool × Bool) => match ss with | (s, M, ch1) => (⟨[(1, aEx (.pointer (some ⟨b1_1, 0, none⟩))), (3, aEx (vec (some b14_2) ((c.states).toNat) ((c.states).toNat))), (5, aBool ch1), (6, aInt s)], [oVec (some b14_2) ((c.states).toNat) 4 1 false aBool M, oBox b1_1 27 [aInt c.F.P, aInt c.F.M, aSl 1 false aInt c.F.mod, aSl 1 false aRows c.Gen]]⟩ : St)) (fun (ss : Int × List Bool × Bool) => match ss with | (s, M, ch1) => (0 ≤ s) ∧ (s ≤ c.states) ∧ (c.CirI M) ∧ (Cnv.cntB M ≤ Cnv.cntB L) ∧ (ch1 = true → Cnv.cntB M < Cnv.cntB L) ∧ (ch1 = false → c.FixTo M s)) (fun (ss : Int × List Bool × Bool) => match ss with | (s, M, ch1) => (c.states - s).toNat) (0, L, false) ⟨(by omega), (by omega), hI, (Nat.le_refl _), (fun h => by cases h), (fun _ => Cnv.FixTo.zero _)⟩ (ent_rep ⟨rfl, rfl, rfl, slot_av (av_int (show 0 = (0 : Int) by rfl)), trivial⟩ rfl) ?_
  rintro ⟨s, M, ch1⟩ ⟨s0, s1, hM, hs1, hg1, hk1⟩
  show Ent _ ⟨_, [_, _]⟩ _
  have lM := hM.len
  refine ent_seq fun _ K14 => ?_
  refine esr rfl fun _ K15 => ?_
  refine ent_o rfl (ok_lenEx rfl runUnderlying102 rfl) ?_
  refine ent_o rfl (ok_lss rfl rfl) ?_
  refine enk K15 ?_
  refine ent_condD rfl (fun h28 => ?_) (fun h28 => ?_)
  ·refine esp K14 ?_
   refine ent_seq fun _ K16 => ?_
   refine ent_block ?_
   refine ent_seq fun _ K17 => ?_
   refine esr rfl fun _ K18 => ?_
   refine ent_o rfl (ok_indexV sl102 rfl rfl (by omega) (by omega)) ?_
   refine ent_o rfl (ok_loadV (k := 0) false ti4 rfl rfl (by omega) (by omega)) ?_
   refine ent_o rfl (ok_not rfl) ?_
   refine enk K18 ?_
   refine ent_cond rfl (fun h35 => ?_) (fun h35 => ?_)
   ·have h35n : ¬ ix false M s = true := by intro g; rw [g] at h35; cases h35
    refine ent_exit ?_
    refine ent_k K16 ?_
    refine ent_region ?_
    refine emm rfl ?_
    refine ent_o rfl (ok_add rfl rfl (by omega) (by omega)) ?_
    refine emm rfl ?_
    refine ent_nil ?_
    refine ent_again (s := (s, M, ch1)) (s + 1, M, ch1) ⟨(by omega), (by omega), (by exact hM), (by exact hs1), (by exact hg1), (by exact fun h => (hk1 h).skip h35n)⟩ (by dsimp only; omega) (ent_rep ⟨rfl, rfl, rfl, rfl, trivial⟩ rfl)
   have h35y : ix false M s = true := by cases g : ix false M s; (rw [g] at h35; cases h35); rfl
   refine esp K17 ?_
   refine esk rfl ?_
   refine ent_seq fun _ K20 => ?_
   refine esk rfl ?_
   refine ent_block ?_
   refine ent_loop (fun (ss : Int × Bool) => match ss with | (x, ok) => (⟨[(1, aEx (.pointer (some ⟨b1_1, 0, none⟩))), (3, aEx (vec (some b14_2) ((c.states).toNat) ((c.states).toNat))), (5, aBool ch1), (6, aInt s), (7, aBool ok), (8, aInt x)], [oVec (some b14_2) ((c.states).toNat) 4 1 false aBool M, oBox b1_1 27 [aInt c.F.P, aInt c.F.M, aSl 1 false aInt c.F.mod, aSl 1 false aRows c.Gen]]⟩ : St)) (fun (ss : Int × Bool) => match ss with | (x, ok) => (0 ≤ x) ∧ (x ≤ c.ins) ∧ ((ok = true ↔ c.Hit M s x))) (fun (ss : Int × Bool) => match ss with | (x, ok) => (c.ins - x).toNat) (0, false) ⟨(by omega), (by omega), (Cnv.Hit.zero _ _)⟩ (ent_rep ⟨rfl, rfl, rfl, rfl, rfl, slot_av (av_int (show 0 = (0 : Int) by rfl)), trivial⟩ rfl) ?_
   rintro ⟨x, ok⟩ ⟨x0, x1, ho⟩
   show Ent _ ⟨_, [_, _]⟩ _
   refine ent_seq fun _ K22 => ?_
   refine esr rfl fun _ K23 => ?_
   refine ent_o rfl (ok_loadBS (k := 1) ti27 rfl rfl rfl) ?_
   refine ent_o rfl (ok_call (rInputs_ok c ‹_› ‹_›) rfl) ?_
   refine ent_o rfl (ok_lss rfl rfl) ?_
   refine enk K23 ?_
   refine ent_condD rfl (fun h39 => ?_) (fun h39 => ?_)
   ·have hgx := Cnv.inp_good (c := c) hq2 x
    have hnb := Cnv.nxt_states (s := s) hq2 hgx
    have hlo := Cnv.length_outL (c := c) s (c.inp x)
    have hw1 := wtL_single (c.outL s (c.inp x))
    refine esp K22 ?_
    refine ent_seq fun _ K24 => ?_
    refine ent_block ?_
    refine ent_seq fun _ K25 => ?_
    refine ent_draw 11 mixed (by kernel_rfl) (by kernel_rfl) (by kernel_rfl) ?_
    refine dw_o rfl (ok_loadBS (k := 1) ti27 rfl rfl rfl) ?_
    refine dw_o rfl (ok_move rfl) ?_
    refine dw_o rfl (ok_loadBS (k := 1) ti27 rfl rfl rfl) ?_
    refine dw_o rfl (ok_move rfl) ?_
    refine dw_o rfl (ok_call (CtrF.ctr (rInput_ok c x ‹_› ‹_› ‹_› (by omega))) rfl) ?_
    refine dw_o rfl (ok_call (CtrF.ctr (rNext_ok c s (c.inp x) ‹_› ‹_› s0 (by omega) hgx)) rfl) ?_
    refine dw_o rfl (ok_move rfl) ?_
    refine dw_o rfl (ok_extract rfl rfl) ?_
    refine dw_o rfl (ok_extract rfl rfl) ?_
    refine dw_o rfl (ok_assign rfl) ?_
    refine dw_o rfl (ok_assign rfl) ?_
    refine dw_nil ?_
    refine enk K25 ?_
    refine ent_region ?_
    refine emm rfl ?_
    refine ent_guardX rfl rfl rfl rfl (fun hg52 => ?_) (fun hg52 => ?_)
    ·refine emm rfl ?_
     refine ent_guardXT rfl rfl rfl rfl hg52 ?_
     refine emm rfl ?_
     refine ent_guardXT rfl rfl rfl rfl hg52 ?_
     refine ent_o rfl (ok_indexV sl102 rfl rfl (by omega) (by omega)) ?_
     refine ent_guardXT rfl rfl rfl rfl hg52 ?_
     refine ent_o rfl (ok_loadV (k := 0) false ti4 rfl rfl (by omega) (by omega)) ?_
     refine ent_guardXT rfl rfl rfl rfl hg52 ?_
     refine emm rfl ?_
     refine ent_guardX rfl rfl rfl rfl (fun hg57 => ?_) (fun hg57 => ?_)
     ·refine emm rfl ?_
      refine ent_guardXT rfl rfl rfl rfl hg57 ?_
      refine ent_o rfl (ok_neq rfl rfl) ?_
      refine ent_guardXT rfl rfl rfl rfl hg57 ?_
      refine emm rfl ?_
      refine ent_guardXDf rfl rfl rfl rfl (fun hg60 => ?_) (fun hg60 => ?_)
      ·refine emm rfl ?_
       refine ent_guardXT rfl rfl rfl rfl (decide_eq_false hg60) ?_
       refine ent_o rfl (ok_neq rfl rfl) ?_
       refine ent_guardXT rfl rfl rfl rfl hg57 ?_
       refine ent_o rfl (ok_pickF rfl (decide_eq_false hg60) rfl) ?_
       refine ent_guardXT rfl rfl rfl rfl hg52 ?_
       refine ent_o rfl (ok_pickT rfl hg57 rfl) ?_
       refine ent_guardXT rfl rfl rfl rfl hg52 ?_
       refine emm rfl ?_
       refine ent_guardXDt rfl rfl rfl rfl (fun hg65 => ?_) (fun hg65 => ?_)
       ·refine emm rfl ?_
        refine ent_guardXT rfl rfl rfl rfl (decide_eq_true hg65) ?_
        refine ent_buildN aInts [c.outL s (c.inp x)] rfl vt42 (by decide) (⟨0, 1, rfl, .inl ⟨rfl, _, rfl, one_sl, rfl, rfl⟩⟩) rfl (fun b67_3 => ?_)
        refine ent_guardXT rfl rfl rfl rfl (decide_eq_true hg65) ?_
        refine ent_o rfl (ok_callP [0] (by exact pl_ex) (rWeight_ok [c.outL s (c.inp x)] (by simp) (by intro r hr; rw [List.mem_singleton] at hr; rw [hr]; omega)) ⟨arg_a rfl (cv_vec (k := 0) (off_lent rfl (by decide)) rfl rfl), trivial⟩) ?_
        refine ent_guardXT rfl rfl rfl rfl (decide_eq_true hg65) ?_
        refine ent_o rfl (ok_eql rfl rfl) ?_
        refine ent_guardXT rfl rfl rfl rfl hg52 ?_
        refine ent_o rfl (ok_pickT rfl (decide_eq_true hg65) rfl) ?_
        refine ent_o rfl (ok_pickF rfl hg52 rfl) ?_
        refine emm rfl ?_
        refine enk K24 ?_
        refine ent_region ?_
        refine emm rfl ?_
        refine ent_o rfl (ok_add rfl rfl (by omega) (by omega)) ?_
        refine emm rfl ?_
        refine ent_nil ?_
        refine ent_drop 0 ?_
        refine ent_again (s := (x, ok)) (x + 1, decide ((wtL [c.outL s (c.inp x)]) = 0)) ⟨(by omega), ‹_›, (by exact Cnv.Hit.dec ho (by rw [hg52]; decide) x0 ⟨fun h => ⟨hg57, .inr hg65, by unfold Cnv.wW; rw [← hw1]; exact h⟩, fun g => by rw [hw1]; exact g.2.2⟩)⟩ (by dsimp only; omega) (ent_rep ⟨rfl, rfl, rfl, rfl, rfl, rfl, trivial⟩ rfl)
       refine ent_guardXF rfl rfl rfl rfl (decide_eq_false hg65) ?_
       refine ent_guardXF rfl rfl rfl rfl (decide_eq_false hg65) ?_
       refine ent_guardXF rfl rfl rfl rfl (decide_eq_false hg65) ?_
       refine ent_guardXT rfl rfl rfl rfl hg52 ?_
       refine ent_o rfl (ok_pickF rfl (decide_eq_false hg65) rfl) ?_
       refine ent_o rfl (ok_pickF rfl hg52 rfl) ?_
       refine emm rfl ?_
       refine enk K24 ?_
       refine ent_region ?_
       refine emm rfl ?_
       refine ent_o rfl (ok_add rfl rfl (by omega) (by omega)) ?_
       refine emm rfl ?_
       refine ent_nil ?_
       refine ent_again (s := (x, ok)) (x + 1, false) ⟨(by omega), ‹_›, (by exact Cnv.Hit.no ho (by rw [hg52]; decide) (fun g => g.2.1.elim hg60 hg65))⟩ (by dsimp only; omega) (ent_rep ⟨rfl, rfl, rfl, rfl, rfl, rfl, trivial⟩ rfl)
      refine ent_guardXF rfl rfl rfl rfl (decide_eq_true hg60) ?_
      refine ent_guardXT rfl rfl rfl rfl hg57 ?_
      refine ent_o rfl (ok_pickT rfl (decide_eq_true hg60) rfl) ?_
      refine ent_guardXT rfl rfl rfl rfl hg52 ?_
      refine ent_o rfl (ok_pickT rfl hg57 rfl) ?_
      refine ent_guardXT rfl rfl rfl rfl hg52 ?_
      refine emm rfl ?_
      refine ent_guardXT rfl rfl rfl rfl rfl ?_
      refine emm rfl ?_
      refine ent_guardXT rfl rfl rfl rfl rfl ?_
      refine ent_buildN aInts [c.outL s (c.inp x)] rfl vt42 (by decide) (⟨0, 1, rfl, .inl ⟨rfl, _, rfl, one_sl, rfl, rfl⟩⟩) rfl (fun b67_4 => ?_)
      refine ent_guardXT rfl rfl rfl rfl rfl ?_
      refine ent_o rfl (ok_callP [0] (by exact pl_ex) (rWeight_ok [c.outL s (c.inp x)] (by simp) (by intro r hr; rw [List.mem_singleton] at hr; rw [hr]; omega)) ⟨arg_a rfl (cv_vec (k := 0) (off_lent rfl (by decide)) rfl rfl), trivial⟩) ?_
      refine ent_guardXT rfl rfl rfl rfl rfl ?_
      refine ent_o rfl (ok_eql rfl rfl) ?_
      refine ent_guardXT rfl rfl rfl rfl hg52 ?_
      refine ent_o rfl (ok_pickT rfl rfl rfl) ?_
      refine ent_o rfl (ok_pickF rfl hg52 rfl) ?_
      refine emm rfl ?_
      refine enk K24 ?_
      refine ent_region ?_
      refine emm rfl ?_
      refine ent_o rfl (ok_add rfl rfl (by omega) (by omega)) ?_
      refine emm rfl ?_
      refine ent_nil ?_
      refine ent_drop 0 ?_
      refine ent_again (s := (x, ok)) (x + 1, decide ((wtL [c.outL s (c.inp x)]) = 0)) ⟨(by omega), ‹_›, (by exact Cnv.Hit.dec ho (by rw [hg52]; decide) x0 ⟨fun h => ⟨hg57, .inl hg60, by unfold Cnv.wW; rw [← hw1]; exact h⟩, fun g => by rw [hw1]; exact g.2.2⟩)⟩ (by dsimp only; omega) (ent_rep ⟨rfl, rfl, rfl, rfl, rfl, rfl, trivial⟩ rfl)
     refine ent_guardXF rfl rfl rfl rfl hg57 ?_
     refine ent_guardXF rfl rfl rfl rfl hg57 ?_
     refine ent_guardU rfl rfl rfl rfl ?_
     refine ent_guardU rfl rfl rfl rfl ?_
     refine ent_guardXF rfl rfl rfl rfl hg57 ?_
     refine ent_guardXT rfl rfl rfl rfl hg52 ?_
     refine ent_o rfl (ok_pickF rfl hg57 rfl) ?_
     refine ent_guardXT rfl rfl rfl rfl hg52 ?_
     refine emm rfl ?_
     refine ent_guardXF rfl rfl rfl rfl rfl ?_
     refine ent_guardXF rfl rfl rfl rfl rfl ?_
     refine ent_guardXF rfl rfl rfl rfl rfl ?_
     refine ent_guardXF rfl rfl rfl rfl rfl ?_
     refine ent_guardXT rfl rfl rfl rfl hg52 ?_
     refine ent_o rfl (ok_pickF rfl rfl rfl) ?_
     refine ent_o rfl (ok_pickF rfl hg52 rfl) ?_
     refine emm rfl ?_
     refine enk K24 ?_
     refine ent_region ?_
     refine emm rfl ?_
     refine ent_o rfl (ok_add rfl rfl (by omega) (by omega)) ?_
     refine emm rfl ?_
     refine ent_nil ?_
     refine ent_again (s := (x, ok)) (x + 1, false) ⟨(by omega), ‹_›, (by exact Cnv.Hit.no ho (by rw [hg52]; decide) (fun g => absurd (hg57.symm.trans g.1) (by decide)))⟩ (by dsimp only; omega) (ent_rep ⟨rfl, rfl, rfl, rfl, rfl, rfl, trivial⟩ rfl)
    refine ent_guardXF rfl rfl rfl rfl hg52 ?_
    refine ent_guardXF rfl rfl rfl rfl hg52 ?_
    refine ent_guardXF rfl rfl rfl rfl hg52 ?_
    refine ent_guardXF rfl rfl rfl rfl hg52 ?_
    refine ent_guardU rfl rfl rfl rfl ?_
    refine ent_guardU rfl rfl rfl rfl ?_
    refine ent_guardU rfl rfl rfl rfl ?_
    refine ent_guardU rfl rfl rfl rfl ?_
    refine ent_guardU rfl rfl rfl rfl ?_
    refine ent_guardU rfl rfl rfl rfl ?_
    refine ent_guardXF rfl rfl rfl rfl hg52 ?_
    refine ent_guardXF rfl rfl rfl rfl hg52 ?_
    refine ent_guardU rfl rfl rfl rfl ?_
    refine ent_guardU rfl rfl rfl rfl ?_
    refine ent_guardU rfl rfl rfl rfl ?_
    refine ent_guardU rfl rfl rfl rfl ?_
    refine ent_guardXF rfl rfl rfl rfl hg52 ?_
    refine ent_o rfl (ok_pickT rfl hg52 rfl) ?_
    refine emm rfl ?_
    refine enk K24 ?_
    refine ent_region ?_
    refine emm rfl ?_
    refine ent_o rfl (ok_add rfl rfl (by omega) (by omega)) ?_
    refine emm rfl ?_
    refine ent_nil ?_
    refine ent_again (s := (x, ok)) (x + 1, true) ⟨(by omega), ‹_›, (by exact Cnv.Hit.keep ho hg52)⟩ (by dsimp only; omega) (ent_rep ⟨rfl, rfl, rfl, rfl, rfl, rfl, trivial⟩ rfl)
   refine ent_exit ?_
   refine ent_k K20 ?_
   refine esr rfl fun _ K26 => ?_
   refine ent_o rfl (ok_not rfl) ?_
   refine enk K26 ?_
   refine ent_cond rfl (fun h73 => ?_) (fun h73 => ?_)
   ·have h73n : ¬ ok = true := by intro g; rw [g] at h73; cases h73
    refine esr rfl fun _ K27 => ?_
    refine ent_o rfl (ok_indexV sl102 rfl rfl (by omega) (by omega)) ?_
    refine ent_storeV (k := 0) (z := false) ti4 rfl rfl rfl (elem_one (one_bool _)) (by omega) (by omega) ?_
    refine enk K27 ?_
    refine ent_region ?_
    refine emm rfl ?_
    refine enk K16 ?_
    refine ent_region ?_
    refine emm rfl ?_
    refine ent_o rfl (ok_add rfl rfl (by omega) (by omega)) ?_
    refine emm rfl ?_
    refine ent_nil ?_
    refine ent_again (s := (s, M, ch1)) (s + 1, List.set M (s).toNat false, true) ⟨(by omega), (by omega), (by exact hM.drop s0 (by omega) (by omega) ho h73n), (by exact Nat.le_trans (Nat.le_of_lt (Cnv.cntB_set M s.toNat h35y)) hs1), (by exact fun _ => Nat.lt_of_lt_of_le (Cnv.cntB_set M s.toNat h35y) hs1), (by exact fun h => by cases h)⟩ (by dsimp only; omega) (ent_rep ⟨rfl, rfl, rfl, rfl, trivial⟩ rfl)
   have h73y : ok = true := by cases g : ok; (rw [g] at h73; cases h73); rfl
   refine esp K16 ?_
   refine ent_region ?_
   refine emm rfl ?_
   refine ent_o rfl (ok_add rfl rfl (by omega) (by omega)) ?_
   refine emm rfl ?_
   refine ent_nil ?_
   refine ent_again (s := (s, M, ch1)) (s + 1, M, ch1) ⟨(by omega), (by omega), (by exact hM), (by exact hs1), (by exact hg1), (by exact fun h => (hk1 h).next (by omega) ho h73y)⟩ (by dsimp only; omega) (ent_rep ⟨rfl, rfl, rfl, rfl, trivial⟩ rfl)
  refine ent_exit ?_
  refine ent_again (s := (L, ch)) (M, ch1) ⟨hM, (by cases ch1; exact .inr (hk1 rfl |> fun h => by rwa [show s = c.states by omega] at h); exact .inl rfl)⟩ ((by cases ch1; (have := hs1; simp [Cnv.sumB, h24]; omega); (have := hg1 rfl; simp [Cnv.sumB, h24]; omega))) (ent_rep ⟨rfl, rfl, rfl, trivial⟩ rfl)
 refine ent_exit ?_
 refine ent_k K8 ?_
 refine ent_seq fun _ K28 => ?_
 refine esk rfl ?_
 refine ent_block ?_
 refine ent_loop (fun (z : Int) => (⟨[(3, aEx (vec (some b14_2) ((c.states).toNat) ((c.states).toNat))), (11, aInt z)], [oVec (some b14_2) ((c.states).toNat) 4 1 false aBool L, oBox b1_1 27 [aInt c.F.P, aInt c.F.M, aSl 1 false aInt c.F.mod, aSl 1 false aRows c.Gen]]⟩ : St)) (fun (z : Int) => (0 ≤ z) ∧ (z ≤ c.states) ∧ (∀ y : Int, 0 ≤ y → y < z → ¬ ix false L y = true)) (fun (z : Int) => (c.states - z).toNat) 0 ⟨(by omega), (by omega), (fun y y0 y1 => by omega)⟩ (ent_rep ⟨rfl, slot_av (av_int (show 0 = (0 : Int) by rfl)), trivial⟩ rfl) ?_
 rintro z ⟨z0, z1, hz⟩
 show Ent _ ⟨_, [_, _]⟩ _
 refine ent_seq fun _ K30 => ?_
 refine esr rfl fun _ K31 => ?_
 refine ent_o rfl (ok_lenEx rfl runUnderlying102 rfl) ?_
 refine ent_o rfl (ok_lss rfl rfl) ?_
 refine enk K31 ?_
 refine ent_condD rfl (fun h80 => ?_) (fun h80 => ?_)
 ·refine esp K30 ?_
  refine ent_seq fun _ K32 => ?_
  refine ent_block ?_
  refine esr rfl fun _ K33 => ?_
  refine ent_o rfl (ok_indexV sl102 rfl rfl (by omega) (by omega)) ?_
  refine ent_o rfl (ok_loadV (k := 0) false ti4 rfl rfl (by omega) (by omega)) ?_
  refine enk K33 ?_
  refine ent_cond rfl (fun h86 => ?_) (fun h86 => ?_)
  ·refine esk rfl ?_
   refine ent_ret ?_
   exact retR1 (.inr rfl) results43 (resr_tmp (res_cv rfl (cv_bool (by exact (decide_eq_true (Cnv.cir_yes hI (hc.resolve_left (by simpa using h24)) z0 (by omega) h86 hq2)).symm))))
  refine esp K32 ?_
  refine ent_region ?_
  refine emm rfl ?_
  refine ent_o rfl (ok_add rfl rfl (by omega) (by omega)) ?_
  refine emm rfl ?_
  refine ent_nil ?_
  refine ent_again (s := (z)) (z + 1) ⟨(by omega), (by omega), (fun y y0 y1 => by by_cases e : y = z; (rw [e, h86]; decide); exact hz y y0 (by omega))⟩ (by omega) (ent_rep ⟨rfl, rfl, trivial⟩ rfl)
 refine ent_exit ?_
 refine ent_k K28 ?_
 refine esk rfl ?_
 refine ent_ret ?_
 exact retR1 (.inr rfl) results43 (resr_tmp (res_cv rfl (cv_bool (by exact (decide_eq_false (Cnv.cir_no hI (fun y y0 y1 => hz y y0 (by omega)))).symm))))
end Go.Proofs.Ytfjhbdfgbpcchaa

