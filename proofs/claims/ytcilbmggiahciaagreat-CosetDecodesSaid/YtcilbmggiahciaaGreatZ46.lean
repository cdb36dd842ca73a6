/-
  Walks of functions of the program and the reference.
-/
import Derived.Test.YtcilbmggiahciaaGreatZ45
open Go Go.Cw
namespace Go.Proofs.YtcilbmggiahciaaGreat
open Tryz
set_option maxRecDepth 100000
set_option linter.unusedVariables false
set_option linter.unusedSimpArgs false
theorem rDistance_ok (a b : List Int)  : Ctr Tryz.prog 28 [aSl 1 false aInt a, aSl 1 false aInt b] (aInt (dst a b)) := by
 refine ctr_of Tryz.call28 func28 rfl rfl ?_
 intro w O
 refine ent_len 0 rfl (fun hlen0 => ?_)
 refine ent_len 1 rfl (fun hlen1 => ?_)
 refine esk rfl ?_
 refine esk rfl ?_
 refine ent_seq fun _ K3 => ?_
 refine esk rfl ?_
 refine ent_block ?_
 refine ent_loop (fun (i : Int) => (⟨[(0, aSl 1 false aInt a), (1, aSl 1 false aInt b), (5, aInt (dstTo a b i.toNat)), (6, aInt i)], []⟩ : St)) (fun (i : Int) => (0 ≤ i) ∧ (i ≤ a.length) ∧ (i ≤ b.length)) (fun (i : Int) => (a.length - i).toNat) 0 ⟨(by omega), (by omega), (by omega)⟩ (ent_rep ⟨rfl, rfl, slot_av (av_int (show 0 = dstTo a b (0 : Int).toNat by rfl)), slot_av (av_int (show 0 = (0 : Int) by rfl)), trivial⟩ rfl) ?_
 rintro i ⟨h0, h1, h2⟩
 show Ent _ ⟨_, []⟩ _
 have hdb := dstTo_bd a b i.toNat
 refine ent_seq fun _ K5 => ?_
 refine ent_seq fun _ K6 => ?_
 refine ent_cut (⟨[(0, aSl 1 false aInt a), (1, aSl 1 false aInt b), (5, aInt (dstTo a b i.toNat)), (6, aInt i), (16, aBool (decide ((i < (↑a.length : Int)) ∧ (i < (↑b.length : Int)))))], []⟩) ?_ ?_
 ·refine ent_region ?_
  refine emm rfl ?_
  refine ent_o rfl (ok_len rfl runUnderlying22 rfl) ?_
  refine ent_o rfl (ok_lss rfl rfl) ?_
  refine emm rfl ?_
  refine ent_guardXDt rfl rfl rfl rfl (fun hg11 => ?_) (fun hg11 => ?_)
  ·refine emm rfl ?_
   refine ent_guardXT rfl rfl rfl rfl (decide_eq_true hg11) ?_
   refine emm rfl ?_
   refine ent_guardXT rfl rfl rfl rfl (decide_eq_true hg11) ?_
   refine ent_o rfl (ok_len rfl runUnderlying22 rfl) ?_
   refine ent_guardXT rfl rfl rfl rfl (decide_eq_true hg11) ?_
   refine ent_o rfl (ok_lss rfl rfl) ?_
   refine ent_o rfl (ok_pickT rfl (decide_eq_true hg11) rfl) ?_
   refine ent_nil ?_
   exact ent_rep ⟨rfl, rfl, rfl, rfl, slot_bool (dq_Q ((and_iff_right hg11).trans Iff.rfl)), trivial⟩ rfl
  refine ent_guardXF rfl rfl rfl rfl (decide_eq_false hg11) ?_
  refine ent_guardXF rfl rfl rfl rfl (decide_eq_false hg11) ?_
  refine ent_guardXF rfl rfl rfl rfl (decide_eq_false hg11) ?_
  refine ent_o rfl (ok_pickF rfl (decide_eq_false hg11) rfl) ?_
  refine ent_nil ?_
  exact ent_rep ⟨rfl, rfl, rfl, rfl, slot_bool (dq_F rfl (fun h => hg11 h.1)), trivial⟩ rfl
 refine ent_k K6 ?_
 refine ent_condD rfl (fun h16 => ?_) (fun h16 => ?_)
 ·refine esp K5 ?_
  refine ent_seq fun _ K7 => ?_
  refine ent_block ?_
  refine ent_seq fun _ K8 => ?_
  refine ent_draw 9 mixed (by kernel_rfl) (by kernel_rfl) (by kernel_rfl) ?_
  refine dw_o rfl (ok_move rfl) ?_
  refine dw_o rfl (ok_move rfl) ?_
  refine dw_o rfl (ok_index 0 sl22 rfl rfl (by omega) (by omega)) ?_
  refine dw_o rfl (ok_load ti3 rfl) ?_
  refine dw_o rfl (ok_move rfl) ?_
  refine dw_o rfl (ok_move rfl) ?_
  refine dw_o rfl (ok_index 0 sl22 rfl rfl (by omega) (by omega)) ?_
  refine dw_o rfl (ok_load ti3 rfl) ?_
  refine dw_o rfl (ok_neq rfl rfl) ?_
  refine dw_nil ?_
  refine enk K8 ?_
  refine ent_condD rfl (fun h27 => ?_) (fun h27 => ?_)
  ·refine ent_region ?_
   refine emm rfl ?_
   refine ent_o rfl (ok_add rfl rfl (by omega) (by omega)) ?_
   refine emm rfl ?_
   refine enk K7 ?_
   refine ent_region ?_
   refine emm rfl ?_
   refine ent_o rfl (ok_add rfl rfl (by omega) (by omega)) ?_
   refine emm rfl ?_
   refine ent_nil ?_
   refine ent_again (s := (i)) (i + 1) ⟨(by omega), (by omega), (by omega)⟩ (by omega) (ent_rep ⟨rfl, rfl, slot_av (av_int (show (dstTo a b i.toNat) + 1 = dstTo a b (i + 1).toNat by exact dstTo_yes h0 h27)), rfl, trivial⟩ rfl)
  refine esp K7 ?_
  refine ent_region ?_
  refine emm rfl ?_
  refine ent_o rfl (ok_add rfl rfl (by omega) (by omega)) ?_
  refine emm rfl ?_
  refine ent_nil ?_
  refine ent_again (s := (i)) (i + 1) ⟨(by omega), (by omega), (by omega)⟩ (by omega) (ent_rep ⟨rfl, rfl, slot_av (av_int (show dstTo a b i.toNat = dstTo a b (i + 1).toNat by exact dstTo_no h0 h27)), rfl, trivial⟩ rfl)
 refine ent_exit ?_
 refine ent_k K3 ?_
 refine esk rfl ?_
 refine ent_ret ?_
 exact retR1 (.inr rfl) results28 (resr_tmp (res_cv rfl (cv_int (by unfold dst; rw [show i.toNat = min a.length b.length by omega]))))

theorem rPiv_ok (X : List (List Int)) (hx : X.length ≤ 1000000) (hr : ∀ i : Int, 0 ≤ i → i < X.length → (ix [] X i).length ≤ 1000000) : Ctr Tryz.prog 95 [aSl 1 false aInts X] (aSl 1 false aInt (pvL X)) := by
 refine ctr_of Tryz.call95 func95 rfl rfl ?_
 intro w O
 refine ent_len 0 rfl (fun hlen0 => ?_)
 refine esk rfl ?_
 refine esk rfl ?_
 refine ent_seq fun _ K3 => ?_
 refine esk rfl ?_
 refine ent_block ?_
 refine ent_open 3 1 false aInt (fun _ => rfl) ?_
 refine ent_loop (fun (ss : Int × Option Nat × Nat) => match ss with | (i, rr2, cc2) => (⟨[(0, aSl 1 false aInts X), (3, aEx (vec rr2 ((mapR (fun z => ld (ix [] X z)) i).length) cc2)), (4, aInt i)], [oVec rr2 cc2 3 1 false aInt (mapR (fun z => ld (ix [] X z)) i)]⟩ : St)) (fun (ss : Int × Option Nat × Nat) => match ss with | (i, rr2, cc2) => (0 ≤ i) ∧ (i ≤ X.length)) (fun (ss : Int × Option Nat × Nat) => match ss with | (i, rr2, cc2) => (X.length - i).toNat) (0, none, 0) ⟨(by omega), (by omega)⟩ (ent_rep ⟨rfl, slot_av ((show aEx (vec none ([] : List _).length 0) = aEx (vec none ((mapR (fun z => ld (ix [] X z)) (0 : Int)).length) 0) from av_vec (congrArg List.length (show mapR (fun z => ld (ix [] X z)) (0 : Int) = [] by rfl).symm))), slot_av (av_int (show 0 = (0 : Int) by rfl)), trivial⟩ (own_cons (own_vec (show mapR (fun z => ld (ix [] X z)) (0 : Int) = [] by rfl)) (rfl))) ?_
 rintro ⟨i, rr2, cc2⟩ ⟨h0, h1⟩
 show Ent _ ⟨_, [_]⟩ _
 have lmr := length_mapR (fun z => ld (ix [] X z)) i
 refine ent_seq fun _ K5 => ?_
 refine esr rfl fun _ K6 => ?_
 refine ent_o rfl (ok_len rfl runUnderlying25 rfl) ?_
 refine ent_o rfl (ok_lss rfl rfl) ?_
 refine enk K6 ?_
 refine ent_condD rfl (fun h9 => ?_) (fun h9 => ?_)
 ·refine esp K5 ?_
  refine ent_seq fun _ K7 => ?_
  refine ent_block ?_
  refine esk rfl ?_
  refine ent_seq fun _ K9 => ?_
  refine ent_block ?_
  refine ent_loop (fun (p : Int) => (⟨[(0, aSl 1 false aInts X), (3, aEx (vec rr2 ((mapR (fun z => ld (ix [] X z)) i).length) cc2)), (4, aInt i), (5, aInt p)], [oVec rr2 cc2 3 1 false aInt (mapR (fun z => ld (ix [] X z)) i)]⟩ : St)) (fun (p : Int) => (0 ≤ p) ∧ (p ≤ (ix [] X i).length) ∧ (∀ z : Int, 0 ≤ z → z < p → ix 0 (ix [] X i) z = 0)) (fun (p : Int) => ((ix [] X i).length - p).toNat) 0 ⟨(by omega), (by omega), (fun z z0 z1 => by omega)⟩ (ent_rep ⟨rfl, rfl, rfl, slot_av (av_int (show 0 = (0 : Int) by rfl)), trivial⟩ rfl) ?_
  rintro p ⟨p0, p1, pz⟩
  show Ent _ ⟨_, [_]⟩ _
  have hrl := hr i h0 (by omega)
  refine ent_seq fun _ K10 => ?_
  refine ent_seq fun _ K11 => ?_
  refine ent_cut (⟨[(0, aSl 1 false aInts X), (3, aEx (vec rr2 ((mapR (fun z => ld (ix [] X z)) i).length) cc2)), (4, aInt i), (5, aInt p), (28, aBool (decide ((p < (↑(ix [] X i).length : Int)) ∧ ((ix 0 (ix [] X i) p) = 0))))], [oVec rr2 cc2 3 1 false aInt (mapR (fun z => ld (ix [] X z)) i)]⟩) ?_ ?_
  ·refine ent_region ?_
   refine emm rfl ?_
   refine ent_o rfl (ok_index [] sl25 rfl rfl (by omega) (by omega)) ?_
   refine ent_o rfl (ok_load ti22 rfl) ?_
   refine ent_o rfl (ok_len rfl runUnderlying22 rfl) ?_
   refine ent_o rfl (ok_lss rfl rfl) ?_
   refine emm rfl ?_
   refine ent_guardXDt rfl rfl rfl rfl (fun hg19 => ?_) (fun hg19 => ?_)
   ·refine emm rfl ?_
    refine ent_guardXT rfl rfl rfl rfl (decide_eq_true hg19) ?_
    refine emm rfl ?_
    refine ent_guardXT rfl rfl rfl rfl (decide_eq_true hg19) ?_
    refine ent_o rfl (ok_index [] sl25 rfl rfl (by omega) (by omega)) ?_
    refine ent_guardXT rfl rfl rfl rfl (decide_eq_true hg19) ?_
    refine ent_o rfl (ok_load ti22 rfl) ?_
    refine ent_guardXT rfl rfl rfl rfl (decide_eq_true hg19) ?_
    refine emm rfl ?_
    refine ent_guardXT rfl rfl rfl rfl (decide_eq_true hg19) ?_
    refine ent_o rfl (ok_index 0 sl22 rfl rfl (by omega) (by omega)) ?_
    refine ent_guardXT rfl rfl rfl rfl (decide_eq_true hg19) ?_
    refine ent_o rfl (ok_load ti3 rfl) ?_
    refine ent_guardXT rfl rfl rfl rfl (decide_eq_true hg19) ?_
    refine ent_o rfl (ok_eql rfl rfl) ?_
    refine ent_o rfl (ok_pickT rfl (decide_eq_true hg19) rfl) ?_
    refine ent_nil ?_
    exact ent_rep ⟨rfl, rfl, rfl, rfl, slot_bool (dq_Q ((and_iff_right hg19).trans Iff.rfl)), trivial⟩ rfl
   refine ent_guardXF rfl rfl rfl rfl (decide_eq_false hg19) ?_
   refine ent_guardXF rfl rfl rfl rfl (decide_eq_false hg19) ?_
   refine ent_guardXF rfl rfl rfl rfl (decide_eq_false hg19) ?_
   refine ent_guardXF rfl rfl rfl rfl (decide_eq_false hg19) ?_
   refine ent_guardXF rfl rfl rfl rfl (decide_eq_false hg19) ?_
   refine ent_guardXF rfl rfl rfl rfl (decide_eq_false hg19) ?_
   refine ent_guardXF rfl rfl rfl rfl (decide_eq_false hg19) ?_
   refine ent_o rfl (ok_pickF rfl (decide_eq_false hg19) rfl) ?_
   refine ent_nil ?_
   exact ent_rep ⟨rfl, rfl, rfl, rfl, slot_bool (dq_F rfl (fun h => hg19 h.1)), trivial⟩ rfl
  refine ent_k K11 ?_
  refine ent_condD rfl (fun h28 => ?_) (fun h28 => ?_)
  ·refine esp K10 ?_
   refine ent_block ?_
   refine ent_region ?_
   refine emm rfl ?_
   refine ent_o rfl (ok_add rfl rfl (by omega) (by omega)) ?_
   refine emm rfl ?_
   refine ent_nil ?_
   refine ent_again (s := (p)) (p + 1) ⟨(by omega), (by omega), (fun z z0 z1 => by by_cases hz : z = p; (rw [hz]; exact h28.2); exact pz z z0 (by omega))⟩ (by omega) (ent_rep ⟨rfl, rfl, rfl, rfl, trivial⟩ rfl)
  have hld := ld_eq p0 p1 pz h28
  refine ent_exit ?_
  refine ent_k K9 ?_
  refine ent_region ?_
  refine emm rfl ?_
  refine ent_appendL (k := 0) (enc := aInt) (y := p) rfl rfl vt22 rfl rfl rfl rfl ((elem_one (one_int _))) (by omega) (by omega) (by decide) (fun b34_3 c34_3 => ?_)
  refine emm rfl ?_
  refine enk K7 ?_
  refine ent_region ?_
  refine emm rfl ?_
  refine ent_o rfl (ok_add rfl rfl (by omega) (by omega)) ?_
  refine emm rfl ?_
  refine ent_nil ?_
  refine ent_again (s := (i, rr2, cc2)) (i + 1, (some b34_3), c34_3) ⟨(by omega), ‹_›⟩ (by dsimp only; omega) (ent_rep ⟨rfl, slot_av (av_vec (congrArg List.length (show mapR (fun z => ld (ix [] X z)) (i + 1) = (mapR (fun z => ld (ix [] X z)) i) ++ [p] by rw [← hld]; exact mapR_succ _ h0).symm)), rfl, trivial⟩ (own_cons (own_vec (show mapR (fun z => ld (ix [] X z)) (i + 1) = (mapR (fun z => ld (ix [] X z)) i) ++ [p] by rw [← hld]; exact mapR_succ _ h0)) (rfl)))
 refine ent_exit ?_
 refine ent_k K3 ?_
 refine esk rfl ?_
 refine ent_ret ?_
 exact retR1 (.inr rfl) results95 (resr_tmp (res_cv rfl (cv_vec (k := 0) (off_x rfl) rfl (by unfold pvL; congr 1; omega))))

theorem rPivC_ok (c : Cod) (hk : COk c) : Ctr Tryz.prog 95 [aSl 1 false aInts c.Gen] (aSl 1 false aInt (canP c.F c.m)) := by
 have h := rPiv_ok c.Gen (by have := hk.len; omega) (fun i i0 i1 => by have := hk.row i0 i1; have := hk.n64; omega)
 rw [hk.pvL_can] at h
 exact h

theorem rZero_ok (n : Nat) (hn : n ≤ 1000000) : Ctr Tryz.prog 76 [aSl 1 false aInt (List.replicate n 0)] (aBool true) := by
 refine ctr_of Tryz.call76 func76 rfl rfl ?_
 intro w O
 refine ent_len 0 rfl (fun hlen0 => ?_)
 refine esk rfl ?_
 refine ent_seq fun _ K2 => ?_
 refine esk rfl ?_
 refine ent_block ?_
 refine ent_loop (fun (i : Int) => (⟨[(0, aSl 1 false aInt (List.replicate n 0)), (3, aInt i)], []⟩ : St)) (fun (i : Int) => (0 ≤ i) ∧ (i ≤ n)) (fun (i : Int) => ((n : Int) - i).toNat) 0 ⟨(by omega), (by omega)⟩ (ent_rep ⟨rfl, slot_av (av_int (show 0 = (0 : Int) by rfl)), trivial⟩ rfl) ?_
 rintro i ⟨h0, h1⟩
 show Ent _ ⟨_, []⟩ _
 refine ent_seq fun _ K4 => ?_
 refine esr rfl fun _ K5 => ?_
 refine ent_o rfl (ok_len rfl runUnderlying22 rfl) ?_
 refine ent_o rfl (ok_lss rfl rfl) ?_
 refine enk K5 ?_
 refine ent_condD rfl (fun h7 => ?_) (fun h7 => ?_)
 ·refine esp K4 ?_
  refine ent_seq fun _ K6 => ?_
  refine ent_block ?_
  refine esr rfl fun _ K7 => ?_
  refine ent_o rfl (ok_index 0 sl22 rfl rfl (by omega) (by omega)) ?_
  refine ent_o rfl (ok_load ti3 rfl) ?_
  refine ent_o rfl (ok_neq rfl rfl) ?_
  refine enk K7 ?_
  refine ent_condD rfl (fun h14 => ?_) (fun h14 => ?_)
  ·exact absurd (ix_zeros n i) h14
  refine esp K6 ?_
  refine ent_region ?_
  refine emm rfl ?_
  refine ent_o rfl (ok_add rfl rfl (by omega) (by omega)) ?_
  refine emm rfl ?_
  refine ent_nil ?_
  refine ent_again (s := (i)) (i + 1) ⟨(by omega), (by simp at h7; omega)⟩ ((by simp at h7; omega)) (ent_rep ⟨rfl, rfl, trivial⟩ rfl)
 refine ent_exit ?_
 refine ent_k K2 ?_
 refine esk rfl ?_
 refine ent_ret ?_
 exact retR1 (.inr rfl) results76 (resr_tmp (res_cv rfl (cv_bool rfl)))

theorem rRest_ok (c : Cod) (u : List Int) (hk : COk c) (hl : (u.length : Int) = c.N) (ho : ¬ outF c.F u) : Ctr Tryz.prog 77 [aFld c.F, aSl 1 false aInts c.Gen, aSl 1 false aInt u] (aSl 1 false aInt (restC c u c.Gen.length)) := by
 have hn64 := hk.n64
 have hn1 := hk.n1
 have hln := hk.len
 have hpl := hk.plen
 refine ctr_of Tryz.call77 func77 rfl rfl ?_
 intro w O
 refine ent_lenC 0 2 rfl rfl (fun hlen0_2 => ?_)
 refine ent_len 1 rfl (fun hlen1 => ?_)
 refine ent_len 2 rfl (fun hlen2 => ?_)
 refine esr rfl fun _ K1 => ?_
 refine ent_boxS rfl rfl (AllOne.mem ⟨(one_int _), (one_int _), one_sl, trivial⟩) (fun b3_1 => ?_)
 refine emm rfl ?_
 refine enk K1 ?_
 refine esr rfl fun _ K2 => ?_
 refine ent_o rfl (ok_call (rPivC_ok c hk) rfl) ?_
 refine emm rfl ?_
 refine enk K2 ?_
 refine esr rfl fun _ K3 => ?_
 refine ent_buildN aInt [] rfl vt22 (by decide) (rfl) rfl (fun b12_2 => ?_)
 refine emm rfl ?_
 refine ent_appendS (k := 0) rfl vt22 rfl rfl rfl rfl (cv_id sub_refl) (by simp only [List.length_append, List.length_cons, List.length_nil]; omega) (by simp only [List.length_append, List.length_cons, List.length_nil]; omega) (fun r14_2 cr14_2 => ?_)
 refine emm rfl ?_
 refine enk K3 ?_
 refine ent_seq fun _ K4 => ?_
 refine ent_seq fun _ K5 => ?_
 refine ent_give 0 8 rfl (cv_vec (k := 0) (off_erase rfl) rfl rfl) ?_
 refine ent_region ?_
 refine emm rfl ?_
 refine enk K5 ?_
 refine ent_block ?_
 refine ent_loop (fun (i : Int) => (⟨[(1, aSl 1 false aInts c.Gen), (2, aSl 1 false aInt u), (3, aEx (.pointer (some ⟨b3_1, 0, none⟩))), (7, aSl 1 false aInt (canP c.F c.m)), (8, aSl 1 false aInt (restC c u i.toNat)), (9, aInt i)], [oBox b3_1 24 [aInt c.F.P, aInt c.F.M, aSl 1 false aInt c.F.mod]]⟩ : St)) (fun (i : Int) => (0 ≤ i) ∧ (i ≤ c.Gen.length)) (fun (i : Int) => (c.Gen.length - i).toNat) 0 ⟨(by omega), (by omega)⟩ (ent_rep ⟨rfl, rfl, rfl, rfl, slot_av (av_sl (show [] ++ u = restC c u (0 : Int).toNat by rfl)), slot_av (av_int (show 0 = (0 : Int) by rfl)), trivial⟩ rfl) ?_
 rintro i ⟨h0, h1⟩
 show Ent _ ⟨_, [_]⟩ _
 have lrc := length_restC c u i.toNat
 refine ent_seq fun _ K6 => ?_
 refine esr rfl fun _ K7 => ?_
 refine ent_o rfl (ok_len rfl runUnderlying25 rfl) ?_
 refine ent_o rfl (ok_lss rfl rfl) ?_
 refine enk K7 ?_
 refine ent_condD rfl (fun h18 => ?_) (fun h18 => ?_)
 ·have hrg := hk.canf.rng i h0 (by omega)
  have e3 : c.m.cols = c.N := rfl
  have hrw := hk.row h0 h18
  refine esp K6 ?_
  refine ent_seq fun _ K8 => ?_
  refine ent_block ?_
  refine ent_draw 17 mixed (by kernel_rfl) (by kernel_rfl) (by kernel_rfl) ?_
  refine dw_o rfl (ok_loadBS (k := 0) ti24 rfl rfl rfl) ?_
  refine dw_o rfl (ok_move rfl) ?_
  refine dw_o rfl (ok_loadBS (k := 0) ti24 rfl rfl rfl) ?_
  refine dw_o rfl (ok_move rfl) ?_
  refine dw_o rfl (ok_move rfl) ?_
  refine dw_o rfl (ok_move rfl) ?_
  refine dw_o rfl (ok_index 0 sl22 rfl rfl (by omega) (by omega)) ?_
  refine dw_o rfl (ok_load ti3 rfl) ?_
  refine dw_o rfl (ok_index 0 sl22 rfl rfl (by omega) (by omega)) ?_
  refine dw_o rfl (ok_load ti3 rfl) ?_
  refine dw_o rfl (ok_call (rNeg_ok c.F (ix 0 u (ix 0 (canP c.F c.m) i)) hk.fld.1) rfl) ?_
  refine dw_o rfl (ok_move rfl) ?_
  refine dw_o rfl (ok_move rfl) ?_
  refine dw_o rfl (ok_index [] sl25 rfl rfl (by omega) (by omega)) ?_
  refine dw_o rfl (ok_load ti22 rfl) ?_
  refine dw_o rfl (ok_call (CtrF.ctr (CtrF.sl (rAddTo_ok c.F (restC c u i.toNat) (negF c.F (ix 0 u (ix 0 (canP c.F c.m) i))) (ix [] c.Gen i) hk.fld.1 (by omega) (by omega)))) rfl) ?_
  refine dw_o rfl (ok_assign rfl) ?_
  refine dw_nil ?_
  refine enk K8 ?_
  refine ent_region ?_
  refine emm rfl ?_
  refine ent_o rfl (ok_add rfl rfl (by omega) (by omega)) ?_
  refine emm rfl ?_
  refine ent_nil ?_
  refine ent_again (s := (i)) (i + 1) ⟨(by omega), ‹_›⟩ (by omega) (ent_rep ⟨rfl, rfl, rfl, rfl, slot_av (av_sl (show addTo c.F (restC c u i.toNat) (negF c.F (ix 0 u (ix 0 (canP c.F c.m) i))) (ix [] c.Gen i) = restC c u (i + 1).toNat by exact (restC_succ c u h0).symm)), rfl, trivial⟩ rfl)
 refine ent_exit ?_
 refine ent_k K4 ?_
 refine esk rfl ?_
 refine ent_ret ?_
 exact retR1 (.inr rfl) results77 (resr_tmp (res_cv rfl (cv_sl sub_x (by rw [show i.toNat = c.Gen.length by omega]))))

theorem rRestZ_ok (c : Cod) (u : List Int) (hk : COk c) (hl : (u.length : Int) = c.N) (ho : ¬ outF c.F u) (hz : restC c u c.Gen.length = List.replicate c.N.toNat 0) : Ctr Tryz.prog 77 [aFld c.F, aSl 1 false aInts c.Gen, aSl 1 false aInt u] (aSl 1 false aInt (List.replicate c.N.toNat 0)) := by
 have h := rRest_ok c u hk hl ho
 rw [hz] at h
 exact h

theorem rInC_ok (c : Cod) (u : List Int) (hk : COk c) (hl : (u.length : Int) = c.N) (ho : ¬ outF c.F u) (hz : restC c u c.Gen.length = List.replicate c.N.toNat 0) : Ctr Tryz.prog 50 [aFld c.F, aSl 1 false aInts c.Gen, aSl 1 false aInt u] (aBool true) := by
 have hn64 := hk.n64
 refine ctr_of Tryz.call50 func50 rfl rfl ?_
 intro w O
 refine ent_lenC 0 2 rfl rfl (fun hlen0_2 => ?_)
 refine ent_len 1 rfl (fun hlen1 => ?_)
 refine ent_len 2 rfl (fun hlen2 => ?_)
 refine esr rfl fun _ K1 => ?_
 refine ent_boxS rfl rfl (AllOne.mem ⟨(one_int _), (one_int _), one_sl, trivial⟩) (fun b3_1 => ?_)
 refine emm rfl ?_
 refine enk K1 ?_
 refine esr rfl fun _ K2 => ?_
 refine ent_o rfl (ok_loadBS (k := 0) ti24 rfl rfl rfl) ?_
 refine emm rfl ?_
 refine ent_o rfl (ok_call (rRestZ_ok c u hk hl ho hz) rfl) ?_
 refine ent_o rfl (ok_call (rZero_ok c.N.toNat (by omega)) rfl) ?_
 refine emm rfl ?_
 refine enk K2 ?_
 refine ent_ret ?_
 exact retR1 (.inr rfl) results50 (resr_tmp (res_cv rfl (cv_bool rfl)))

theorem rHas_ok (c : Cod) (u : List Int) (hw : wrdE c u = 0) (hz : restC c u c.Gen.length = List.replicate c.N.toNat 0) : Ctr Tryz.prog 26 [aCod c, aSl 1 false aInt u] (aTup [aBool true, aInt 0]) := by
 have hwz := wrdE_zero.1 hw
 refine ctr_of Tryz.call26 func26 rfl rfl ?_
 intro w O
 refine ent_lenC 0 2 rfl rfl (fun hlen0_2 => ?_)
 refine ent_lenC 0 4 rfl rfl (fun hlen0_4 => ?_)
 refine ent_len 1 rfl (fun hlen1 => ?_)
 refine esr rfl fun _ K1 => ?_
 refine ent_boxS rfl rfl (AllOne.mem ⟨(one_int _), (one_int _), one_sl, (one_int _), one_sl, trivial⟩) (fun b2_1 => ?_)
 refine emm rfl ?_
 refine enk K1 ?_
 refine esr rfl fun _ K2 => ?_
 refine ent_o rfl (ok_loadBS (k := 0) ti27 rfl rfl rfl) ?_
 refine emm rfl ?_
 refine ent_o rfl (ok_call (rWord_ok c u) rfl) ?_
 refine emm rfl ?_
 refine enk K2 ?_
 refine ent_seq fun _ K3 => ?_
 refine esr rfl fun _ K4 => ?_
 refine ent_o rfl (ok_neq rfl rfl) ?_
 refine enk K4 ?_
 refine ent_condD rfl (fun h11 => ?_) (fun h11 => ?_)
 ·exact absurd hw h11
 refine esp K3 ?_
 refine esr rfl fun _ K5 => ?_
 refine ent_o rfl (ok_fieldAddrEx runUnderlying27 rfl sizeOf24 (by decide) rfl) ?_
 refine ent_o rfl (ok_loadBS (k := 0) ti24 rfl rfl rfl) ?_
 refine ent_o rfl (ok_fieldAddrEx runUnderlying27 rfl sizeOf25 (by decide) rfl) ?_
 refine ent_o rfl (ok_loadB (k := 0) isAgg25 rfl rfl rfl) ?_
 refine emm rfl ?_
 refine ent_o rfl (ok_call (rInC_ok c u hwz.1 hwz.2.1 hwz.2.2 hz) rfl) ?_
 refine emm rfl ?_
 refine enk K5 ?_
 refine ent_ret ?_
 exact retR2 (.inr rfl) results26 (resr_tmp (res_cv rfl (cv_bool rfl))) (resr_tmp (res_cv rfl (cv_int rfl)))

theorem cDec_yes (c : Cod) (ls : List Lab) (y : List Int) (h64 : ∀ t ∈ ls, -9223372036854775808 ≤ t.1 ∧ t.1 ≤ 9223372036854775807) (ho : prE c ls y true = 0) : Ctr Tryz.prog 24 [aCod c, aSl 3 true aLab ls, aSl 1 false aInt y] (aTup [aSl 1 false aInt (decW c ls y), aInt (prE c ls y true)]) := by
 have hpz := prE_zero ho
 have hws : wsE c y = 0 := hpz.1
 have hcs := ws_cs hws
 have hkk := csE_zero.1 hcs
 have hk := hkk.1
 have hn64 := hk.n64
 have hn1 := hk.n1
 have hsr := syV_rng hws
 have hyl := (wrdE_zero.1 (ws_word hws)).2.1
 have hlf := lead_facts hk hpz.2 hcs hsr.1 hsr.2
 have hll := hlf.2.2.2.2
 refine ctr_of Tryz.call24 func24 rfl rfl ?_
 intro w O
 refine ent_lenC 0 2 rfl rfl (fun hlen0_2 => ?_)
 refine ent_lenC 0 4 rfl rfl (fun hlen0_4 => ?_)
 refine ent_len 1 rfl (fun hlen1 => ?_)
 refine ent_len 2 rfl (fun hlen2 => ?_)
 refine esr rfl fun _ K1 => ?_
 refine ent_boxS rfl rfl (AllOne.mem ⟨(one_int _), (one_int _), one_sl, (one_int _), one_sl, trivial⟩) (fun b3_1 => ?_)
 refine emm rfl ?_
 refine enk K1 ?_
 refine esr rfl fun _ K2 => ?_
 refine ent_o rfl (ok_loadBS (k := 0) ti27 rfl rfl rfl) ?_
 refine emm rfl ?_
 refine ent_o rfl (ok_call (proved_ok c ls y true ho ‹_›) rfl) ?_
 refine emm rfl ?_
 refine ent_o rfl (ok_extract rfl rfl) ?_
 refine ent_o rfl (ok_extract rfl rfl) ?_
 refine emm rfl ?_
 refine enk K2 ?_
 refine ent_seq fun _ K3 => ?_
 refine esr rfl fun _ K4 => ?_
 refine ent_o rfl (ok_neq rfl rfl) ?_
 refine enk K4 ?_
 refine ent_condFP rfl (by decide) ?_
 refine esp K3 ?_
 refine esr rfl fun _ K5 => ?_
 refine ent_o rfl (ok_loadBS (k := 0) ti27 rfl rfl rfl) ?_
 refine emm rfl ?_
 refine ent_o rfl (ok_call (spof_ok c y hws) rfl) ?_
 refine ent_callN rfl (leaderN_ok c ls (syV c y) hcs hpz.2 hsr.1 hsr.2) (ArgsA.ok ⟨arg_a rfl (cv_id (sub_lent _)), arg_a rfl (cv_id (sub_lent _)), arg_a rfl (cv_id (sub_lent _)), trivial⟩) (fun r29 c29 => ?_)
 refine emm rfl ?_
 refine enk K5 ?_
 refine ent_seq fun _ K6 => ?_
 refine esr rfl fun _ K7 => ?_
 refine ent_o rfl (ok_lenEx rfl runUnderlying22 rfl) ?_
 refine emm rfl ?_
 refine enk K7 ?_
 refine ent_block ?_
 refine ent_loop (fun (i : Int) => (⟨[(2, aSl 1 false aInt y), (8, aSp c), (10, aEx (vec r29 ((leadW c ls (syV c y)).length) c29)), (30, aEx (vec r29 ((leadW c ls (syV c y)).length) c29)), (31, aInt (↑((leadW c ls (syV c y)).length) : Int)), (32, aInt i)], [oVec r29 c29 3 1 false aInt (mixL (subW c y (leadW c ls (syV c y))) (leadW c ls (syV c y)) i), oBox b3_1 27 [aInt c.F.P, aInt c.F.M, aSl 1 false aInt c.F.mod, aInt c.N, aSl 1 false aInts c.Gen]]⟩ : St)) (fun (i : Int) => (0 ≤ i) ∧ (i ≤ c.N)) (fun (i : Int) => (c.N - i).toNat) 0 ⟨(by omega), (by omega)⟩ (ent_rep ⟨rfl, rfl, rfl, rfl, rfl, slot_av (av_int (show 0 = (0 : Int) by rfl)), trivial⟩ (own_cons (own_vec (show mixL (subW c y (leadW c ls (syV c y))) (leadW c ls (syV c y)) (0 : Int) = leadW c ls (syV c y) by exact mixL_zero _ _)) (rfl))) ?_
 rintro i ⟨h0, h1⟩
 show Ent _ ⟨_, [_, _]⟩ _
 have lsw : (subW c y (leadW c ls (syV c y))).length = (leadW c ls (syV c y)).length := by unfold subW; rw [length_mapR]; omega
 have lmx : (mixL (subW c y (leadW c ls (syV c y))) (leadW c ls (syV c y)) i).length = (leadW c ls (syV c y)).length := by rw [length_mixL _ _ lsw]
 refine esr rfl fun _ K8 => ?_
 refine ent_o rfl (ok_lss rfl rfl) ?_
 refine enk K8 ?_
 refine ent_seq fun _ K9 => ?_
 refine ent_condD rfl (fun h33 => ?_) (fun h33 => ?_)
 ·refine esp K9 ?_
  refine ent_seq fun _ K10 => ?_
  refine ent_block ?_
  refine esr rfl fun _ K11 => ?_
  refine ent_rsome 0 rfl (by omega) (fun b35_2 hb35_2 => ?_)
  subst hb35_2
  refine ent_o rfl (ok_indexV sl22 rfl rfl (by omega) (by omega)) ?_
  refine ent_o rfl (ok_loadV (k := 0) 0 ti3 rfl rfl (by omega) (by omega)) ?_
  refine emm rfl ?_
  refine enk K11 ?_
  refine ent_draw 13 mixed (by kernel_rfl) (by kernel_rfl) (by kernel_rfl) ?_
  refine dw_o rfl (ok_move rfl) ?_
  refine dw_o rfl (ok_move rfl) ?_
  refine dw_o rfl (ok_move rfl) ?_
  refine dw_o rfl (ok_nilCheck rfl) ?_
  refine dw_o rfl (ok_fieldAddr1 runUnderlying70 rfl sizeOf68 rfl rfl) ?_
  refine dw_o rfl (ok_load ti68 rfl) ?_
  refine dw_o rfl (ok_move rfl) ?_
  refine dw_o rfl (ok_move rfl) ?_
  refine dw_o rfl (ok_index 0 sl22 rfl rfl (by omega) (by omega)) ?_
  refine dw_o rfl (ok_load ti3 rfl) ?_
  refine dw_o rfl (ok_move rfl) ?_
  refine dw_o rfl (ok_call (Sub_ok c.F (ix 0 y i) (ix 0 (mixL (subW c y (leadW c ls (syV c y))) (leadW c ls (syV c y)) i) i) hk.fld) rfl) ?_
  refine dw_o rfl (ok_indexV sl22 rfl rfl (by omega) (by omega)) ?_
  refine dw_nil ?_
  refine ent_storeV (k := 0) (z := addF c.F (ix 0 y i) (negF c.F (ix 0 (mixL (subW c y (leadW c ls (syV c y))) (leadW c ls (syV c y)) i) i))) ti3 rfl rfl rfl (elem_one (one_int _)) (by omega) (by omega) ?_
  refine enk K10 ?_
  refine ent_region ?_
  refine ent_o rfl (ok_add rfl rfl (by omega) (by omega)) ?_
  refine emm rfl ?_
  refine ent_nil ?_
  refine ent_again (s := (i)) (i + 1) ⟨(by omega), (by omega)⟩ (by omega) (ent_rep ⟨rfl, rfl, slot_av (av_vec rfl), slot_av (av_vec rfl), rfl, rfl, trivial⟩ (own_cons (own_vec (show mixL (subW c y (leadW c ls (syV c y))) (leadW c ls (syV c y)) (i + 1) = List.set (mixL (subW c y (leadW c ls (syV c y))) (leadW c ls (syV c y)) i) (i).toNat (addF c.F (ix 0 y i) (negF c.F (ix 0 (mixL (subW c y (leadW c ls (syV c y))) (leadW c ls (syV c y)) i) i))) by exact (subW_set h0 (by omega) hll).symm)) (rfl)))
 refine ent_exit ?_
 refine ent_k K6 ?_
 refine esk rfl ?_
 refine ent_ret ?_
 exact retR2 (.inr rfl) results24 (resr_tmp (res_cv rfl (cv_vec (k := 0) (off_x rfl) (by simp_all) (by unfold decW; rw [if_pos ho]; exact mixL_all _ _ (by unfold subW; rw [length_mapR]; omega) (by omega))))) (resr_tmp (res_cv rfl (cv_int (by exact ho.symm))))

theorem cDec_no (c : Cod) (ls : List Lab) (y : List Int) (h64 : ∀ t ∈ ls, -9223372036854775808 ≤ t.1 ∧ t.1 ≤ 9223372036854775807) (ho : prE c ls y true ≠ 0) : Ctr Tryz.prog 24 [aCod c, aSl 3 true aLab ls, aSl 1 false aInt y] (aTup [aSl 1 false aInt (decW c ls y), aInt (prE c ls y true)]) := by
 refine ctr_of Tryz.call24 func24 rfl rfl ?_
 intro w O
 refine ent_lenC 0 2 rfl rfl (fun hlen0_2 => ?_)
 refine ent_lenC 0 4 rfl rfl (fun hlen0_4 => ?_)
 refine ent_len 1 rfl (fun hlen1 => ?_)
 refine ent_len 2 rfl (fun hlen2 => ?_)
 refine esr rfl fun _ K1 => ?_
 refine ent_boxS rfl rfl (AllOne.mem ⟨(one_int _), (one_int _), one_sl, (one_int _), one_sl, trivial⟩) (fun b3_1 => ?_)
 refine emm rfl ?_
 refine enk K1 ?_
 refine esr rfl fun _ K2 => ?_
 refine ent_o rfl (ok_loadBS (k := 0) ti27 rfl rfl rfl) ?_
 refine emm rfl ?_
 refine ent_o rfl (ok_call (proved_no c ls y true ho ‹_›) rfl) ?_
 refine emm rfl ?_
 refine ent_o rfl (ok_extract rfl rfl) ?_
 refine ent_o rfl (ok_extract rfl rfl) ?_
 refine emm rfl ?_
 refine enk K2 ?_
 refine ent_seq fun _ K3 => ?_
 refine esr rfl fun _ K4 => ?_
 refine ent_o rfl (ok_neq rfl rfl) ?_
 refine enk K4 ?_
 refine ent_condD rfl (fun h21 => ?_) (fun h21 => ?_)
 ·refine esk rfl ?_
  refine ent_ret ?_
  exact retR2 (.inr rfl) results24 (resr_tmp (res_cv rfl (cv_nil (fun _ => rfl) (by unfold decW; rw [if_neg ho])))) (resr_tmp (res_cv rfl (cv_int rfl)))
 exact absurd (Classical.not_not.1 h21) ho

theorem cDec_ok (c : Cod) (ls : List Lab) (y : List Int) (h64 : ∀ t ∈ ls, -9223372036854775808 ≤ t.1 ∧ t.1 ≤ 9223372036854775807) : Ctr Tryz.prog 24 [aCod c, aSl 3 true aLab ls, aSl 1 false aInt y] (aTup [aSl 1 false aInt (decW c ls y), aInt (prE c ls y true)]) := by
 by_cases ho : prE c ls y true = 0
 ·exact cDec_yes c ls y h64 ho
 exact cDec_no c ls y h64 ho
end Go.Proofs.YtcilbmggiahciaaGreat

