/-
  The greatest flow; the worst history; Cut.
-/
import Derived.Test.YtaipghchkamajaaProg
import Derived.Test.YtaipghchkamajaaTab
import Derived.Test.YtaipghchkamajaaPlainFx
import Derived.Test.YtaipghchkamajaaCz
import Derived.Test.YtaipghchkamajaaLists
import Derived.Test.YtaipghchkamajaaGraph
import Derived.Test.YtaipghchkamajaaReach
open Go Go.Cw
namespace Go.Proofs.Ytaipghchkamajaa
set_option maxRecDepth 100000
set_option linter.unusedVariables false
set_option linter.unusedSimpArgs false
theorem Cut_ok (k d a b : Int)  : Ctr Try.prog 16 [aInt k, aInt d, aInt a, aInt b] (aTup [aInt (if cutBad k d a b then 0 else cutSum d a b k.toNat), aInt (if cutBad k d a b then 6 else 0)]) := by
  refine ctr_of Try.call16 Try.func16 rfl rfl ?_
  intro w O
  refine ent_seq fun K1 hK1 => ?_
  refine ent_region ?_
  refine ent_o rfl (ok_assign rfl) ?_
  refine ent_o rfl (ok_assign rfl) ?_
  refine ent_nil ?_
  refine ent_k hK1 ?_
  refine ent_seq fun K2 hK2 => ?_
  refine ent_seq fun K3 hK3 => ?_
  refine ent_cut (⟨[(0, aInt k), (1, aInt d), (2, aInt a), (3, aInt b), (38, aBool (decide (((((((k < 1) ∨ (d < k)) ∨ (64 < d)) ∨ (a < 0)) ∨ (1048576 < a)) ∨ (b < 0)) ∨ (1048576 < b))))], []⟩) ?_ ?_
  · refine ent_region ?_
    refine ent_o rfl (ok_move rfl) ?_
    refine ent_o rfl (ok_lss rfl rfl) ?_
    refine ent_o rfl (ok_move rfl) ?_
    refine ent_guardXDf rfl rfl rfl rfl (fun hg14 => ?_) (fun hg14 => ?_)
    · refine ent_o rfl (ok_move rfl) ?_
      refine ent_guardXT rfl rfl rfl rfl (decide_eq_false hg14) ?_
      refine ent_o rfl (ok_move rfl) ?_
      refine ent_guardXT rfl rfl rfl rfl (decide_eq_false hg14) ?_
      refine ent_o rfl (ok_gtr rfl rfl) ?_
      refine ent_o rfl (ok_pickF rfl (decide_eq_false hg14) rfl) ?_
      refine ent_o rfl (ok_move rfl) ?_
      refine ent_guardXDf rfl rfl rfl rfl (fun hg19 => ?_) (fun hg19 => ?_)
      · refine ent_o rfl (ok_move rfl) ?_
        refine ent_guardXT rfl rfl rfl rfl (decide_eq_false hg19) ?_
        refine ent_o rfl (ok_gtr rfl rfl) ?_
        refine ent_o rfl (ok_pickF rfl (decide_eq_false hg19) rfl) ?_
        refine ent_o rfl (ok_move rfl) ?_
        refine ent_guardXDf rfl rfl rfl rfl (fun hg23 => ?_) (fun hg23 => ?_)
        · refine ent_o rfl (ok_move rfl) ?_
          refine ent_guardXT rfl rfl rfl rfl (decide_eq_false hg23) ?_
          refine ent_o rfl (ok_lss rfl rfl) ?_
          refine ent_o rfl (ok_pickF rfl (decide_eq_false hg23) rfl) ?_
          refine ent_o rfl (ok_move rfl) ?_
          refine ent_guardXDf rfl rfl rfl rfl (fun hg27 => ?_) (fun hg27 => ?_)
          · refine ent_o rfl (ok_move rfl) ?_
            refine ent_guardXT rfl rfl rfl rfl (decide_eq_false hg27) ?_
            refine ent_o rfl (ok_gtr rfl rfl) ?_
            refine ent_o rfl (ok_pickF rfl (decide_eq_false hg27) rfl) ?_
            refine ent_o rfl (ok_move rfl) ?_
            refine ent_guardXDf rfl rfl rfl rfl (fun hg31 => ?_) (fun hg31 => ?_)
            · refine ent_o rfl (ok_move rfl) ?_
              refine ent_guardXT rfl rfl rfl rfl (decide_eq_false hg31) ?_
              refine ent_o rfl (ok_lss rfl rfl) ?_
              refine ent_o rfl (ok_pickF rfl (decide_eq_false hg31) rfl) ?_
              refine ent_o rfl (ok_move rfl) ?_
              refine ent_guardXDf rfl rfl rfl rfl (fun hg35 => ?_) (fun hg35 => ?_)
              · refine ent_o rfl (ok_move rfl) ?_
                refine ent_guardXT rfl rfl rfl rfl (decide_eq_false hg35) ?_
                refine ent_o rfl (ok_gtr rfl rfl) ?_
                refine ent_o rfl (ok_pickF rfl (decide_eq_false hg35) rfl) ?_
                refine ent_nil ?_
                exact ent_rep ⟨rfl, rfl, rfl, rfl, slot_bool (dq_Q ((or_iff_right (fun h => h.elim (fun h => h.elim (fun h => h.elim (fun h => h.elim (fun h => h.elim hg14 hg19) hg23) hg27) hg31) hg35)).trans Iff.rfl)), trivial⟩ rfl
              · refine ent_guardXF rfl rfl rfl rfl (decide_eq_true hg35) ?_
                refine ent_o rfl (ok_pickT rfl (decide_eq_true hg35) rfl) ?_
                refine ent_nil ?_
                exact ent_rep ⟨rfl, rfl, rfl, rfl, slot_bool (dq_T rfl (Or.inl (Or.inr hg35))), trivial⟩ rfl
            · refine ent_guardXF rfl rfl rfl rfl (decide_eq_true hg31) ?_
              refine ent_o rfl (ok_pickT rfl (decide_eq_true hg31) rfl) ?_
              refine ent_o rfl (ok_move rfl) ?_
              refine ent_guardXF rfl rfl rfl rfl rfl ?_
              refine ent_guardXF rfl rfl rfl rfl rfl ?_
              refine ent_o rfl (ok_pickT rfl rfl rfl) ?_
              refine ent_nil ?_
              exact ent_rep ⟨rfl, rfl, rfl, rfl, slot_bool (dq_T rfl (Or.inl (Or.inl (Or.inr hg31)))), trivial⟩ rfl
          · refine ent_guardXF rfl rfl rfl rfl (decide_eq_true hg27) ?_
            refine ent_o rfl (ok_pickT rfl (decide_eq_true hg27) rfl) ?_
            refine ent_o rfl (ok_move rfl) ?_
            refine ent_guardXF rfl rfl rfl rfl rfl ?_
            refine ent_guardXF rfl rfl rfl rfl rfl ?_
            refine ent_o rfl (ok_pickT rfl rfl rfl) ?_
            refine ent_o rfl (ok_move rfl) ?_
            refine ent_guardXF rfl rfl rfl rfl rfl ?_
            refine ent_guardXF rfl rfl rfl rfl rfl ?_
            refine ent_o rfl (ok_pickT rfl rfl rfl) ?_
            refine ent_nil ?_
            exact ent_rep ⟨rfl, rfl, rfl, rfl, slot_bool (dq_T rfl (Or.inl (Or.inl (Or.inl (Or.inr hg27))))), trivial⟩ rfl
        · refine ent_guardXF rfl rfl rfl rfl (decide_eq_true hg23) ?_
          refine ent_o rfl (ok_pickT rfl (decide_eq_true hg23) rfl) ?_
          refine ent_o rfl (ok_move rfl) ?_
          refine ent_guardXF rfl rfl rfl rfl rfl ?_
          refine ent_guardXF rfl rfl rfl rfl rfl ?_
          refine ent_o rfl (ok_pickT rfl rfl rfl) ?_
          refine ent_o rfl (ok_move rfl) ?_
          refine ent_guardXF rfl rfl rfl rfl rfl ?_
          refine ent_guardXF rfl rfl rfl rfl rfl ?_
          refine ent_o rfl (ok_pickT rfl rfl rfl) ?_
          refine ent_o rfl (ok_move rfl) ?_
          refine ent_guardXF rfl rfl rfl rfl rfl ?_
          refine ent_guardXF rfl rfl rfl rfl rfl ?_
          refine ent_o rfl (ok_pickT rfl rfl rfl) ?_
          refine ent_nil ?_
          exact ent_rep ⟨rfl, rfl, rfl, rfl, slot_bool (dq_T rfl (Or.inl (Or.inl (Or.inl (Or.inl (Or.inr hg23)))))), trivial⟩ rfl
      · refine ent_guardXF rfl rfl rfl rfl (decide_eq_true hg19) ?_
        refine ent_o rfl (ok_pickT rfl (decide_eq_true hg19) rfl) ?_
        refine ent_o rfl (ok_move rfl) ?_
        refine ent_guardXF rfl rfl rfl rfl rfl ?_
        refine ent_guardXF rfl rfl rfl rfl rfl ?_
        refine ent_o rfl (ok_pickT rfl rfl rfl) ?_
        refine ent_o rfl (ok_move rfl) ?_
        refine ent_guardXF rfl rfl rfl rfl rfl ?_
        refine ent_guardXF rfl rfl rfl rfl rfl ?_
        refine ent_o rfl (ok_pickT rfl rfl rfl) ?_
        refine ent_o rfl (ok_move rfl) ?_
        refine ent_guardXF rfl rfl rfl rfl rfl ?_
        refine ent_guardXF rfl rfl rfl rfl rfl ?_
        refine ent_o rfl (ok_pickT rfl rfl rfl) ?_
        refine ent_o rfl (ok_move rfl) ?_
        refine ent_guardXF rfl rfl rfl rfl rfl ?_
        refine ent_guardXF rfl rfl rfl rfl rfl ?_
        refine ent_o rfl (ok_pickT rfl rfl rfl) ?_
        refine ent_nil ?_
        exact ent_rep ⟨rfl, rfl, rfl, rfl, slot_bool (dq_T rfl (Or.inl (Or.inl (Or.inl (Or.inl (Or.inl (Or.inr hg19))))))), trivial⟩ rfl
    · refine ent_guardXF rfl rfl rfl rfl (decide_eq_true hg14) ?_
      refine ent_guardXF rfl rfl rfl rfl (decide_eq_true hg14) ?_
      refine ent_o rfl (ok_pickT rfl (decide_eq_true hg14) rfl) ?_
      refine ent_o rfl (ok_move rfl) ?_
      refine ent_guardXF rfl rfl rfl rfl rfl ?_
      refine ent_guardXF rfl rfl rfl rfl rfl ?_
      refine ent_o rfl (ok_pickT rfl rfl rfl) ?_
      refine ent_o rfl (ok_move rfl) ?_
      refine ent_guardXF rfl rfl rfl rfl rfl ?_
      refine ent_guardXF rfl rfl rfl rfl rfl ?_
      refine ent_o rfl (ok_pickT rfl rfl rfl) ?_
      refine ent_o rfl (ok_move rfl) ?_
      refine ent_guardXF rfl rfl rfl rfl rfl ?_
      refine ent_guardXF rfl rfl rfl rfl rfl ?_
      refine ent_o rfl (ok_pickT rfl rfl rfl) ?_
      refine ent_o rfl (ok_move rfl) ?_
      refine ent_guardXF rfl rfl rfl rfl rfl ?_
      refine ent_guardXF rfl rfl rfl rfl rfl ?_
      refine ent_o rfl (ok_pickT rfl rfl rfl) ?_
      refine ent_o rfl (ok_move rfl) ?_
      refine ent_guardXF rfl rfl rfl rfl rfl ?_
      refine ent_guardXF rfl rfl rfl rfl rfl ?_
      refine ent_o rfl (ok_pickT rfl rfl rfl) ?_
      refine ent_nil ?_
      exact ent_rep ⟨rfl, rfl, rfl, rfl, slot_bool (dq_T rfl (Or.inl (Or.inl (Or.inl (Or.inl (Or.inl (Or.inl hg14))))))), trivial⟩ rfl
  refine ent_k hK3 ?_
  refine ent_condD rfl (fun h38 => ?_) (fun h38 => ?_)
  · have hcb : cutBad k d a b := by unfold cutBad; omega
    refine ent_seq fun K4 hK4 => ?_
    refine ent_region ?_
    refine ent_o rfl (ok_assign rfl) ?_
    refine ent_o rfl (ok_assign rfl) ?_
    refine ent_nil ?_
    refine ent_k hK4 ?_
    refine ent_ret ?_
    exact retR2 (.inr rfl) Try.results16 (resr_tmp (res_cv rfl (cv_int (by rw [if_pos hcb])))) (resr_tmp (res_cv rfl (cv_int (by rw [if_pos hcb]))))
  · have hcb : ¬ cutBad k d a b := by unfold cutBad; omega
    have hcb2 := hcb
    unfold cutBad at hcb2
    refine ent_skip ?_
    refine ent_k hK2 ?_
    refine ent_seq fun K5 hK5 => ?_
    refine ent_region ?_
    refine ent_o rfl (ok_assign rfl) ?_
    refine ent_nil ?_
    refine ent_k hK5 ?_
    refine ent_seq fun K6 hK6 => ?_
    refine ent_seq fun K7 hK7 => ?_
    refine ent_region ?_
    refine ent_o rfl (ok_move rfl) ?_
    refine ent_o rfl (ok_move rfl) ?_
    refine ent_nil ?_
    refine ent_k hK7 ?_
    refine ent_block ?_
    refine ent_loop (fun (i : Int) => (⟨[(1, aInt d), (2, aInt a), (3, aInt b), (10, aInt (cutSum d a b i.toNat)), (39, aInt k), (40, aInt i)], []⟩ : St)) (fun (i : Int) => (0 ≤ i) ∧ (i ≤ k)) (fun (i : Int) => (k - i).toNat) 0 ⟨(by first | rfl | assumption | omega | (simp_all; done) | grind), (by first | rfl | assumption | omega | (simp_all; done) | grind)⟩ (ent_rep ⟨rfl, rfl, rfl, slot_av (av_int (show 0 = cutSum d a b (0 : Int).toNat by first | rfl | assumption | omega | (simp_all; done) | grind)), rfl, slot_av (av_int (show 0 = (0 : Int) by first | rfl | assumption | omega | (simp_all; done) | grind)), trivial⟩ rfl) ?_
    rintro i ⟨h0, h1⟩
    show Ent _ (⟨[(1, aInt d), (2, aInt a), (3, aInt b), (10, aInt (cutSum d a b i.toNat)), (39, aInt k), (40, aInt i)], []⟩ : St) _
    refine ent_seq fun K8 hK8 => ?_
    refine ent_region ?_
    refine ent_o rfl (ok_lss rfl rfl) ?_
    refine ent_nil ?_
    refine ent_k hK8 ?_
    refine ent_seq fun K9 hK9 => ?_
    refine ent_condD rfl (fun h41 => ?_) (fun h41 => ?_)
    · obtain ⟨⟨m1, m2⟩, ⟨m3, m4⟩, m5, m6⟩ := cut_step k d a b i hcb h0 h41
      have hs := cutSum_succ d a b i h0
      refine ent_skip ?_
      refine ent_k hK9 ?_
      refine ent_seq fun K10 hK10 => ?_
      refine ent_block ?_
      refine ent_seq fun K11 hK11 => ?_
      refine ent_region ?_
      refine ent_o rfl (ok_move rfl) ?_
      refine ent_o rfl (ok_assign rfl) ?_
      refine ent_nil ?_
      refine ent_k hK11 ?_
      refine ent_region ?_
      refine ent_o rfl (ok_move rfl) ?_
      refine ent_o rfl (ok_move rfl) ?_
      refine ent_o rfl (ok_move rfl) ?_
      refine ent_o rfl (ok_move rfl) ?_
      refine ent_o rfl (ok_sub rfl rfl (by omega) (by omega)) ?_
      refine ent_o rfl (ok_move rfl) ?_
      refine ent_o rfl (ok_mul rfl rfl (by omega) (by omega)) ?_
      refine ent_o rfl (ok_min rfl rfl) ?_
      refine ent_o rfl (ok_add rfl rfl (by omega) (by omega)) ?_
      refine ent_o rfl (ok_assign rfl) ?_
      refine ent_nil ?_
      refine ent_k hK10 ?_
      refine ent_region ?_
      refine ent_o rfl (ok_add rfl rfl (by omega) (by omega)) ?_
      refine ent_o rfl (ok_move rfl) ?_
      refine ent_nil ?_
      refine ent_again (s := (i)) (i + 1) ⟨(by first | rfl | assumption | omega | (simp_all; done) | grind), (by first | rfl | assumption | omega | (simp_all; done) | grind)⟩ (by first | omega | (dsimp only; omega)) (ent_rep ⟨rfl, rfl, rfl, slot_av (av_int (show (cutSum d a b i.toNat) + (min a ((d - i) * b)) = cutSum d a b (i + 1).toNat by rw [hs])), rfl, rfl, trivial⟩ rfl)
    · refine ent_exit ?_
      refine ent_k hK6 ?_
      refine ent_seq fun K12 hK12 => ?_
      refine ent_region ?_
      refine ent_o rfl (ok_move rfl) ?_
      refine ent_o rfl (ok_assign rfl) ?_
      refine ent_o rfl (ok_assign rfl) ?_
      refine ent_nil ?_
      refine ent_k hK12 ?_
      refine ent_ret ?_
      exact retR2 (.inr rfl) Try.results16 (resr_tmp (res_cv rfl (cv_int (by rw [if_neg hcb, show i = k by omega])))) (resr_tmp (res_cv rfl (cv_int (by rw [if_neg hcb]))))

theorem path_ok (V s t : Int) (A : List Arc3) (l stp : List Int) (hN : NetOk V A) (hr : RchOk V A l s stp) (t0 : 0 ≤ t) (t1 : t < V) (ht : ix 0 stp t ≠ -2) : CtrF Try.prog 51 [aAgg [aInt V, aSl 3 true aArc A], aSl 1 false aInt stp, aInt t] (aExi (fun (p : List Int) => PathOk A l s t p) (fun (p : List Int) => aSl 1 false aInt p)) := by
  obtain ⟨Qq, hB⟩ := hr.q
  have htq := (hB.mem t t0 t1).1 ht
  have hsl := hB.len
  have hfewA := hN.few
  refine ctrF_of Try.call51 Try.func51 rfl rfl ?_
  intro w O
  refine ent_lenC 0 1 rfl rfl (fun hlen0_1 => ?_)
  refine ent_len 1 rfl (fun hlen1 => ?_)
  refine ent_seq fun K1 hK1 => ?_
  refine ent_region ?_
  refine ent_boxS rfl rfl (AllOne.mem ⟨(one_int _), one_sl, trivial⟩) (fun b3_1 => ?_)
  refine ent_o rfl (ok_assign rfl) ?_
  refine ent_nil ?_
  refine ent_k hK1 ?_
  refine ent_seq fun K2 hK2 => ?_
  refine ent_region ?_
  refine ent_buildN aInt [] rfl vt29 (by decide) (rfl) rfl (fun b10_2 => ?_)
  refine ent_o rfl (ok_assign rfl) ?_
  refine ent_nil ?_
  refine ent_k hK2 ?_
  refine ent_seq fun K3 hK3 => ?_
  refine ent_seq fun K4 hK4 => ?_
  refine ent_region ?_
  refine ent_o rfl (ok_move rfl) ?_
  refine ent_o rfl (ok_assign rfl) ?_
  refine ent_nil ?_
  refine ent_k hK4 ?_
  refine ent_block ?_
  refine ent_loop (fun (ss : Int × List Int × Option Nat × Nat) => match ss with | (v, p, rr3, cc3) => (⟨[(1, aSl 1 false aInt stp), (3, aEx (.pointer (some ⟨b3_1, 0, none⟩))), (7, aEx (vec rr3 ((p).length) cc3)), (8, aInt v)], [oVec rr3 cc3 3 1 false aInt p, oBox b3_1 32 [aInt V, aSl 3 true aArc A]]⟩ : St)) (fun (ss : Int × List Int × Option Nat × Nat) => match ss with | (v, p, rr3, cc3) => (SegOk A l Qq t v p)) (fun (ss : Int × List Int × Option Nat × Nat) => match ss with | (v, p, rr3, cc3) => Qq.idxOf v) (t, [], (some b10_2), 0) (SegOk.zero A l htq) (ent_rep ⟨rfl, rfl, slot_av (av_vec (congrArg List.length (show [] = [] by first | rfl | assumption | omega | (simp_all; done) | grind).symm)), rfl, trivial⟩ rfl) ?_
  rintro ⟨v, p, rr3, cc3⟩ hs
  show Ent _ (⟨[(1, aSl 1 false aInt stp), (3, aEx (.pointer (some ⟨b3_1, 0, none⟩))), (7, aEx (vec rr3 ((p).length) cc3)), (8, aInt v)], [oVec rr3 cc3 3 1 false aInt p, oBox b3_1 32 [aInt V, aSl 3 true aArc A]]⟩ : St) _
  have hvr := hB.rng v hs.mem
  have hpl := hs.len
  refine ent_seq fun K5 hK5 => ?_
  refine ent_seq fun K6 hK6 => ?_
  refine ent_region ?_
  refine ent_o rfl (ok_move rfl) ?_
  refine ent_o rfl (ok_move rfl) ?_
  refine ent_o rfl (ok_index 0 sl29 rfl rfl (by omega) (by omega)) ?_
  refine ent_o rfl (ok_load ti3 rfl) ?_
  refine ent_o rfl (ok_geq rfl rfl) ?_
  refine ent_nil ?_
  refine ent_k hK6 ?_
  refine ent_condD rfl (fun h16 => ?_) (fun h16 => ?_)
  · have hvs : v ≠ s := fun e => by rw [e, hB.root] at h16; omega
    have htr := (hB.tree v hs.mem hvs).1
    refine ent_skip ?_
    refine ent_k hK5 ?_
    refine ent_block ?_
    refine ent_seq fun K7 hK7 => ?_
    refine ent_region ?_
    refine ent_o rfl (ok_move rfl) ?_
    refine ent_o rfl (ok_move rfl) ?_
    refine ent_o rfl (ok_move rfl) ?_
    refine ent_o rfl (ok_index 0 sl29 rfl rfl (by omega) (by omega)) ?_
    refine ent_o rfl (ok_load ti3 rfl) ?_
    refine ent_appendL (k := 0) (enc := aInt) (y := ix 0 stp v) rfl rfl vt29 rfl rfl (by first | rfl | assumption | (simp; done) | (simp_all; done) | omega) rfl ((elem_one (one_int _))) (by first | omega | (simp only [List.length_append, List.length_cons, List.length_nil]; omega) | (simp; omega)) (by first | omega | (simp only [List.length_append, List.length_cons, List.length_nil]; omega) | (simp; omega)) (by decide) (fun b23_4 c23_4 => ?_)
    refine ent_o rfl (ok_assign rfl) ?_
    refine ent_nil ?_
    refine ent_k hK7 ?_
    refine ent_seq fun K8 hK8 => ?_
    refine ent_drawB1 (T := 89) (As := [aInt 0, aInt 0, aInt 0]) 10 [] 9 [(32, aAgg [aInt ((ix (0, 0, 0) A ((ix 0 stp v) / 2)).1), aInt ((ix (0, 0, 0) A ((ix 0 stp v) / 2)).2.1), aInt ((ix (0, 0, 0) A ((ix 0 stp v) / 2)).2.2)])] [(1, aSl 1 false aInt stp), (3, aEx (.pointer (some ⟨b3_1, 0, none⟩))), (7, aEx (vec (some b23_4) ((p ++ [ix 0 stp v]).length) c23_4)), (8, aInt v)] mixed (by kernel_rfl) (by kernel_rfl) (by kernel_rfl) (by kernel_rfl) (by kernel_rfl) (fun _ _ _ _ _ h => h) (AllPl.mem ⟨pl_ex, pl_ex, pl_ex, trivial⟩) (AllPlS.mem ⟨pl_agg ⟨pl_ex, pl_ex, pl_ex, trivial⟩, trivial⟩) ⟨rfl, rfl, rfl, rfl, trivial⟩ (by kernel_rfl) (fun w => ?_) (fun b9_5 => ?_)
    · refine dw_o rfl (ok_fieldAddrEx Try.runUnderlying32 rfl Try.sizeOf30 (by decide) rfl) ?_
      refine dw_o rfl (ok_loadB (k := 1) Try.isAgg30 rfl rfl rfl) ?_
      refine dw_o rfl (ok_move rfl) ?_
      refine dw_o rfl (ok_move rfl) ?_
      refine dw_o rfl (ok_index 0 sl29 rfl rfl (by omega) (by omega)) ?_
      refine dw_o rfl (ok_load ti3 rfl) ?_
      refine dw_o rfl (ok_quo rfl rfl (by omega) (by omega) (by omega)) ?_
      refine dw_o rfl (ok_index (0, 0, 0) sl30 rfl rfl (by omega) (by omega)) ?_
      refine dw_o rfl (ok_load ti89 rfl) ?_
      refine dw_o rfl (ok_allocF (z := .agg #[.int .i64 0, .int .i64 0, .int .i64 0]) [aInt 0, aInt 0, aInt 0] zv89 rfl zc89) ?_
      exact ⟨rfl, ⟨rfl, trivial⟩⟩
    refine ent_storeBS (k := 0) Try.sizeOf89 rfl rfl rfl (AllOne.mem ⟨(one_int _), (one_int _), (one_int _), trivial⟩) rfl rfl ?_
    show Ent _ (⟨_, [oBox b9_5 89 [aInt ((ix (0, 0, 0) A ((ix 0 stp v) / 2)).1), aInt ((ix (0, 0, 0) A ((ix 0 stp v) / 2)).2.1), aInt ((ix (0, 0, 0) A ((ix 0 stp v) / 2)).2.2)], oVec (some b23_4) c23_4 3 1 false aInt (p ++ [ix 0 stp v]), oBox b3_1 32 [aInt V, aSl 3 true aArc A]]⟩ : St) _
    refine ent_nil ?_
    refine ent_k hK8 ?_
    refine ent_seq fun K9 hK9 => ?_
    refine ent_region ?_
    refine ent_o rfl (ok_move rfl) ?_
    refine ent_o rfl (ok_move rfl) ?_
    refine ent_o rfl (ok_index 0 sl29 rfl rfl (by omega) (by omega)) ?_
    refine ent_o rfl (ok_load ti3 rfl) ?_
    refine ent_o rfl (ok_rem rfl rfl (by omega) (by omega)) ?_
    refine ent_o rfl (ok_eql rfl rfl) ?_
    refine ent_nil ?_
    refine ent_k hK9 ?_
    refine ent_condD rfl (fun h38 => ?_) (fun h38 => ?_)
    · refine ent_region ?_
      refine ent_o rfl (ok_fieldAddrEx Try.runUnderlying89 rfl Try.sizeOf3 (by decide) rfl) ?_
      refine ent_o rfl (ok_loadB (k := 0) Try.isAgg3 rfl rfl rfl) ?_
      refine ent_o rfl (ok_assign rfl) ?_
      refine ent_nil ?_
      refine ent_drop 0 ?_
      refine ent_again (s := (v, p, rr3, cc3)) ((ix (0, 0, 0) A ((ix 0 stp v) / 2)).1, p ++ [ix 0 stp v], (some b23_4), c23_4) (by have q := hs.step hB h16; unfold cTail at q; first | (rw [if_neg (by omega)] at q; exact q) | (rw [if_pos (by omega)] at q; exact q)) (by have q := (hB.tree v hs.mem hvs).2.2.2.2; unfold cTail at q; first | (rw [if_neg (by omega)] at q; exact q) | (rw [if_pos (by omega)] at q; exact q)) (ent_rep ⟨rfl, rfl, slot_av (av_vec (congrArg List.length (show (p ++ [ix 0 stp v]) = p ++ [ix 0 stp v] by first | rfl | assumption | omega | (simp_all; done) | grind).symm)), rfl, trivial⟩ rfl)
    · refine ent_region ?_
      refine ent_o rfl (ok_fieldAddrEx Try.runUnderlying89 rfl Try.sizeOf3 (by decide) rfl) ?_
      refine ent_o rfl (ok_loadB (k := 0) Try.isAgg3 rfl rfl rfl) ?_
      refine ent_o rfl (ok_assign rfl) ?_
      refine ent_nil ?_
      refine ent_drop 0 ?_
      refine ent_again (s := (v, p, rr3, cc3)) ((ix (0, 0, 0) A ((ix 0 stp v) / 2)).2.1, p ++ [ix 0 stp v], (some b23_4), c23_4) (by have q := hs.step hB h16; unfold cTail at q; first | (rw [if_neg (by omega)] at q; exact q) | (rw [if_pos (by omega)] at q; exact q)) (by have q := (hB.tree v hs.mem hvs).2.2.2.2; unfold cTail at q; first | (rw [if_neg (by omega)] at q; exact q) | (rw [if_pos (by omega)] at q; exact q)) (ent_rep ⟨rfl, rfl, slot_av (av_vec (congrArg List.length (show (p ++ [ix 0 stp v]) = p ++ [ix 0 stp v] by first | rfl | assumption | omega | (simp_all; done) | grind).symm)), rfl, trivial⟩ rfl)
  · refine ent_exit ?_
    refine ent_k hK3 ?_
    refine ent_seq fun K10 hK10 => ?_
    refine ent_region ?_
    refine ent_o rfl (ok_move rfl) ?_
    refine ent_o rfl (ok_assign rfl) ?_
    refine ent_nil ?_
    refine ent_k hK10 ?_
    refine ent_ret ?_
    exact retR1 (.inr rfl) Try.results51 (resr_tmp (res_cv rfl (cv_exi (p) (PathOk.of hB hs (by omega)) (cvF_vec (k := 0) flat_int rfl rfl (by first | rfl | assumption | (simp; done) | (simp_all; done) | omega) (by rfl)))))

set_option maxHeartbeats 1000000 in
theorem Max_ok (V s t : Int) (A : List Arc3) (hN : NetOk V A) (s0 : 0 ≤ s) (s1 : s < V) (t0 : 0 ≤ t) (t1 : t < V) (hst : s ≠ t) : Ctr Try.prog 24 [aAgg [aInt V, aSl 3 true aArc A], aInt s, aInt t] (aExi (fun (mv : Int) => MaxVal A s t mv) (fun (mv : Int) => aAgg [aInt mv, aAny, aAny])) := by
  have hV1 := hN.v1
  have hV2 := hN.v2
  have hfewA := hN.few
  have hcs := (cutC_le hN.arcs (fun _ => false)).2.2
  refine ctr_of Try.call24 Try.func24 rfl rfl ?_
  intro w O
  refine ent_lenC 0 1 rfl rfl (fun hlen0_1 => ?_)
  refine ent_seq fun K1 hK1 => ?_
  refine ent_region ?_
  refine ent_boxS rfl rfl (AllOne.mem ⟨(one_int _), one_sl, trivial⟩) (fun b3_1 => ?_)
  refine ent_alloc (z := .agg #[.int .i64 0, .slice none 0 0, .slice none 0 0]) [aInt 0, aEx (.slice none 0 0), aEx (.slice none 0 0)] rfl zv44 rfl zc44 (fun b6_2 => ?_)
  refine ent_nil ?_
  refine ent_k hK1 ?_
  refine ent_seq fun K2 hK2 => ?_
  refine ent_drawA2 (e1 := 3) (e2 := 4) (T := 44) (enc1 := aInt) (enc2 := aBool) (xs1 := (List.replicate ((↑A.length : Int)).toNat 0 : List Int)) (xs2 := (List.replicate (V).toNat false : List Bool)) (A0 := aInt 0) (As := [aInt 0, aEx (.slice none 0 0), aEx (.slice none 0 0)]) 9 [] 23 7 [] [(1, aInt s), (2, aInt t), (3, aEx (.pointer (some ⟨b3_1, 0, none⟩))), (6, aEx (.pointer (some ⟨b6_2, 0, none⟩)))] mixed (by kernel_rfl) (by kernel_rfl) (by kernel_rfl) (by kernel_rfl) (by kernel_rfl) (fun _ _ _ _ _ h => h) flat_int flat_bool (by decide) (by decide) (by decide) (by decide) pl_ex (AllPl.mem ⟨pl_ex, pl_ex, pl_ex, trivial⟩) (AllPlS.mem (T := []) trivial) ⟨rfl, rfl, rfl, rfl, trivial⟩ (by kernel_rfl) (fun w => ?_) (fun ra_3 ca_3 rb_3 cb_3 bb_3 => ?_)
  · refine dw_o rfl (ok_fieldAddrEx Try.runUnderlying32 rfl Try.sizeOf30 (by decide) rfl) ?_
    refine dw_o rfl (ok_loadB (k := 1) Try.isAgg30 rfl rfl rfl) ?_
    refine dw_o rfl (ok_len rfl Try.runUnderlying30 rfl) ?_
    refine dw_o rfl (ok_makeA aInt 0 vt29 rfl rfl (by omega) (by omega) (by omega) (fun _ _ => rfl) (AllV.mem ⟨rfl, trivial⟩)) ?_
    refine dw_o rfl (ok_fieldAddrEx Try.runUnderlying32 rfl Try.sizeOf3 (by decide) rfl) ?_
    refine dw_o rfl (ok_loadB (k := 1) Try.isAgg3 rfl rfl rfl) ?_
    refine dw_o rfl (ok_makeA aBool false vt42 rfl rfl (by omega) (by omega) (by omega) (fun _ _ => rfl) (AllV.mem ⟨rfl, trivial⟩)) ?_
    refine dw_o rfl (ok_build st44 (As := [aInt 0, aEx (.slice none 0 0), aEx (.slice none 0 0)]) z44 (⟨1, 1, rfl, .inl ⟨rfl, _, rfl, one_frvec, rfl, ⟨2, 1, rfl, .inl ⟨rfl, _, rfl, one_frvec, rfl, rfl⟩⟩⟩⟩)) ?_
    refine dw_o rfl (ok_allocF (z := .agg #[.int .i64 0, .slice none 0 0, .slice none 0 0]) [aInt 0, aEx (.slice none 0 0), aEx (.slice none 0 0)] zv44 rfl zc44) ?_
    exact ⟨⟨rfl, rfl⟩, trivial⟩
  refine ent_storeBS (k := 0) Try.sizeOf44 rfl rfl rfl (AllOne.mem ⟨(one_int _), (one_ex rfl), (one_ex rfl), trivial⟩) rfl rfl ?_
  show Ent _ (⟨_, [oBox bb_3 44 [aInt 0, aEx (vec ra_3 (((List.replicate ((↑A.length : Int)).toNat 0 : List Int)).length) ca_3), aEx (vec rb_3 (((List.replicate (V).toNat false : List Bool)).length) cb_3)], oVec ra_3 ca_3 3 1 false aInt (List.replicate ((↑A.length : Int)).toNat 0 : List Int), oVec rb_3 cb_3 4 1 false aBool (List.replicate (V).toNat false : List Bool), oBox b6_2 44 [aInt 0, aEx (.slice none 0 0), aEx (.slice none 0 0)], oBox b3_1 32 [aInt V, aSl 3 true aArc A]]⟩ : St) _
  refine ent_nil ?_
  refine ent_k hK2 ?_
  refine ent_seq fun K3 hK3 => ?_
  refine ent_region ?_
  refine ent_o rfl (ok_loadBS (k := 4) ti32 rfl rfl rfl) ?_
  refine ent_o rfl (ok_fieldAddrEx Try.runUnderlying44 rfl Try.sizeOf29 (by decide) rfl) ?_
  refine ent_o rfl (ok_loadB (k := 0) Try.isAgg29 rfl rfl rfl) ?_
  refine ent_o rfl (ok_move rfl) ?_
  refine ent_o rfl (ok_callF [1] (Reach_ok V s A (List.replicate ((↑A.length : Int)).toNat 0 : List Int) (by first | rfl | assumption | omega | (simp_all; done) | grind) (AlOk.zero hN) (by first | rfl | assumption | omega | (simp_all; done) | grind) (by first | rfl | assumption | omega | (simp_all; done) | grind)) ⟨arg_a rfl (cv_id (sub_lent _)), arg_a rfl (cv_vec (k := 1) (off_lent rfl (by decide)) (by first | rfl | assumption | (simp; done) | (simp_all; done) | omega) (by first | rfl | assumption | omega | (simp_all; done) | grind)), arg_a rfl (cv_id (sub_lent _)), trivial⟩) ?_
  refine ent_exi 28 rfl (fun st0 hst0 => ?_)
  have hr0 := hst0
  refine ent_o rfl (ok_assign rfl) ?_
  refine ent_nil ?_
  refine ent_k hK3 ?_
  refine ent_seq fun K4 hK4 => ?_
  refine ent_block ?_
  refine ent_loop (fun (ss : Int × List Int × List Int) => match ss with | (v, l, stp) => (⟨[(1, aInt s), (2, aInt t), (3, aEx (.pointer (some ⟨b3_1, 0, none⟩))), (6, aEx (.pointer (some ⟨b6_2, 0, none⟩))), (7, aEx (.pointer (some ⟨bb_3, 0, none⟩))), (8, aSl 1 false aInt stp)], [oBox bb_3 44 [aInt v, aEx (vec ra_3 (((List.replicate ((↑A.length : Int)).toNat 0 : List Int)).length) ca_3), aEx (vec rb_3 (((List.replicate (V).toNat false : List Bool)).length) cb_3)], oVec ra_3 ca_3 3 1 false aInt l, oVec rb_3 cb_3 4 1 false aBool (List.replicate (V).toNat false : List Bool), oBox b6_2 44 [aInt 0, aEx (.slice none 0 0), aEx (.slice none 0 0)], oBox b3_1 32 [aInt V, aSl 3 true aArc A]]⟩ : St)) (fun (ss : Int × List Int × List Int) => match ss with | (v, l, stp) => (0 ≤ v) ∧ (FlOk A s t l v) ∧ (RchOk V A l s stp)) (fun (ss : Int × List Int × List Int) => match ss with | (v, l, stp) => (capSum A - v).toNat) (0, (List.replicate ((↑A.length : Int)).toNat 0 : List Int), st0) ⟨(by first | rfl | assumption | omega | (simp_all; done) | grind), (FlOk.zero hN s t), hr0⟩ (ent_rep ⟨rfl, rfl, rfl, rfl, rfl, rfl, trivial⟩ (own_cons (own_box (av_cons (av_int (show (0 : Int) = 0 by first | rfl | assumption | omega | (simp_all; done) | grind)) (rfl))) (rfl))) ?_
  rintro ⟨v, l, stp⟩ ⟨hv, hF, hr⟩
  show Ent _ (⟨[(1, aInt s), (2, aInt t), (3, aEx (.pointer (some ⟨b3_1, 0, none⟩))), (6, aEx (.pointer (some ⟨b6_2, 0, none⟩))), (7, aEx (.pointer (some ⟨bb_3, 0, none⟩))), (8, aSl 1 false aInt stp)], [oBox bb_3 44 [aInt v, aEx (vec ra_3 (((List.replicate ((↑A.length : Int)).toNat 0 : List Int)).length) ca_3), aEx (vec rb_3 (((List.replicate (V).toNat false : List Bool)).length) cb_3)], oVec ra_3 ca_3 3 1 false aInt l, oVec rb_3 cb_3 4 1 false aBool (List.replicate (V).toNat false : List Bool), oBox b6_2 44 [aInt 0, aEx (.slice none 0 0), aEx (.slice none 0 0)], oBox b3_1 32 [aInt V, aSl 3 true aArc A]]⟩ : St) _
  obtain ⟨Qq, hB⟩ := hr.q
  have hsl := hB.len
  have hal := hF.al.len
  refine ent_seq fun K5 hK5 => ?_
  refine ent_seq fun K6 hK6 => ?_
  refine ent_region ?_
  refine ent_o rfl (ok_move rfl) ?_
  refine ent_o rfl (ok_move rfl) ?_
  refine ent_o rfl (ok_index 0 sl29 rfl rfl (by omega) (by omega)) ?_
  refine ent_o rfl (ok_load ti3 rfl) ?_
  refine ent_o rfl (ok_neq rfl rfl) ?_
  refine ent_nil ?_
  refine ent_k hK6 ?_
  refine ent_condD rfl (fun h33 => ?_) (fun h33 => ?_)
  · refine ent_skip ?_
    refine ent_k hK5 ?_
    refine ent_block ?_
    refine ent_seq fun K7 hK7 => ?_
    refine ent_region ?_
    refine ent_o rfl (ok_loadBS (k := 4) ti32 rfl rfl rfl) ?_
    refine ent_o rfl (ok_move rfl) ?_
    refine ent_o rfl (ok_move rfl) ?_
    refine ent_o rfl (ok_call (CtrF.ctr (path_ok V s t A l stp (by first | rfl | assumption | omega | (simp_all; done) | grind) hr (by first | rfl | assumption | omega | (simp_all; done) | grind) (by first | rfl | assumption | omega | (simp_all; done) | grind) h33)) rfl) ?_
    refine ent_exi 37 rfl (fun p1 hp1 => ?_)
    have hp := hp1
    have hpl := hp.len
    refine ent_o rfl (ok_assign rfl) ?_
    refine ent_nil ?_
    refine ent_k hK7 ?_
    refine ent_seq fun K8 hK8 => ?_
    refine ent_region ?_
    refine ent_o rfl (ok_assign rfl) ?_
    refine ent_nil ?_
    refine ent_k hK8 ?_
    refine ent_seq fun K9 hK9 => ?_
    refine ent_seq fun K10 hK10 => ?_
    refine ent_region ?_
    refine ent_o rfl (ok_assign rfl) ?_
    refine ent_nil ?_
    refine ent_k hK10 ?_
    refine ent_block ?_
    refine ent_loop (fun (ss : Int × Int) => match ss with | (j, am) => (⟨[(1, aInt s), (2, aInt t), (3, aEx (.pointer (some ⟨b3_1, 0, none⟩))), (6, aEx (.pointer (some ⟨b6_2, 0, none⟩))), (7, aEx (.pointer (some ⟨bb_3, 0, none⟩))), (9, aSl 1 false aInt p1), (10, aInt am), (11, aInt j)], [oBox bb_3 44 [aInt v, aEx (vec ra_3 (((List.replicate ((↑A.length : Int)).toNat 0 : List Int)).length) ca_3), aEx (vec rb_3 (((List.replicate (V).toNat false : List Bool)).length) cb_3)], oVec ra_3 ca_3 3 1 false aInt l, oVec rb_3 cb_3 4 1 false aBool (List.replicate (V).toNat false : List Bool), oBox b6_2 44 [aInt 0, aEx (.slice none 0 0), aEx (.slice none 0 0)], oBox b3_1 32 [aInt V, aSl 3 true aArc A]]⟩ : St)) (fun (ss : Int × Int) => match ss with | (j, am) => (0 ≤ j) ∧ (j ≤ p1.length) ∧ (1 ≤ am) ∧ (am ≤ 1099511627776) ∧ (∀ q : Int, 0 ≤ q → q < j → am ≤ cRes A l (ix 0 p1 q))) (fun (ss : Int × Int) => match ss with | (j, am) => (p1.length - j).toNat) (0, 1099511627776) ⟨(by first | rfl | assumption | omega | (simp_all; done) | grind), (by first | rfl | assumption | omega | (simp_all; done) | grind), (by first | rfl | assumption | omega | (simp_all; done) | grind), (by first | rfl | assumption | omega | (simp_all; done) | grind), (fun q q0 q1 => by omega)⟩ (ent_rep ⟨rfl, rfl, rfl, rfl, rfl, rfl, slot_av (av_int (show 1099511627776 = (1099511627776 : Int) by first | rfl | assumption | omega | (simp_all; done) | grind)), slot_av (av_int (show 0 = (0 : Int) by first | rfl | assumption | omega | (simp_all; done) | grind)), trivial⟩ rfl) ?_
    rintro ⟨j, am⟩ ⟨j0, j1, a1, a2, ha⟩
    show Ent _ (⟨[(1, aInt s), (2, aInt t), (3, aEx (.pointer (some ⟨b3_1, 0, none⟩))), (6, aEx (.pointer (some ⟨b6_2, 0, none⟩))), (7, aEx (.pointer (some ⟨bb_3, 0, none⟩))), (9, aSl 1 false aInt p1), (10, aInt am), (11, aInt j)], [oBox bb_3 44 [aInt v, aEx (vec ra_3 (((List.replicate ((↑A.length : Int)).toNat 0 : List Int)).length) ca_3), aEx (vec rb_3 (((List.replicate (V).toNat false : List Bool)).length) cb_3)], oVec ra_3 ca_3 3 1 false aInt l, oVec rb_3 cb_3 4 1 false aBool (List.replicate (V).toNat false : List Bool), oBox b6_2 44 [aInt 0, aEx (.slice none 0 0), aEx (.slice none 0 0)], oBox b3_1 32 [aInt V, aSl 3 true aArc A]]⟩ : St) _
    refine ent_seq fun K11 hK11 => ?_
    refine ent_seq fun K12 hK12 => ?_
    refine ent_region ?_
    refine ent_o rfl (ok_move rfl) ?_
    refine ent_o rfl (ok_move rfl) ?_
    refine ent_o rfl (ok_len rfl Try.runUnderlying29 rfl) ?_
    refine ent_o rfl (ok_lss rfl rfl) ?_
    refine ent_nil ?_
    refine ent_k hK12 ?_
    refine ent_condD rfl (fun h41 => ?_) (fun h41 => ?_)
    · have hc := hp.cod _ (ix_mem 0 p1 j0 h41)
      have hrs := hF.al.res hN hc.1.1 hc.1.2
      have hli := hF.al.bd (ix 0 p1 j / 2) (by omega) (by omega)
      have hca := hN.arc (i := ix 0 p1 j / 2) (by omega) (by omega)
      refine ent_skip ?_
      refine ent_k hK11 ?_
      refine ent_seq fun K13 hK13 => ?_
      refine ent_block ?_
      refine ent_seq fun K14 hK14 => ?_
      refine ent_region ?_
      refine ent_o rfl (ok_move rfl) ?_
      refine ent_o rfl (ok_move rfl) ?_
      refine ent_o rfl (ok_index 0 sl29 rfl rfl (by omega) (by omega)) ?_
      refine ent_o rfl (ok_load ti3 rfl) ?_
      refine ent_o rfl (ok_quo rfl rfl (by omega) (by omega) (by omega)) ?_
      refine ent_o rfl (ok_assign rfl) ?_
      refine ent_nil ?_
      refine ent_k hK14 ?_
      refine ent_seq fun K15 hK15 => ?_
      refine ent_draw 13 mixed (by kernel_rfl) (by kernel_rfl) (by kernel_rfl) ?_
      refine dw_o rfl (ok_fieldAddrEx Try.runUnderlying32 rfl Try.sizeOf30 (by decide) rfl) ?_
      refine dw_o rfl (ok_loadB (k := 4) Try.isAgg30 rfl rfl rfl) ?_
      refine dw_o rfl (ok_move rfl) ?_
      refine dw_o rfl (ok_index (0, 0, 0) sl30 rfl rfl (by omega) (by omega)) ?_
      refine dw_o rfl (ok_fieldAddr1 Try.runUnderlying89 rfl Try.sizeOf3 rfl rfl) ?_
      refine dw_o rfl (ok_load ti3 rfl) ?_
      refine dw_o rfl (ok_fieldAddrEx Try.runUnderlying44 rfl Try.sizeOf29 (by decide) rfl) ?_
      refine dw_o rfl (ok_loadB (k := 0) Try.isAgg29 rfl rfl rfl) ?_
      refine dw_o rfl (ok_move rfl) ?_
      refine dw_o rfl (ok_indexV0 (k := 1) sl29 rfl rfl (by first | rfl | assumption | (simp; done) | (simp_all; done) | omega) rfl (by omega) (by omega)) ?_
      refine dw_o rfl (ok_loadV0 (k := 1) 0 ti3 rfl rfl (by omega) (by omega)) ?_
      refine dw_o rfl (ok_sub rfl rfl (by omega) (by omega)) ?_
      refine dw_o rfl (ok_assign rfl) ?_
      refine dw_nil ?_
      refine ent_nil ?_
      refine ent_k hK15 ?_
      refine ent_seq fun K16 hK16 => ?_
      refine ent_seq fun K17 hK17 => ?_
      refine ent_region ?_
      refine ent_o rfl (ok_move rfl) ?_
      refine ent_o rfl (ok_move rfl) ?_
      refine ent_o rfl (ok_index 0 sl29 rfl rfl (by omega) (by omega)) ?_
      refine ent_o rfl (ok_load ti3 rfl) ?_
      refine ent_o rfl (ok_rem rfl rfl (by omega) (by omega)) ?_
      refine ent_o rfl (ok_eql rfl rfl) ?_
      refine ent_nil ?_
      refine ent_k hK17 ?_
      refine ent_cut (⟨[(1, aInt s), (2, aInt t), (3, aEx (.pointer (some ⟨b3_1, 0, none⟩))), (6, aEx (.pointer (some ⟨b6_2, 0, none⟩))), (7, aEx (.pointer (some ⟨bb_3, 0, none⟩))), (9, aSl 1 false aInt p1), (10, aInt am), (11, aInt j), (13, aInt (cRes A l (ix 0 p1 j)))], [oBox bb_3 44 [aInt v, aEx (vec ra_3 (((List.replicate ((↑A.length : Int)).toNat 0 : List Int)).length) ca_3), aEx (vec rb_3 (((List.replicate (V).toNat false : List Bool)).length) cb_3)], oVec ra_3 ca_3 3 1 false aInt l, oVec rb_3 cb_3 4 1 false aBool (List.replicate (V).toNat false : List Bool), oBox b6_2 44 [aInt 0, aEx (.slice none 0 0), aEx (.slice none 0 0)], oBox b3_1 32 [aInt V, aSl 3 true aArc A]]⟩) ?_ ?_
      · refine ent_condD rfl (fun h66 => ?_) (fun h66 => ?_)
        · refine ent_region ?_
          refine ent_o rfl (ok_fieldAddrEx Try.runUnderlying44 rfl Try.sizeOf29 (by decide) rfl) ?_
          refine ent_o rfl (ok_loadB (k := 0) Try.isAgg29 rfl rfl rfl) ?_
          refine ent_o rfl (ok_move rfl) ?_
          refine ent_o rfl (ok_indexV0 (k := 1) sl29 rfl rfl (by first | rfl | assumption | (simp; done) | (simp_all; done) | omega) rfl (by omega) (by omega)) ?_
          refine ent_o rfl (ok_loadV0 (k := 1) 0 ti3 rfl rfl (by omega) (by omega)) ?_
          refine ent_o rfl (ok_assign rfl) ?_
          refine ent_nil ?_
          exact ent_rep ⟨rfl, rfl, rfl, rfl, rfl, rfl, rfl, rfl, slot_av (av_int (show ix 0 l ((ix 0 p1 j) / 2) = cRes A l (ix 0 p1 j) by unfold cRes; first | exact (if_pos h66).symm | exact (if_neg h66).symm)), trivial⟩ rfl
        · refine ent_skip ?_
          exact ent_rep ⟨rfl, rfl, rfl, rfl, rfl, rfl, rfl, rfl, slot_av (av_int (show ((ix (0, 0, 0) A ((ix 0 p1 j) / 2)).2.2) - (ix 0 l ((ix 0 p1 j) / 2)) = cRes A l (ix 0 p1 j) by unfold cRes; first | exact (if_pos h66).symm | exact (if_neg h66).symm)), trivial⟩ rfl
      refine ent_k hK16 ?_
      refine ent_region ?_
      refine ent_o rfl (ok_move rfl) ?_
      refine ent_o rfl (ok_move rfl) ?_
      refine ent_o rfl (ok_min rfl rfl) ?_
      refine ent_o rfl (ok_assign rfl) ?_
      refine ent_nil ?_
      refine ent_k hK13 ?_
      refine ent_region ?_
      refine ent_o rfl (ok_move rfl) ?_
      refine ent_o rfl (ok_add rfl rfl (by omega) (by omega)) ?_
      refine ent_o rfl (ok_assign rfl) ?_
      refine ent_nil ?_
      refine ent_again (s := (j, am)) (j + 1, min am (cRes A l (ix 0 p1 j))) ⟨(by first | rfl | assumption | omega | (simp_all; done) | grind), (by first | rfl | assumption | omega | (simp_all; done) | grind), (by first | rfl | assumption | omega | (simp_all; done) | grind), (by first | rfl | assumption | omega | (simp_all; done) | grind), (fun q q0 q1 => by by_cases hq : q = j; (rw [hq]; omega); (have := ha q q0 (by omega); omega))⟩ (by first | omega | (dsimp only; omega)) (ent_rep ⟨rfl, rfl, rfl, rfl, rfl, rfl, rfl, rfl, trivial⟩ rfl)
    · have ham : ∀ c ∈ p1, am ≤ cRes A l c := fun c hc => by obtain ⟨q, _, q2, rfl⟩ := mem_take_getD 0 p1 p1.length c (by simpa using hc); exact ha q (by omega) (by omega)
      refine ent_exit ?_
      refine ent_k hK9 ?_
      refine ent_seq fun K18 hK18 => ?_
      refine ent_seq fun K19 hK19 => ?_
      refine ent_region ?_
      refine ent_o rfl (ok_assign rfl) ?_
      refine ent_nil ?_
      refine ent_k hK19 ?_
      refine ent_block ?_
      refine ent_loop (fun (ss : Int × List Int) => match ss with | (j, m) => (⟨[(1, aInt s), (2, aInt t), (3, aEx (.pointer (some ⟨b3_1, 0, none⟩))), (6, aEx (.pointer (some ⟨b6_2, 0, none⟩))), (7, aEx (.pointer (some ⟨bb_3, 0, none⟩))), (9, aSl 1 false aInt p1), (10, aInt am), (14, aInt j)], [oBox bb_3 44 [aInt v, aEx (vec ra_3 (((List.replicate ((↑A.length : Int)).toNat 0 : List Int)).length) ca_3), aEx (vec rb_3 (((List.replicate (V).toNat false : List Bool)).length) cb_3)], oVec ra_3 ca_3 3 1 false aInt m, oVec rb_3 cb_3 4 1 false aBool (List.replicate (V).toNat false : List Bool), oBox b6_2 44 [aInt 0, aEx (.slice none 0 0), aEx (.slice none 0 0)], oBox b3_1 32 [aInt V, aSl 3 true aArc A]]⟩ : St)) (fun (ss : Int × List Int) => match ss with | (j, m) => (0 ≤ j) ∧ (j ≤ p1.length) ∧ (MidOk A l am p1 m j)) (fun (ss : Int × List Int) => match ss with | (j, m) => (p1.length - j).toNat) (0, l) ⟨(by first | rfl | assumption | omega | (simp_all; done) | grind), (by first | rfl | assumption | omega | (simp_all; done) | grind), (MidOk.zero am p1 hF.al)⟩ (ent_rep ⟨rfl, rfl, rfl, rfl, rfl, rfl, rfl, slot_av (av_int (show 0 = (0 : Int) by first | rfl | assumption | omega | (simp_all; done) | grind)), trivial⟩ rfl) ?_
      rintro ⟨j, m⟩ ⟨j0, j1, hM⟩
      show Ent _ (⟨[(1, aInt s), (2, aInt t), (3, aEx (.pointer (some ⟨b3_1, 0, none⟩))), (6, aEx (.pointer (some ⟨b6_2, 0, none⟩))), (7, aEx (.pointer (some ⟨bb_3, 0, none⟩))), (9, aSl 1 false aInt p1), (10, aInt am), (14, aInt j)], [oBox bb_3 44 [aInt v, aEx (vec ra_3 (((List.replicate ((↑A.length : Int)).toNat 0 : List Int)).length) ca_3), aEx (vec rb_3 (((List.replicate (V).toNat false : List Bool)).length) cb_3)], oVec ra_3 ca_3 3 1 false aInt m, oVec rb_3 cb_3 4 1 false aBool (List.replicate (V).toNat false : List Bool), oBox b6_2 44 [aInt 0, aEx (.slice none 0 0), aEx (.slice none 0 0)], oBox b3_1 32 [aInt V, aSl 3 true aArc A]]⟩ : St) _
      have hml := hM.al.len
      refine ent_seq fun K20 hK20 => ?_
      refine ent_seq fun K21 hK21 => ?_
      refine ent_region ?_
      refine ent_o rfl (ok_move rfl) ?_
      refine ent_o rfl (ok_move rfl) ?_
      refine ent_o rfl (ok_len rfl Try.runUnderlying29 rfl) ?_
      refine ent_o rfl (ok_lss rfl rfl) ?_
      refine ent_nil ?_
      refine ent_k hK21 ?_
      refine ent_condD rfl (fun h78 => ?_) (fun h78 => ?_)
      · have hc := hp.cod _ (ix_mem 0 p1 j0 h78)
        have hli := hM.al.bd (ix 0 p1 j / 2) (by omega) (by omega)
        have hca := hN.arc (i := ix 0 p1 j / 2) (by omega) (by omega)
        refine ent_skip ?_
        refine ent_k hK20 ?_
        refine ent_seq fun K22 hK22 => ?_
        refine ent_block ?_
        refine ent_seq fun K23 hK23 => ?_
        refine ent_region ?_
        refine ent_o rfl (ok_move rfl) ?_
        refine ent_o rfl (ok_move rfl) ?_
        refine ent_o rfl (ok_index 0 sl29 rfl rfl (by omega) (by omega)) ?_
        refine ent_o rfl (ok_load ti3 rfl) ?_
        refine ent_o rfl (ok_rem rfl rfl (by omega) (by omega)) ?_
        refine ent_o rfl (ok_eql rfl rfl) ?_
        refine ent_nil ?_
        refine ent_k hK23 ?_
        refine ent_condD rfl (fun h86 => ?_) (fun h86 => ?_)
        · refine ent_draw 12 mixed (by kernel_rfl) (by kernel_rfl) (by kernel_rfl) ?_
          refine dw_o rfl (ok_fieldAddrEx Try.runUnderlying44 rfl Try.sizeOf29 (by decide) rfl) ?_
          refine dw_o rfl (ok_loadB (k := 0) Try.isAgg29 rfl rfl rfl) ?_
          refine dw_o rfl (ok_move rfl) ?_
          refine dw_o rfl (ok_move rfl) ?_
          refine dw_o rfl (ok_index 0 sl29 rfl rfl (by omega) (by omega)) ?_
          refine dw_o rfl (ok_load ti3 rfl) ?_
          refine dw_o rfl (ok_quo rfl rfl (by omega) (by omega) (by omega)) ?_
          refine dw_o rfl (ok_indexV0 (k := 1) sl29 rfl rfl (by first | rfl | assumption | (simp; done) | (simp_all; done) | omega) rfl (by omega) (by omega)) ?_
          refine dw_o rfl (ok_loadV0 (k := 1) 0 ti3 rfl rfl (by omega) (by omega)) ?_
          refine dw_o rfl (ok_move rfl) ?_
          refine dw_o rfl (ok_add rfl rfl (by omega) (by omega)) ?_
          refine dw_o rfl (ok_indexV0 (k := 1) sl29 rfl rfl (by first | rfl | assumption | (simp; done) | (simp_all; done) | omega) rfl (by omega) (by omega)) ?_
          refine dw_nil ?_
          refine ent_storeV0 (k := 1) (z := (ix 0 m ((ix 0 p1 j) / 2)) + am) ti3 rfl rfl rfl (elem_one (one_int _)) (by omega) (by omega) ?_
          refine ent_nil ?_
          refine ent_k hK22 ?_
          refine ent_region ?_
          refine ent_o rfl (ok_move rfl) ?_
          refine ent_o rfl (ok_add rfl rfl (by omega) (by omega)) ?_
          refine ent_o rfl (ok_assign rfl) ?_
          refine ent_nil ?_
          refine ent_again (s := (j, m)) (j + 1, List.set m ((ix 0 p1 j) / 2).toNat ((ix 0 m ((ix 0 p1 j) / 2)) + am)) ⟨(by first | rfl | assumption | omega | (simp_all; done) | grind), (by first | rfl | assumption | omega | (simp_all; done) | grind), (by have q := hM.step hN hp (by omega) ham j0 h78; unfold stepTo at q; first | (rw [if_neg (by omega)] at q; exact q) | (rw [if_pos (by omega)] at q; exact q))⟩ (by first | omega | (dsimp only; omega)) (ent_rep ⟨rfl, rfl, rfl, rfl, rfl, rfl, rfl, rfl, trivial⟩ rfl)
        · refine ent_draw 12 mixed (by kernel_rfl) (by kernel_rfl) (by kernel_rfl) ?_
          refine dw_o rfl (ok_fieldAddrEx Try.runUnderlying44 rfl Try.sizeOf29 (by decide) rfl) ?_
          refine dw_o rfl (ok_loadB (k := 0) Try.isAgg29 rfl rfl rfl) ?_
          refine dw_o rfl (ok_move rfl) ?_
          refine dw_o rfl (ok_move rfl) ?_
          refine dw_o rfl (ok_index 0 sl29 rfl rfl (by omega) (by omega)) ?_
          refine dw_o rfl (ok_load ti3 rfl) ?_
          refine dw_o rfl (ok_quo rfl rfl (by omega) (by omega) (by omega)) ?_
          refine dw_o rfl (ok_indexV0 (k := 1) sl29 rfl rfl (by first | rfl | assumption | (simp; done) | (simp_all; done) | omega) rfl (by omega) (by omega)) ?_
          refine dw_o rfl (ok_loadV0 (k := 1) 0 ti3 rfl rfl (by omega) (by omega)) ?_
          refine dw_o rfl (ok_move rfl) ?_
          refine dw_o rfl (ok_sub rfl rfl (by omega) (by omega)) ?_
          refine dw_o rfl (ok_indexV0 (k := 1) sl29 rfl rfl (by first | rfl | assumption | (simp; done) | (simp_all; done) | omega) rfl (by omega) (by omega)) ?_
          refine dw_nil ?_
          refine ent_storeV0 (k := 1) (z := (ix 0 m ((ix 0 p1 j) / 2)) - am) ti3 rfl rfl rfl (elem_one (one_int _)) (by omega) (by omega) ?_
          refine ent_nil ?_
          refine ent_k hK22 ?_
          refine ent_region ?_
          refine ent_o rfl (ok_move rfl) ?_
          refine ent_o rfl (ok_add rfl rfl (by omega) (by omega)) ?_
          refine ent_o rfl (ok_assign rfl) ?_
          refine ent_nil ?_
          refine ent_again (s := (j, m)) (j + 1, List.set m ((ix 0 p1 j) / 2).toNat ((ix 0 m ((ix 0 p1 j) / 2)) - am)) ⟨(by first | rfl | assumption | omega | (simp_all; done) | grind), (by first | rfl | assumption | omega | (simp_all; done) | grind), (by have q := hM.step hN hp (by omega) ham j0 h78; unfold stepTo at q; first | (rw [if_neg (by omega)] at q; exact q) | (rw [if_pos (by omega)] at q; exact q))⟩ (by first | omega | (dsimp only; omega)) (ent_rep ⟨rfl, rfl, rfl, rfl, rfl, rfl, rfl, rfl, trivial⟩ rfl)
      · have hje : j = (p1.length : Int) := by omega
        rw [hje] at hM
        have hF2 := hF.next hp hM
        have hle := hF2.le hN hst
        refine ent_exit ?_
        refine ent_k hK18 ?_
        refine ent_seq fun K24 hK24 => ?_
        refine ent_region ?_
        refine ent_o rfl (ok_fieldAddrEx Try.runUnderlying44 rfl Try.sizeOf3 (by decide) rfl) ?_
        refine ent_o rfl (ok_loadB (k := 0) Try.isAgg3 rfl rfl rfl) ?_
        refine ent_o rfl (ok_move rfl) ?_
        refine ent_o rfl (ok_add rfl rfl (by omega) (by omega)) ?_
        refine ent_o rfl (ok_fieldAddrEx Try.runUnderlying44 rfl Try.sizeOf3 (by decide) rfl) ?_
        refine ent_storeB (k := 0) Try.sizeOf3 rfl rfl rfl (one_int _) rfl ?_
        refine ent_nil ?_
        refine ent_k hK24 ?_
        refine ent_region ?_
        refine ent_o rfl (ok_loadBS (k := 4) ti32 rfl rfl rfl) ?_
        refine ent_o rfl (ok_fieldAddrEx Try.runUnderlying44 rfl Try.sizeOf29 (by decide) rfl) ?_
        refine ent_o rfl (ok_loadB (k := 0) Try.isAgg29 rfl rfl rfl) ?_
        refine ent_o rfl (ok_move rfl) ?_
        refine ent_o rfl (ok_callF [1] (Reach_ok V s A m (by first | rfl | assumption | omega | (simp_all; done) | grind) hM.al (by first | rfl | assumption | omega | (simp_all; done) | grind) (by first | rfl | assumption | omega | (simp_all; done) | grind)) ⟨arg_a rfl (cv_id (sub_lent _)), arg_a rfl (cv_vec (k := 1) (off_lent rfl (by decide)) (by first | rfl | assumption | (simp; done) | (simp_all; done) | omega) (by first | rfl | assumption | omega | (simp_all; done) | grind)), arg_a rfl (cv_id (sub_lent _)), trivial⟩) ?_
        refine ent_exi 120 rfl (fun st2 hst2 => ?_)
        have hr2 := hst2
        refine ent_o rfl (ok_assign rfl) ?_
        refine ent_nil ?_
        refine ent_again (s := (v, l, stp)) (v + am, m, st2) ⟨(by omega), hF2, hr2⟩ (by first | omega | (dsimp only; omega)) (ent_rep ⟨rfl, rfl, rfl, rfl, rfl, rfl, trivial⟩ rfl)
  · have hmax := hF.done hN hr (Classical.not_not.1 h33)
    refine ent_exit ?_
    refine ent_k hK4 ?_
    refine ent_seq fun K25 hK25 => ?_
    refine ent_seq fun K26 hK26 => ?_
    refine ent_region ?_
    refine ent_o rfl (ok_assign rfl) ?_
    refine ent_nil ?_
    refine ent_k hK26 ?_
    refine ent_block ?_
    refine ent_loop (fun (u : Int) => (⟨[(3, aEx (.pointer (some ⟨b3_1, 0, none⟩))), (6, aEx (.pointer (some ⟨b6_2, 0, none⟩))), (7, aEx (.pointer (some ⟨bb_3, 0, none⟩))), (8, aSl 1 false aInt stp), (15, aInt u)], [oBox bb_3 44 [aInt v, aEx (vec ra_3 (((List.replicate ((↑A.length : Int)).toNat 0 : List Int)).length) ca_3), aEx (vec rb_3 (((List.replicate (V).toNat false : List Bool)).length) cb_3)], oVec ra_3 ca_3 3 1 false aInt l, oVec rb_3 cb_3 4 1 false aBool (fillR (fun x => decide (ix 0 stp x ≠ -2)) false V u), oBox b6_2 44 [aInt 0, aEx (.slice none 0 0), aEx (.slice none 0 0)], oBox b3_1 32 [aInt V, aSl 3 true aArc A]]⟩ : St)) (fun (u : Int) => (0 ≤ u) ∧ (u ≤ V)) (fun (u : Int) => (V - u).toNat) 0 ⟨(by first | rfl | assumption | omega | (simp_all; done) | grind), (by first | rfl | assumption | omega | (simp_all; done) | grind)⟩ (ent_rep ⟨rfl, rfl, rfl, rfl, slot_av (av_int (show 0 = (0 : Int) by first | rfl | assumption | omega | (simp_all; done) | grind)), trivial⟩ (own_cons (rfl) (own_cons (rfl) (own_cons (own_vec (show fillR (fun x => decide (ix 0 stp x ≠ -2)) false V (0 : Int) = (List.replicate (V).toNat false : List Bool) by exact fillR_zero _ _ _)) (rfl))))) ?_
    rintro u ⟨u0, u1⟩
    show Ent _ (⟨[(3, aEx (.pointer (some ⟨b3_1, 0, none⟩))), (6, aEx (.pointer (some ⟨b6_2, 0, none⟩))), (7, aEx (.pointer (some ⟨bb_3, 0, none⟩))), (8, aSl 1 false aInt stp), (15, aInt u)], [oBox bb_3 44 [aInt v, aEx (vec ra_3 (((List.replicate ((↑A.length : Int)).toNat 0 : List Int)).length) ca_3), aEx (vec rb_3 (((List.replicate (V).toNat false : List Bool)).length) cb_3)], oVec ra_3 ca_3 3 1 false aInt l, oVec rb_3 cb_3 4 1 false aBool (fillR (fun x => decide (ix 0 stp x ≠ -2)) false V u), oBox b6_2 44 [aInt 0, aEx (.slice none 0 0), aEx (.slice none 0 0)], oBox b3_1 32 [aInt V, aSl 3 true aArc A]]⟩ : St) _
    have lfl := length_fillR (fun x => decide (ix 0 stp x ≠ -2)) false u0 u1
    refine ent_seq fun K27 hK27 => ?_
    refine ent_seq fun K28 hK28 => ?_
    refine ent_region ?_
    refine ent_o rfl (ok_move rfl) ?_
    refine ent_o rfl (ok_fieldAddrEx Try.runUnderlying32 rfl Try.sizeOf3 (by decide) rfl) ?_
    refine ent_o rfl (ok_loadB (k := 4) Try.isAgg3 rfl rfl rfl) ?_
    refine ent_o rfl (ok_lss rfl rfl) ?_
    refine ent_nil ?_
    refine ent_k hK28 ?_
    refine ent_condD rfl (fun h124 => ?_) (fun h124 => ?_)
    · refine ent_skip ?_
      refine ent_k hK27 ?_
      refine ent_seq fun K29 hK29 => ?_
      refine ent_block ?_
      refine ent_draw 9 mixed (by kernel_rfl) (by kernel_rfl) (by kernel_rfl) ?_
      refine dw_o rfl (ok_fieldAddrEx Try.runUnderlying44 rfl Try.sizeOf42 (by decide) rfl) ?_
      refine dw_o rfl (ok_loadB (k := 0) Try.isAgg42 rfl rfl rfl) ?_
      refine dw_o rfl (ok_move rfl) ?_
      refine dw_o rfl (ok_move rfl) ?_
      refine dw_o rfl (ok_move rfl) ?_
      refine dw_o rfl (ok_index 0 sl29 rfl rfl (by omega) (by omega)) ?_
      refine dw_o rfl (ok_load ti3 rfl) ?_
      refine dw_o rfl (ok_neq rfl rfl) ?_
      refine dw_o rfl (ok_indexV0 (k := 2) sl42 rfl rfl (by first | rfl | assumption | (simp; done) | (simp_all; done) | omega) rfl (by omega) (by omega)) ?_
      refine dw_nil ?_
      refine ent_storeV0 (k := 2) (z := decide ((ix 0 stp u) ≠ (-2))) ti4 rfl rfl rfl (elem_one (one_bool _)) (by omega) (by omega) ?_
      refine ent_nil ?_
      refine ent_k hK29 ?_
      refine ent_region ?_
      refine ent_o rfl (ok_move rfl) ?_
      refine ent_o rfl (ok_add rfl rfl (by omega) (by omega)) ?_
      refine ent_o rfl (ok_assign rfl) ?_
      refine ent_nil ?_
      refine ent_again (s := (u)) (u + 1) ⟨(by first | rfl | assumption | omega | (simp_all; done) | grind), (by first | rfl | assumption | omega | (simp_all; done) | grind)⟩ (by first | omega | (dsimp only; omega)) (ent_rep ⟨rfl, rfl, rfl, rfl, rfl, trivial⟩ (own_cons (rfl) (own_cons (rfl) (own_cons (own_vec (show fillR (fun x => decide (ix 0 stp x ≠ -2)) false V (u + 1) = List.set (fillR (fun x => decide (ix 0 stp x ≠ -2)) false V u) (u).toNat (decide ((ix 0 stp u) ≠ (-2))) by exact (fillR_set (fun x => decide (ix 0 stp x ≠ -2)) false u0 h124).symm)) (rfl)))))
    · refine ent_exit ?_
      refine ent_k hK25 ?_
      refine ent_seq fun K30 hK30 => ?_
      refine ent_region ?_
      refine ent_o rfl (ok_loadBS (k := 0) ti44 rfl rfl rfl) ?_
      refine ent_storeBS (k := 3) Try.sizeOf44 rfl rfl rfl (AllOne.mem ⟨(one_int _), (one_ex rfl), (one_ex rfl), trivial⟩) rfl rfl ?_
      show Ent _ (⟨_, [oBox bb_3 44 [aInt v, aEx (vec ra_3 (((List.replicate ((↑A.length : Int)).toNat 0 : List Int)).length) ca_3), aEx (vec rb_3 (((List.replicate (V).toNat false : List Bool)).length) cb_3)], oVec ra_3 ca_3 3 1 false aInt l, oVec rb_3 cb_3 4 1 false aBool (fillR (fun x => decide (ix 0 stp x ≠ -2)) false V u), oBox b6_2 44 [aInt v, aEx (vec ra_3 (((List.replicate ((↑A.length : Int)).toNat 0 : List Int)).length) ca_3), aEx (vec rb_3 (((List.replicate (V).toNat false : List Bool)).length) cb_3)], oBox b3_1 32 [aInt V, aSl 3 true aArc A]]⟩ : St) _
      refine ent_nil ?_
      refine ent_k hK30 ?_
      refine ent_ret ?_
      exact retR1 (.inr rfl) Try.results24 (resr_cell (k := 3) ti44 rfl rfl rfl (cv_exi (v) (hmax) (cv_agg ⟨cv_int (by first | rfl | trivial), cv_any, cv_any, trivial⟩)))

theorem Worst_ok (k d : Int) (hk0 : 0 ≤ k) (hk1 : k ≤ 1000) (hd0 : 0 ≤ d) (hd1 : d ≤ 1000) : Ctr Try.prog 25 [aInt k, aInt d] (aTup [aSl 2 true aFl (worstH k d), aSl 1 false aInt (mapR id k)]) := by
  refine ctr_of Try.call25 Try.func25 rfl rfl ?_
  intro w O
  refine ent_seq fun K1 hK1 => ?_
  refine ent_region ?_
  refine ent_o rfl (ok_assign rfl) ?_
  refine ent_o rfl (ok_assign rfl) ?_
  refine ent_nil ?_
  refine ent_k hK1 ?_
  refine ent_seq fun K2 hK2 => ?_
  refine ent_region ?_
  refine ent_o rfl (ok_assign rfl) ?_
  refine ent_nil ?_
  refine ent_k hK2 ?_
  refine ent_seq fun K3 hK3 => ?_
  refine ent_region ?_
  refine ent_o rfl (ok_assign rfl) ?_
  refine ent_nil ?_
  refine ent_k hK3 ?_
  refine ent_seq fun K4 hK4 => ?_
  refine ent_seq fun K5 hK5 => ?_
  refine ent_region ?_
  refine ent_o rfl (ok_assign rfl) ?_
  refine ent_nil ?_
  refine ent_k hK5 ?_
  refine ent_block ?_
  refine ent_open 40 2 true aFl (fun h => by cases h) ?_
  refine ent_open 3 1 false aInt (fun _ => rfl) ?_
  refine ent_loop (fun (ss : Int × Option Nat × Nat × Option Nat × Nat) => match ss with | (i, rr3, cc3, rr4, cc4) => (⟨[(0, aInt k), (1, aInt d), (6, aEx (vec rr3 ((mapR (worst d) i).length) cc3)), (7, aEx (vec rr4 ((mapR id i).length) cc4)), (8, aInt i)], [oVec rr4 cc4 3 1 false aInt (mapR id i), oVec rr3 cc3 40 2 true aFl (mapR (worst d) i)]⟩ : St)) (fun (ss : Int × Option Nat × Nat × Option Nat × Nat) => match ss with | (i, rr3, cc3, rr4, cc4) => (0 ≤ i) ∧ (i ≤ k)) (fun (ss : Int × Option Nat × Nat × Option Nat × Nat) => match ss with | (i, rr3, cc3, rr4, cc4) => (k - i).toNat) (0, none, 0, none, 0) ⟨(by first | rfl | assumption | omega | (simp_all; done) | grind), (by first | rfl | assumption | omega | (simp_all; done) | grind)⟩ (ent_rep ⟨rfl, rfl, slot_av ((show aEx (vec none ([] : List _).length 0) = aEx (vec none ((mapR (worst d) (0 : Int)).length) 0) from av_vec (congrArg List.length (show mapR (worst d) (0 : Int) = [] by rfl).symm))), slot_av ((show aEx (vec none ([] : List _).length 0) = aEx (vec none ((mapR id (0 : Int)).length) 0) from av_vec (congrArg List.length (show mapR id (0 : Int) = [] by rfl).symm))), slot_av (av_int (show 0 = (0 : Int) by first | rfl | assumption | omega | (simp_all; done) | grind)), trivial⟩ (own_cons (own_vec (show mapR id (0 : Int) = [] by rfl)) (own_cons (own_vec (show mapR (worst d) (0 : Int) = [] by rfl)) (rfl)))) ?_
  rintro ⟨i, rr3, cc3, rr4, cc4⟩ ⟨h0, h1⟩
  show Ent _ (⟨[(0, aInt k), (1, aInt d), (6, aEx (vec rr3 ((mapR (worst d) i).length) cc3)), (7, aEx (vec rr4 ((mapR id i).length) cc4)), (8, aInt i)], [oVec rr4 cc4 3 1 false aInt (mapR id i), oVec rr3 cc3 40 2 true aFl (mapR (worst d) i)]⟩ : St) _
  have l1 := length_mapR (worst d) i
  have l2 := length_mapR (id : Int → Int) i
  refine ent_seq fun K6 hK6 => ?_
  refine ent_seq fun K7 hK7 => ?_
  refine ent_region ?_
  refine ent_o rfl (ok_move rfl) ?_
  refine ent_o rfl (ok_move rfl) ?_
  refine ent_o rfl (ok_lss rfl rfl) ?_
  refine ent_nil ?_
  refine ent_k hK7 ?_
  refine ent_condD rfl (fun h13 => ?_) (fun h13 => ?_)
  · refine ent_skip ?_
    refine ent_k hK6 ?_
    refine ent_seq fun K8 hK8 => ?_
    refine ent_block ?_
    refine ent_seq fun K9 hK9 => ?_
    refine ent_region ?_
    refine ent_o rfl (ok_move rfl) ?_
    refine ent_o rfl (ok_build st40 (As := [aInt 0, aEx (.slice none 0 0)]) z40 (⟨0, 1, rfl, .inl ⟨rfl, _, rfl, (one_int _), rfl, rfl⟩⟩)) ?_
    refine ent_alloc (z := .agg #[.int .i64 0, .slice none 0 0]) [aInt 0, aEx (.slice none 0 0)] rfl zv40 rfl zc40 (fun b9_5 => ?_)
    refine ent_storeBS (k := 0) Try.sizeOf40 rfl rfl rfl (AllOne.mem ⟨(one_int _), (one_ex rfl), trivial⟩) rfl rfl ?_
    show Ent _ (⟨_, [oBox b9_5 40 [aInt i, aEx (.slice none 0 0)], oVec rr4 cc4 3 1 false aInt (mapR id i), oVec rr3 cc3 40 2 true aFl (mapR (worst d) i)]⟩ : St) _
    refine ent_nil ?_
    refine ent_k hK9 ?_
    refine ent_seq fun K10 hK10 => ?_
    refine ent_seq fun K11 hK11 => ?_
    refine ent_region ?_
    refine ent_o rfl (ok_assign rfl) ?_
    refine ent_nil ?_
    refine ent_k hK11 ?_
    refine ent_block ?_
    refine ent_open 3 1 false aInt (fun _ => rfl) ?_
    refine ent_loop (fun (ss : Int × Option Nat × Nat) => match ss with | (j, rr7, cc7) => (⟨[(0, aInt k), (1, aInt d), (6, aEx (vec rr3 ((mapR (worst d) i).length) cc3)), (7, aEx (vec rr4 ((mapR id i).length) cc4)), (8, aInt i), (9, aEx (.pointer (some ⟨b9_5, 0, none⟩))), (10, aInt j)], [oVec rr7 cc7 3 1 false aInt (hlpTo i j), oBox b9_5 40 [aInt i, aEx (vec rr7 ((hlpTo i j).length) cc7)], oVec rr4 cc4 3 1 false aInt (mapR id i), oVec rr3 cc3 40 2 true aFl (mapR (worst d) i)]⟩ : St)) (fun (ss : Int × Option Nat × Nat) => match ss with | (j, rr7, cc7) => (0 ≤ j) ∧ (j ≤ d + 1)) (fun (ss : Int × Option Nat × Nat) => match ss with | (j, rr7, cc7) => (d + 1 - j).toNat) (0, none, 0) ⟨(by first | rfl | assumption | omega | (simp_all; done) | grind), (by first | rfl | assumption | omega | (simp_all; done) | grind)⟩ (ent_rep ⟨rfl, rfl, rfl, rfl, rfl, rfl, slot_av (av_int (show 0 = (0 : Int) by first | rfl | assumption | omega | (simp_all; done) | grind)), trivial⟩ (own_cons (own_vec (show hlpTo i (0 : Int) = [] by rfl)) (own_cons (own_box (av_cons rfl (av_cons ((by first | rfl | assumption | omega | (simp_all; done) | grind)) (rfl)))) (rfl)))) ?_
    rintro ⟨j, rr7, cc7⟩ ⟨j0, j1⟩
    show Ent _ (⟨[(0, aInt k), (1, aInt d), (6, aEx (vec rr3 ((mapR (worst d) i).length) cc3)), (7, aEx (vec rr4 ((mapR id i).length) cc4)), (8, aInt i), (9, aEx (.pointer (some ⟨b9_5, 0, none⟩))), (10, aInt j)], [oVec rr7 cc7 3 1 false aInt (hlpTo i j), oBox b9_5 40 [aInt i, aEx (vec rr7 ((hlpTo i j).length) cc7)], oVec rr4 cc4 3 1 false aInt (mapR id i), oVec rr3 cc3 40 2 true aFl (mapR (worst d) i)]⟩ : St) _
    have l3 : ((hlpTo i j).length : Int) ≤ j + 1 := by have := hlpTo_len h0 j.toNat; rw [show ((j.toNat : Nat) : Int) = j by omega] at this; split at this <;> omega
    refine ent_seq fun K12 hK12 => ?_
    refine ent_seq fun K13 hK13 => ?_
    refine ent_region ?_
    refine ent_o rfl (ok_move rfl) ?_
    refine ent_o rfl (ok_move rfl) ?_
    refine ent_o rfl (ok_leq rfl rfl) ?_
    refine ent_nil ?_
    refine ent_k hK13 ?_
    refine ent_condD rfl (fun h20 => ?_) (fun h20 => ?_)
    · refine ent_skip ?_
      refine ent_k hK12 ?_
      refine ent_seq fun K14 hK14 => ?_
      refine ent_block ?_
      refine ent_seq fun K15 hK15 => ?_
      refine ent_region ?_
      refine ent_o rfl (ok_move rfl) ?_
      refine ent_o rfl (ok_move rfl) ?_
      refine ent_o rfl (ok_neq rfl rfl) ?_
      refine ent_nil ?_
      refine ent_k hK15 ?_
      refine ent_condD rfl (fun h25 => ?_) (fun h25 => ?_)
      · refine ent_region ?_
        refine ent_o rfl (ok_fieldAddrEx Try.runUnderlying40 rfl Try.sizeOf29 (by decide) rfl) ?_
        refine ent_o rfl (ok_loadB (k := 1) Try.isAgg29 rfl rfl rfl) ?_
        refine ent_o rfl (ok_move rfl) ?_
        refine ent_appendL (k := 0) (enc := aInt) (y := j) rfl rfl vt29 rfl rfl (by first | rfl | assumption | (simp; done) | (simp_all; done) | omega) rfl ((elem_one (one_int _))) (by first | omega | (simp only [List.length_append, List.length_cons, List.length_nil]; omega) | (simp; omega)) (by first | omega | (simp only [List.length_append, List.length_cons, List.length_nil]; omega) | (simp; omega)) (by decide) (fun b30_8 c30_8 => ?_)
        refine ent_o rfl (ok_fieldAddrEx Try.runUnderlying40 rfl Try.sizeOf29 (by decide) rfl) ?_
        refine ent_storeB (k := 1) Try.sizeOf29 rfl rfl rfl (one_ex rfl) rfl ?_
        refine ent_nil ?_
        refine ent_k hK14 ?_
        refine ent_region ?_
        refine ent_o rfl (ok_move rfl) ?_
        refine ent_o rfl (ok_add rfl rfl (by omega) (by omega)) ?_
        refine ent_o rfl (ok_assign rfl) ?_
        refine ent_nil ?_
        refine ent_again (s := (j, rr7, cc7)) (j + 1, (some b30_8), c30_8) ⟨(by first | rfl | assumption | omega | (simp_all; done) | grind), (by first | rfl | assumption | omega | (simp_all; done) | grind)⟩ (by first | omega | (dsimp only; omega)) (ent_rep ⟨rfl, rfl, rfl, rfl, rfl, rfl, rfl, trivial⟩ (own_cons (own_vec (show hlpTo i (j + 1) = (hlpTo i j) ++ [j] by first | exact hlpTo_step j0 h25 | exact hlpTo_stay j0 (Classical.not_not.1 h25))) (own_cons (own_box (av_cons rfl (av_cons (av_vec (congrArg List.length (show hlpTo i (j + 1) = (hlpTo i j) ++ [j] by first | exact hlpTo_step j0 h25 | exact hlpTo_stay j0 (Classical.not_not.1 h25)))) (rfl)))) (rfl))))
      · refine ent_skip ?_
        refine ent_k hK14 ?_
        refine ent_region ?_
        refine ent_o rfl (ok_move rfl) ?_
        refine ent_o rfl (ok_add rfl rfl (by omega) (by omega)) ?_
        refine ent_o rfl (ok_assign rfl) ?_
        refine ent_nil ?_
        refine ent_again (s := (j, rr7, cc7)) (j + 1, rr7, cc7) ⟨(by first | rfl | assumption | omega | (simp_all; done) | grind), (by first | rfl | assumption | omega | (simp_all; done) | grind)⟩ (by first | omega | (dsimp only; omega)) (ent_rep ⟨rfl, rfl, rfl, rfl, rfl, rfl, rfl, trivial⟩ (own_cons (own_vec (show hlpTo i (j + 1) = hlpTo i j by first | exact hlpTo_step j0 h25 | exact hlpTo_stay j0 (Classical.not_not.1 h25))) (own_cons (own_box (av_cons rfl (av_cons (av_vec (congrArg List.length (show hlpTo i (j + 1) = hlpTo i j by first | exact hlpTo_step j0 h25 | exact hlpTo_stay j0 (Classical.not_not.1 h25)))) (rfl)))) (rfl))))
    · refine ent_exit ?_
      refine ent_k hK10 ?_
      refine ent_seq fun K16 hK16 => ?_
      refine ent_region ?_
      refine ent_o rfl (ok_move rfl) ?_
      refine ent_o rfl (ok_loadBS (k := 1) ti40 rfl rfl rfl) ?_
      show Ent _ (⟨(33, aAgg [aInt i, aEx (vec rr7 ((hlpTo i j).length) cc7)]) :: _, _⟩ : St) _
      refine ent_give (A' := aAgg [aInt i, aSl 1 false aInt (hlpTo i j)]) 0 33 rfl (cv_agg ⟨cv_ex rfl, cv_vec (k := 0) (off_erase rfl) (by first | rfl | assumption | (simp; done) | (simp_all; done) | omega) rfl, trivial⟩) ?_
      refine ent_appendL (k := 2) (enc := aFl) (y := (i, hlpTo i j)) rfl rfl vt28 rfl rfl (by first | rfl | assumption | (simp; done) | (simp_all; done) | omega) rfl ((elem_agg (AllOne.mem ⟨(one_int _), one_sl, trivial⟩))) (by first | omega | (simp only [List.length_append, List.length_cons, List.length_nil]; omega) | (simp; omega)) (by first | omega | (simp only [List.length_append, List.length_cons, List.length_nil]; omega) | (simp; omega)) (by decide) (fun b35_9 c35_9 => ?_)
      refine ent_o rfl (ok_assign rfl) ?_
      refine ent_nil ?_
      refine ent_k hK16 ?_
      refine ent_region ?_
      refine ent_o rfl (ok_move rfl) ?_
      refine ent_o rfl (ok_move rfl) ?_
      refine ent_appendL (k := 1) (enc := aInt) (y := i) rfl rfl vt29 rfl rfl (by first | rfl | assumption | (simp; done) | (simp_all; done) | omega) rfl ((elem_one (one_int _))) (by first | omega | (simp only [List.length_append, List.length_cons, List.length_nil]; omega) | (simp; omega)) (by first | omega | (simp only [List.length_append, List.length_cons, List.length_nil]; omega) | (simp; omega)) (by decide) (fun b39_10 c39_10 => ?_)
      refine ent_o rfl (ok_assign rfl) ?_
      refine ent_nil ?_
      refine ent_k hK8 ?_
      refine ent_region ?_
      refine ent_o rfl (ok_move rfl) ?_
      refine ent_o rfl (ok_add rfl rfl (by omega) (by omega)) ?_
      refine ent_o rfl (ok_assign rfl) ?_
      refine ent_nil ?_
      refine ent_drop 0 ?_
      refine ent_again (s := (i, rr3, cc3, rr4, cc4)) (i + 1, (some b35_9), c35_9, (some b39_10), c39_10) ⟨(by first | rfl | assumption | omega | (simp_all; done) | grind), (by first | rfl | assumption | omega | (simp_all; done) | grind)⟩ (by first | omega | (dsimp only; omega)) (ent_rep ⟨rfl, rfl, slot_av (av_vec (congrArg List.length (show mapR (worst d) (i + 1) = (mapR (worst d) i) ++ [(i, hlpTo i j)] by first | exact mapR_succ id h0 | (rw [mapR_succ (worst d) h0]; unfold worst; rw [show j = d + 1 by omega])).symm)), slot_av (av_vec (congrArg List.length (show mapR id (i + 1) = (mapR id i) ++ [i] by first | exact mapR_succ id h0 | (rw [mapR_succ (worst d) h0]; unfold worst; rw [show j = d + 1 by omega])).symm)), rfl, trivial⟩ (own_cons (own_vec (show mapR id (i + 1) = (mapR id i) ++ [i] by first | exact mapR_succ id h0 | (rw [mapR_succ (worst d) h0]; unfold worst; rw [show j = d + 1 by omega]))) (own_cons (own_vec (show mapR (worst d) (i + 1) = (mapR (worst d) i) ++ [(i, hlpTo i j)] by first | exact mapR_succ id h0 | (rw [mapR_succ (worst d) h0]; unfold worst; rw [show j = d + 1 by omega]))) (rfl))))
  · refine ent_exit ?_
    refine ent_k hK4 ?_
    refine ent_seq fun K17 hK17 => ?_
    refine ent_region ?_
    refine ent_o rfl (ok_move rfl) ?_
    refine ent_o rfl (ok_move rfl) ?_
    refine ent_o rfl (ok_assign rfl) ?_
    refine ent_o rfl (ok_assign rfl) ?_
    refine ent_nil ?_
    refine ent_k hK17 ?_
    refine ent_ret ?_
    exact retR2 (.inr rfl) Try.results25 (resr_tmp (res_cv rfl (cv_vec (k := 1) (off_x rfl) (by first | rfl | assumption | (simp; done) | (simp_all; done) | omega) (by rw [show i = k by omega]; rfl)))) (resr_tmp (res_cv rfl (cv_vec (k := 0) (off_x rfl) (by first | rfl | assumption | (simp; done) | (simp_all; done) | omega) (by rw [show i = k by omega]))))
end Go.Proofs.Ytaipghchkamajaa
