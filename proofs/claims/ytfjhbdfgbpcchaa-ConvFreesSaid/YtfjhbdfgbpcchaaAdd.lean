/-
  Sums of lists and weights, of the reference.
-/
import Derived.Test.YtfjhbdfgbpcchaaProg
import Derived.Test.YtfjhbdfgbpcchaaTab
import Derived.Test.YtfjhbdfgbpcchaaCy
import Derived.Test.YtfjhbdfgbpcchaaPlainW
import Derived.Test.YtfjhbdfgbpcchaaFieldA
import Derived.Test.YtfjhbdfgbpcchaaFieldB
import Derived.Test.YtfjhbdfgbpcchaaFieldC
import Derived.Test.YtfjhbdfgbpcchaaFieldE
import Derived.Test.YtfjhbdfgbpcchaaPoly
import Derived.Test.YtfjhbdfgbpcchaaBuild
import Derived.Test.YtfjhbdfgbpcchaaRefC
import Derived.Test.YtfjhbdfgbpcchaaStep
import Derived.Test.YtfjhbdfgbpcchaaRefN
open Go Go.Cw
namespace Go.Proofs.Ytfjhbdfgbpcchaa
set_option maxRecDepth 100000
set_option linter.unusedVariables false
set_option linter.unusedSimpArgs false
theorem rAddTo_ok (f : Fld) (v : List Int) (a : Int) (u : List Int) (hS : Shape f) (hl : v.length ≤ u.length) (hv1 : v.length ≤ 1000000) : Ctr Try.prog 30 [aFld f, aSl 1 false aInt v, aInt a, aSl 1 false aInt u] (aSl 1 false aInt (addToL f v a u)) := by
  refine ctr_of Try.call30 Try.func30 rfl rfl ?_
  intro w O
  refine ent_lenC 0 2 rfl rfl (fun hlen0_2 => ?_)
  refine ent_len 1 rfl (fun hlen1 => ?_)
  refine ent_len 3 rfl (fun hlen3 => ?_)
  refine ent_seq fun K1 hK1 => ?_
  refine ent_region ?_
  refine ent_boxS rfl rfl (AllOne.mem ⟨(one_int _), (one_int _), one_sl, trivial⟩) (fun b4_1 => ?_)
  refine ent_o rfl (ok_assign rfl) ?_
  refine ent_nil ?_
  refine ent_k hK1 ?_
  refine ent_seq fun K2 hK2 => ?_
  refine ent_region ?_
  refine ent_o rfl (ok_move rfl) ?_
  refine ent_o rfl (ok_len rfl Try.runUnderlying22 rfl) ?_
  refine ent_make aInt 0 rfl vt22 rfl rfl (by omega) (by omega) (by omega) (fun _ _ => rfl) (AllV.mem ⟨rfl, trivial⟩) (fun b13_2 => ?_)
  refine ent_o rfl (ok_assign rfl) ?_
  refine ent_nil ?_
  refine ent_k hK2 ?_
  refine ent_seq fun K3 hK3 => ?_
  refine ent_seq fun K4 hK4 => ?_
  refine ent_region ?_
  refine ent_o rfl (ok_assign rfl) ?_
  refine ent_nil ?_
  refine ent_k hK4 ?_
  refine ent_block ?_
  refine ent_loop (fun (i : Int) => (⟨[(1, aSl 1 false aInt v), (2, aInt a), (3, aSl 1 false aInt u), (4, aEx (.pointer (some ⟨b4_1, 0, none⟩))), (9, aEx (vec (some b13_2) (((↑v.length : Int)).toNat) (((↑v.length : Int)).toNat))), (10, aInt i)], [oVec (some b13_2) (((↑v.length : Int)).toNat) 3 1 false aInt (fillR (fun j => addTo1 f (ix 0 v j) a (ix 0 u j)) 0 v.length i), oBox b4_1 24 [aInt f.P, aInt f.M, aSl 1 false aInt f.mod]]⟩ : St)) (fun (i : Int) => (0 ≤ i) ∧ (i ≤ v.length)) (fun (i : Int) => (v.length - i).toNat) 0 ⟨(by first | rfl | assumption | omega | (simp_all; done) | grind), (by first | rfl | assumption | omega | (simp_all; done) | grind)⟩ (ent_rep ⟨rfl, rfl, rfl, rfl, rfl, slot_av (av_int (show 0 = (0 : Int) by first | rfl | assumption | omega | (simp_all; done) | grind)), trivial⟩ (own_cons (own_vec (show fillR (fun j => addTo1 f (ix 0 v j) a (ix 0 u j)) 0 v.length (0 : Int) = List.replicate (((↑v.length : Int)).toNat) 0 by exact fillR_zero _ _ _)) (rfl))) ?_
  rintro i ⟨h0, h1⟩
  show Ent _ (⟨[(1, aSl 1 false aInt v), (2, aInt a), (3, aSl 1 false aInt u), (4, aEx (.pointer (some ⟨b4_1, 0, none⟩))), (9, aEx (vec (some b13_2) (((↑v.length : Int)).toNat) (((↑v.length : Int)).toNat))), (10, aInt i)], [oVec (some b13_2) (((↑v.length : Int)).toNat) 3 1 false aInt (fillR (fun j => addTo1 f (ix 0 v j) a (ix 0 u j)) 0 v.length i), oBox b4_1 24 [aInt f.P, aInt f.M, aSl 1 false aInt f.mod]]⟩ : St) _
  have lf : (fillR (fun j => addTo1 f (ix 0 v j) a (ix 0 u j)) 0 v.length i).length = ((v.length : Int)).toNat := length_fillR _ 0 h0 h1
  have lf2 : (List.set (fillR (fun j => addTo1 f (ix 0 v j) a (ix 0 u j)) 0 v.length i) i.toNat (ix 0 v i)).length = ((v.length : Int)).toNat := by rw [List.length_set]; exact lf
  refine ent_seq fun K5 hK5 => ?_
  refine ent_seq fun K6 hK6 => ?_
  refine ent_region ?_
  refine ent_o rfl (ok_move rfl) ?_
  refine ent_o rfl (ok_move rfl) ?_
  refine ent_o rfl (ok_len rfl Try.runUnderlying22 rfl) ?_
  refine ent_o rfl (ok_lss rfl rfl) ?_
  refine ent_nil ?_
  refine ent_k hK6 ?_
  refine ent_condD rfl (fun h17 => ?_) (fun h17 => ?_)
  · refine ent_skip ?_
    refine ent_k hK5 ?_
    refine ent_seq fun K7 hK7 => ?_
    refine ent_block ?_
    refine ent_seq fun K8 hK8 => ?_
    refine ent_region ?_
    refine ent_o rfl (ok_move rfl) ?_
    refine ent_o rfl (ok_move rfl) ?_
    refine ent_o rfl (ok_move rfl) ?_
    refine ent_o rfl (ok_move rfl) ?_
    refine ent_o rfl (ok_index 0 sl22 rfl rfl (by omega) (by omega)) ?_
    refine ent_o rfl (ok_load ti3 rfl) ?_
    refine ent_o rfl (ok_indexV sl22 rfl rfl (by omega) (by omega)) ?_
    refine ent_storeV (k := 0) (z := ix 0 v i) ti3 rfl rfl rfl (elem_one (one_int _)) (by omega) (by omega) ?_
    refine ent_nil ?_
    refine ent_k hK8 ?_
    refine ent_seq fun K9 hK9 => ?_
    refine ent_region ?_
    refine ent_o rfl (ok_move rfl) ?_
    refine ent_o rfl (ok_move rfl) ?_
    refine ent_o rfl (ok_index 0 sl22 rfl rfl (by omega) (by omega)) ?_
    refine ent_o rfl (ok_load ti3 rfl) ?_
    refine ent_o rfl (ok_neq rfl rfl) ?_
    refine ent_nil ?_
    refine ent_k hK9 ?_
    refine ent_condD rfl (fun h31 => ?_) (fun h31 => ?_)
    · refine ent_draw 16 mixed (by kernel_rfl) (by kernel_rfl) (by kernel_rfl) ?_
      refine dw_o rfl (ok_move rfl) ?_
      refine dw_o rfl (ok_move rfl) ?_
      refine dw_o rfl (ok_loadBS (k := 1) ti24 rfl rfl rfl) ?_
      refine dw_o rfl (ok_move rfl) ?_
      refine dw_o rfl (ok_move rfl) ?_
      refine dw_o rfl (ok_index 0 sl22 rfl rfl (by omega) (by omega)) ?_
      refine dw_o rfl (ok_load ti3 rfl) ?_
      refine dw_o rfl (ok_loadBS (k := 1) ti24 rfl rfl rfl) ?_
      refine dw_o rfl (ok_move rfl) ?_
      refine dw_o rfl (ok_move rfl) ?_
      refine dw_o rfl (ok_move rfl) ?_
      refine dw_o rfl (ok_index 0 sl22 rfl rfl (by omega) (by omega)) ?_
      refine dw_o rfl (ok_load ti3 rfl) ?_
      refine dw_o rfl (ok_call (rMul_ok f a (ix 0 u i) (by first | rfl | assumption | omega | (simp_all; done) | grind)) rfl) ?_
      refine dw_o rfl (ok_call (rAdd_ok f (ix 0 v i) (mulF f a (ix 0 u i)) (by first | rfl | assumption | omega | (simp_all; done) | grind)) rfl) ?_
      refine dw_o rfl (ok_indexV sl22 rfl rfl (by omega) (by omega)) ?_
      refine dw_nil ?_
      refine ent_storeV (k := 0) (z := addF f (ix 0 v i) (mulF f a (ix 0 u i))) ti3 rfl rfl rfl (elem_one (one_int _)) (by omega) (by omega) ?_
      refine ent_nil ?_
      refine ent_k hK7 ?_
      refine ent_region ?_
      refine ent_o rfl (ok_move rfl) ?_
      refine ent_o rfl (ok_add rfl rfl (by omega) (by omega)) ?_
      refine ent_o rfl (ok_assign rfl) ?_
      refine ent_nil ?_
      refine ent_again (s := (i)) (i + 1) ⟨(by first | rfl | assumption | omega | (simp_all; done) | grind), (by first | rfl | assumption | omega | (simp_all; done) | grind)⟩ (by first | omega | (dsimp only; omega)) (ent_rep ⟨rfl, rfl, rfl, rfl, rfl, rfl, trivial⟩ (own_cons (own_vec (show fillR (fun j => addTo1 f (ix 0 v j) a (ix 0 u j)) 0 v.length (i + 1) = List.set (List.set (fillR (fun j => addTo1 f (ix 0 v j) a (ix 0 u j)) 0 v.length i) (i).toNat (ix 0 v i)) (i).toNat (addF f (ix 0 v i) (mulF f a (ix 0 u i))) by rw [← fillR_set _ 0 h0 h17]; first | (rw [List.set_set, show addTo1 f (ix 0 v i) a (ix 0 u i) = _ from if_neg h31]) | (rw [show addTo1 f (ix 0 v i) a (ix 0 u i) = _ from if_pos (Classical.not_not.1 h31)]))) (rfl)))
    · refine ent_skip ?_
      refine ent_k hK7 ?_
      refine ent_region ?_
      refine ent_o rfl (ok_move rfl) ?_
      refine ent_o rfl (ok_add rfl rfl (by omega) (by omega)) ?_
      refine ent_o rfl (ok_assign rfl) ?_
      refine ent_nil ?_
      refine ent_again (s := (i)) (i + 1) ⟨(by first | rfl | assumption | omega | (simp_all; done) | grind), (by first | rfl | assumption | omega | (simp_all; done) | grind)⟩ (by first | omega | (dsimp only; omega)) (ent_rep ⟨rfl, rfl, rfl, rfl, rfl, rfl, trivial⟩ (own_cons (own_vec (show fillR (fun j => addTo1 f (ix 0 v j) a (ix 0 u j)) 0 v.length (i + 1) = List.set (fillR (fun j => addTo1 f (ix 0 v j) a (ix 0 u j)) 0 v.length i) (i).toNat (ix 0 v i) by rw [← fillR_set _ 0 h0 h17]; first | (rw [List.set_set, show addTo1 f (ix 0 v i) a (ix 0 u i) = _ from if_neg h31]) | (rw [show addTo1 f (ix 0 v i) a (ix 0 u i) = _ from if_pos (Classical.not_not.1 h31)]))) (rfl)))
  · refine ent_exit ?_
    refine ent_k hK3 ?_
    refine ent_seq fun K10 hK10 => ?_
    refine ent_region ?_
    refine ent_o rfl (ok_move rfl) ?_
    refine ent_o rfl (ok_assign rfl) ?_
    refine ent_nil ?_
    refine ent_k hK10 ?_
    refine ent_ret ?_
    exact retR1 (.inr rfl) Try.results30 (resr_tmp (res_cv rfl (cv_vec (k := 0) (off_x rfl) (by first | rfl | (simp; done) | (simp_all; done) | omega) (by rw [fillR_all _ 0 (by omega), show i = (v.length : Int) by omega]; rfl))))

theorem rWeight_ok (rows : List (List Int)) (hwl : rows.length ≤ 10000) (hwr : ∀ r ∈ rows, (r.length : Int) ≤ 10000) : Ctr Try.prog 32 [aSl 1 false aInts rows] (aInt (wtL rows)) := by
  refine ctr_of Try.call32 Try.func32 rfl rfl ?_
  intro w O
  refine ent_len 0 rfl (fun hlen0 => ?_)
  refine ent_seq fun K1 hK1 => ?_
  refine ent_region ?_
  refine ent_o rfl (ok_assign rfl) ?_
  refine ent_nil ?_
  refine ent_k hK1 ?_
  refine ent_seq fun K2 hK2 => ?_
  refine ent_region ?_
  refine ent_o rfl (ok_assign rfl) ?_
  refine ent_nil ?_
  refine ent_k hK2 ?_
  refine ent_seq fun K3 hK3 => ?_
  refine ent_seq fun K4 hK4 => ?_
  refine ent_region ?_
  refine ent_o rfl (ok_assign rfl) ?_
  refine ent_nil ?_
  refine ent_k hK4 ?_
  refine ent_block ?_
  refine ent_loop (fun (i : Int) => (⟨[(0, aSl 1 false aInts rows), (3, aInt (wtTo rows i.toNat)), (4, aInt i)], []⟩ : St)) (fun (i : Int) => (0 ≤ i) ∧ (i ≤ rows.length)) (fun (i : Int) => (rows.length - i).toNat) 0 ⟨(by first | rfl | assumption | omega | (simp_all; done) | grind), (by first | rfl | assumption | omega | (simp_all; done) | grind)⟩ (ent_rep ⟨rfl, slot_av (av_int (show 0 = wtTo rows (0 : Int).toNat by rfl)), slot_av (av_int (show 0 = (0 : Int) by first | rfl | assumption | omega | (simp_all; done) | grind)), trivial⟩ rfl) ?_
  rintro i ⟨h0, h1⟩
  show Ent _ (⟨[(0, aSl 1 false aInts rows), (3, aInt (wtTo rows i.toNat)), (4, aInt i)], []⟩ : St) _
  refine ent_seq fun K5 hK5 => ?_
  refine ent_seq fun K6 hK6 => ?_
  refine ent_region ?_
  refine ent_o rfl (ok_move rfl) ?_
  refine ent_o rfl (ok_move rfl) ?_
  refine ent_o rfl (ok_len rfl Try.runUnderlying42 rfl) ?_
  refine ent_o rfl (ok_lss rfl rfl) ?_
  refine ent_nil ?_
  refine ent_k hK6 ?_
  refine ent_condD rfl (fun h9 => ?_) (fun h9 => ?_)
  · have hwi := wtTo_le rows (by omega) hwr i.toNat (by omega)
    have hwj := hwr _ (ix_mem [] rows h0 h9)
    refine ent_skip ?_
    refine ent_k hK5 ?_
    refine ent_seq fun K7 hK7 => ?_
    refine ent_block ?_
    refine ent_seq fun K8 hK8 => ?_
    refine ent_region ?_
    refine ent_o rfl (ok_assign rfl) ?_
    refine ent_nil ?_
    refine ent_k hK8 ?_
    refine ent_block ?_
    refine ent_loop (fun (j : Int) => (⟨[(0, aSl 1 false aInts rows), (3, aInt (wtTo rows i.toNat + wt1To (ix [] rows i) j.toNat)), (4, aInt i), (5, aInt j)], []⟩ : St)) (fun (j : Int) => (0 ≤ j) ∧ (j ≤ (ix [] rows i).length)) (fun (j : Int) => ((ix [] rows i).length - j).toNat) 0 ⟨(by first | rfl | assumption | omega | (simp_all; done) | grind), (by first | rfl | assumption | omega | (simp_all; done) | grind)⟩ (ent_rep ⟨rfl, slot_av (av_int (show wtTo rows i.toNat = wtTo rows i.toNat + wt1To (ix [] rows i) (0 : Int).toNat by simp [wt1To])), rfl, slot_av (av_int (show 0 = (0 : Int) by first | rfl | assumption | omega | (simp_all; done) | grind)), trivial⟩ rfl) ?_
    rintro j ⟨j0, j1⟩
    show Ent _ (⟨[(0, aSl 1 false aInts rows), (3, aInt (wtTo rows i.toNat + wt1To (ix [] rows i) j.toNat)), (4, aInt i), (5, aInt j)], []⟩ : St) _
    have hwb := wt1To_le (ix [] rows i) j.toNat
    have hwn := wtTo_nonneg rows i.toNat
    refine ent_seq fun K9 hK9 => ?_
    refine ent_seq fun K10 hK10 => ?_
    refine ent_region ?_
    refine ent_o rfl (ok_move rfl) ?_
    refine ent_o rfl (ok_move rfl) ?_
    refine ent_o rfl (ok_move rfl) ?_
    refine ent_o rfl (ok_index [] sl42 rfl rfl (by omega) (by omega)) ?_
    refine ent_o rfl (ok_load ti22 rfl) ?_
    refine ent_o rfl (ok_len rfl Try.runUnderlying22 rfl) ?_
    refine ent_o rfl (ok_lss rfl rfl) ?_
    refine ent_nil ?_
    refine ent_k hK10 ?_
    refine ent_condD rfl (fun h18 => ?_) (fun h18 => ?_)
    · refine ent_skip ?_
      refine ent_k hK9 ?_
      refine ent_seq fun K11 hK11 => ?_
      refine ent_block ?_
      refine ent_seq fun K12 hK12 => ?_
      refine ent_region ?_
      refine ent_o rfl (ok_move rfl) ?_
      refine ent_o rfl (ok_move rfl) ?_
      refine ent_o rfl (ok_index [] sl42 rfl rfl (by omega) (by omega)) ?_
      refine ent_o rfl (ok_load ti22 rfl) ?_
      refine ent_o rfl (ok_move rfl) ?_
      refine ent_o rfl (ok_index 0 sl22 rfl rfl (by omega) (by omega)) ?_
      refine ent_o rfl (ok_load ti3 rfl) ?_
      refine ent_o rfl (ok_neq rfl rfl) ?_
      refine ent_nil ?_
      refine ent_k hK12 ?_
      refine ent_condD rfl (fun h28 => ?_) (fun h28 => ?_)
      · refine ent_region ?_
        refine ent_o rfl (ok_move rfl) ?_
        refine ent_o rfl (ok_add rfl rfl (by omega) (by omega)) ?_
        refine ent_o rfl (ok_assign rfl) ?_
        refine ent_nil ?_
        refine ent_k hK11 ?_
        refine ent_region ?_
        refine ent_o rfl (ok_move rfl) ?_
        refine ent_o rfl (ok_add rfl rfl (by omega) (by omega)) ?_
        refine ent_o rfl (ok_assign rfl) ?_
        refine ent_nil ?_
        refine ent_again (s := (j)) (j + 1) ⟨(by first | rfl | assumption | omega | (simp_all; done) | grind), (by first | rfl | assumption | omega | (simp_all; done) | grind)⟩ (by first | omega | (dsimp only; omega)) (ent_rep ⟨rfl, slot_av (av_int (show (wtTo rows i.toNat + wt1To (ix [] rows i) j.toNat) + 1 = wtTo rows i.toNat + wt1To (ix [] rows i) (j + 1).toNat by rw [wt1To_succ _ j0]; first | (rw [if_neg h28]; omega) | (rw [if_pos (Classical.not_not.1 h28)]; omega))), rfl, rfl, trivial⟩ rfl)
      · refine ent_skip ?_
        refine ent_k hK11 ?_
        refine ent_region ?_
        refine ent_o rfl (ok_move rfl) ?_
        refine ent_o rfl (ok_add rfl rfl (by omega) (by omega)) ?_
        refine ent_o rfl (ok_assign rfl) ?_
        refine ent_nil ?_
        refine ent_again (s := (j)) (j + 1) ⟨(by first | rfl | assumption | omega | (simp_all; done) | grind), (by first | rfl | assumption | omega | (simp_all; done) | grind)⟩ (by first | omega | (dsimp only; omega)) (ent_rep ⟨rfl, slot_av (av_int (show wtTo rows i.toNat + wt1To (ix [] rows i) j.toNat = wtTo rows i.toNat + wt1To (ix [] rows i) (j + 1).toNat by rw [wt1To_succ _ j0]; first | (rw [if_neg h28]; omega) | (rw [if_pos (Classical.not_not.1 h28)]; omega))), rfl, rfl, trivial⟩ rfl)
    · refine ent_exit ?_
      refine ent_k hK7 ?_
      refine ent_region ?_
      refine ent_o rfl (ok_move rfl) ?_
      refine ent_o rfl (ok_add rfl rfl (by omega) (by omega)) ?_
      refine ent_o rfl (ok_assign rfl) ?_
      refine ent_nil ?_
      refine ent_again (s := (i)) (i + 1) ⟨(by first | rfl | assumption | omega | (simp_all; done) | grind), (by first | rfl | assumption | omega | (simp_all; done) | grind)⟩ (by first | omega | (dsimp only; omega)) (ent_rep ⟨rfl, slot_av (av_int (show wtTo rows i.toNat + wt1To (ix [] rows i) j.toNat = wtTo rows (i + 1).toNat by rw [wtTo_succ rows h0, show j.toNat = (ix [] rows i).length by omega]; rfl)), rfl, trivial⟩ rfl)
  · refine ent_exit ?_
    refine ent_k hK3 ?_
    refine ent_seq fun K13 hK13 => ?_
    refine ent_region ?_
    refine ent_o rfl (ok_move rfl) ?_
    refine ent_o rfl (ok_assign rfl) ?_
    refine ent_nil ?_
    refine ent_k hK13 ?_
    refine ent_ret ?_
    exact retR1 (.inr rfl) Try.results32 (resr_tmp (res_cv rfl (cv_int (by rw [show i.toNat = rows.length by omega]; rfl))))
end Go.Proofs.Ytfjhbdfgbpcchaa
