/-
  Walks of functions of the program and the reference.
-/
import Derived.Test.YtfjhbdfgbpcchaaQ5
open Go Go.Cw
namespace Go.Proofs.Ytfjhbdfgbpcchaa
open Try
set_option maxRecDepth 100000
set_option linter.unusedVariables false
set_option linter.unusedSimpArgs false
theorem rcMinors_step (c : Cnv) (N : Nat) (first : Int) (cs : List Int) (hFew : c.Few) (hOk : c.Ok) (hF : FOk c.F) (f0 : 0 ≤ first) (f1 : first ≤ c.n) (hl : cs.length ≤ c.Gen.length) (hN : c.Gen.length - cs.length = N) (hv : ∀ x ∈ cs, 0 ≤ x ∧ x < c.n) (IH : ∀ (k : Int) (Y : List Int), 0 ≤ k → k ≤ c.n → Y.length ≤ c.Gen.length → c.Gen.length - Y.length < N → (∀ x ∈ Y, 0 ≤ x ∧ x < c.n) → Ctr Try.prog 76 [aCnv c, aInt k, aInts Y] (aInts (lS hF (c.mP hF k Y)))) : Ctr Try.prog 76 [aCnv c, aInt first, aSl 1 false aInt cs] (aSl 1 false aInt (lS hF (c.mP hF first cs))) := by
 have hS := hF.1
 have hik : c.k = (c.Gen.length : Int) := rfl
 have hen : c.n = ((ix [] c.Gen 0).length : Int) := rfl
 have hkn := hOk.kn
 have hnl := hOk.len
 refine ctr_of Try.call76 func76 rfl rfl ?_
 intro w O
 refine ent_lenC 0 2 rfl rfl (fun hlen0_2 => ?_)
 refine ent_lenC 0 3 rfl rfl (fun hlen0_3 => ?_)
 refine ent_len 2 rfl (fun hlen2 => ?_)
 refine esr rfl fun _ K1 => ?_
 refine ent_boxS rfl rfl (AllOne.mem ⟨(one_int _), (one_int _), one_sl, one_sl, trivial⟩) (fun b3_1 => ?_)
 refine emm rfl ?_
 refine enk K1 ?_
 refine ent_seq fun _ K2 => ?_
 refine esr rfl fun _ K3 => ?_
 refine ent_o rfl (ok_len rfl runUnderlying22 rfl) ?_
 refine ent_o rfl (ok_fieldAddrEx runUnderlying27 rfl sizeOf25 (by decide) rfl) ?_
 refine ent_o rfl (ok_loadB (k := 0) isAgg25 rfl rfl rfl) ?_
 refine ent_o rfl (ok_len rfl runUnderlying25 rfl) ?_
 refine ent_o rfl (ok_eql rfl rfl) ?_
 refine enk K3 ?_
 refine ent_condD rfl (fun h14 => ?_) (fun h14 => ?_)
 ·have hdl : (lS hF (c.detD hF 0 cs)).length ≤ 2801 := lS_len hF (c.detD_low' hF hFew _ _)
  refine ent_seq fun _ K4 => ?_
  refine ent_draw 7 mixed (by kernel_rfl) (by kernel_rfl) (by kernel_rfl) ?_
  refine dw_o rfl (ok_fieldAddrEx runUnderlying27 rfl sizeOf24 (by decide) rfl) ?_
  refine dw_o rfl (ok_loadBS (k := 0) ti24 rfl rfl rfl) ?_
  refine dw_o rfl (ok_loadBS (k := 0) ti27 rfl rfl rfl) ?_
  refine dw_o rfl (ok_move rfl) ?_
  refine dw_o rfl (ok_call (rcDet_ok c 0 cs ‹_› ‹_› ‹_› (by omega) (by omega) hv) rfl) ?_
  refine dw_o rfl (ok_call (rpMonic_ok c.F (lS hF (c.detD hF 0 cs)) ‹_› (by omega)) rfl) ?_
  refine dw_o rfl (ok_assign rfl) ?_
  refine dw_nil ?_
  refine enk K4 ?_
  refine ent_ret ?_
  exact retR1 (.inr rfl) results76 (resr_tmp (res_cv rfl (cv_sl sub_x (by exact Cnv.mP_full hFew (by omega)))))
 have hlt : cs.length < c.Gen.length := by omega
 refine esp K2 ?_
 refine esk rfl ?_
 refine ent_seq fun _ K6 => ?_
 refine esk rfl ?_
 refine ent_block ?_
 refine ent_cv 7 rfl (cv_nil (sz := 1) (agg := false) (enc := aInt) (xs' := []) (fun _ => rfl) rfl) ?_
 refine ent_loop (fun (j : Int) => (⟨[(2, aSl 1 false aInt cs), (3, aEx (.pointer (some ⟨b3_1, 0, none⟩))), (7, aSl 1 false aInt (lS hF (c.mT hF first cs j))), (8, aInt j)], [oBox b3_1 27 [aInt c.F.P, aInt c.F.M, aSl 1 false aInt c.F.mod, aSl 1 false aRows c.Gen]]⟩ : St)) (fun (j : Int) => (first ≤ j) ∧ (j ≤ c.n)) (fun (j : Int) => (c.n - j).toNat) first ⟨(by omega), ‹_›⟩ (ent_rep ⟨rfl, rfl, slot_av ((by rw [Cnv.mT_zero, lS_zero])), rfl, trivial⟩ rfl) ?_
 rintro j ⟨j0, j1⟩
 show Ent _ ⟨_, [_]⟩ _
 refine ent_seq fun _ K8 => ?_
 refine esr rfl fun _ K9 => ?_
 refine ent_o rfl (ok_fieldAddrEx runUnderlying27 rfl sizeOf25 (by decide) rfl) ?_
 refine ent_o rfl (ok_loadB (k := 0) isAgg25 rfl rfl rfl) ?_
 refine ent_o rfl (ok_index [] sl25 rfl rfl (by omega) (by omega)) ?_
 refine ent_o rfl (ok_load ti42 rfl) ?_
 refine ent_o rfl (ok_len rfl runUnderlying42 rfl) ?_
 refine ent_o rfl (ok_lss rfl rfl) ?_
 refine enk K9 ?_
 refine ent_condD rfl (fun h28 => ?_) (fun h28 => ?_)
 ·have hmt := Cnv.mT_len (hF := hF) hFew hlt j0 (by omega)
  have hlj : (cs ++ [j]).length = cs.length + 1 := by simp
  have hmp := Cnv.mP_len (hF := hF) hFew (first := j + 1) (cs := cs ++ [j]) (by omega) (by omega)
  have hvj : ∀ x ∈ cs ++ [j], 0 ≤ x ∧ x < c.n := fun x hx => by rcases List.mem_append.1 hx with h | h; (exact hv x h); (rw [List.mem_singleton.1 h]; omega)
  refine esp K8 ?_
  refine ent_seq fun _ K10 => ?_
  refine ent_block ?_
  rcases Nat.eq_zero_or_pos (List.length cs) with hz39 | hz39
  ·have hx39 := List.eq_nil_of_length_eq_zero hz39
   refine ent_draw 14 mixed (by kernel_rfl) (by kernel_rfl) (by kernel_rfl) ?_
   refine dw_o rfl (ok_fieldAddrEx runUnderlying27 rfl sizeOf24 (by decide) rfl) ?_
   refine dw_o rfl (ok_loadBS (k := 0) ti24 rfl rfl rfl) ?_
   refine dw_o rfl (ok_move rfl) ?_
   refine dw_o rfl (ok_loadBS (k := 0) ti27 rfl rfl rfl) ?_
   refine dw_o rfl (ok_move rfl) ?_
   refine dw_o rfl (ok_add rfl rfl (by omega) (by omega)) ?_
   refine dw_o rfl (ok_build0 vt22) ?_
   refine dw_o rfl (ok_move rfl) ?_
   refine dw_o rfl (ok_append00 vt22 rfl rfl (cv_id sub_refl) hx39) ?_
   refine dw_o rfl (ok_move rfl) ?_
   refine dw_o rfl (ok_build1 (enc := aInt) (y := j) vt22 rfl (elem_one (one_int _)) (by decide)) ?_
   refine dw_o rfl (OpOK.eqv (C := aSl 1 false aInt (cs ++ [j])) (ok_append0 vt22 rfl rfl (cv_id sub_refl) (by simp) (by simp)) (by rw [hx39]; rfl)) ?_
   refine dw_o rfl (ok_call (IH (j + 1) (cs ++ [j]) (by omega) (by omega) (by omega) (by omega) hvj) rfl) ?_
   refine dw_o rfl (ok_call (rpGcd_ok c.F (lS hF (c.mT hF first cs j)) (lS hF (c.mP hF (j + 1) (cs ++ [j]))) ‹_› (by omega) (by omega)) rfl) ?_
   refine dw_nil ?_
   refine emm rfl ?_
   refine enk K10 ?_
   refine ent_region ?_
   refine emm rfl ?_
   refine ent_o rfl (ok_add rfl rfl (by omega) (by omega)) ?_
   refine emm rfl ?_
   refine ent_nil ?_
   refine ent_again (s := (j)) (j + 1) ⟨(by omega), ‹_›⟩ (by omega) (ent_rep ⟨rfl, rfl, slot_av (av_sl (show gcdP hF (lS hF (c.mT hF first cs j)) (lS hF (c.mP hF (j + 1) (cs ++ [j]))) = lS hF (c.mT hF first cs (j + 1)) by exact Cnv.mT_step hFew (by omega) j0 (by omega))), rfl, trivial⟩ rfl)
  refine ent_drawA3 (enc := aInt) (xs := cs) (ys := [j]) (B1 := aSl 1 false aInt cs) (B2 := aSl 1 false aInt [j]) 14 [] 8 11 [(31, aEx (.pointer (some ⟨b3_1, 0, none⟩))), (32, aAgg [aInt c.F.P, aInt c.F.M, aSl 1 false aInt c.F.mod]), (33, aSl 1 false aInt (lS hF (c.mT hF first cs j))), (34, aAgg [aInt c.F.P, aInt c.F.M, aSl 1 false aInt c.F.mod, aSl 1 false aRows c.Gen]), (35, aInt j), (36, aInt (j + 1)), (37, aNil0), (38, aSl 1 false aInt cs), (39, aNo), (40, aInt j), (41, aSl 1 false aInt [j]), (42, aNo), (43, aNo), (44, aNo)] (fun b3_2 c3_2 => [(31, aEx (.pointer (some ⟨b3_1, 0, none⟩))), (32, aAgg [aInt c.F.P, aInt c.F.M, aSl 1 false aInt c.F.mod]), (33, aSl 1 false aInt (lS hF (c.mT hF first cs j))), (34, aAgg [aInt c.F.P, aInt c.F.M, aSl 1 false aInt c.F.mod, aSl 1 false aRows c.Gen]), (35, aInt j), (36, aInt (j + 1)), (37, aNil0), (38, aSl 1 false aInt cs), (39, aEx (vec (some b3_2) cs.length c3_2)), (40, aInt j), (41, aSl 1 false aInt [j]), (42, aNo), (43, aNo), (44, aNo)]) [(31, aEx (.pointer (some ⟨b3_1, 0, none⟩))), (32, aAgg [aInt c.F.P, aInt c.F.M, aSl 1 false aInt c.F.mod]), (33, aSl 1 false aInt (lS hF (c.mT hF first cs j))), (34, aAgg [aInt c.F.P, aInt c.F.M, aSl 1 false aInt c.F.mod, aSl 1 false aRows c.Gen]), (35, aInt j), (36, aInt (j + 1)), (37, aNil0), (38, aSl 1 false aInt cs), (39, aAny), (40, aInt j), (41, aSl 1 false aInt [j]), (42, aSl 1 false aInt (cs ++ [j])), (43, aSl 1 false aInt (lS hF (c.mP hF (j + 1) (cs ++ [j])))), (44, aSl 1 false aInt (gcdP hF (lS hF (c.mT hF first cs j)) (lS hF (c.mP hF (j + 1) (cs ++ [j])))))] mixed (by kernel_rfl) (by kernel_rfl) (by kernel_rfl) (by kernel_rfl) (by kernel_rfl) (fun _ _ _ _ _ h => h) vt22 rfl (by kernel_rfl) (by kernel_rfl) rfl (by kernel_rfl) (by kernel_rfl) (by kernel_rfl) (fun _ _ => one_int _) (fun _ _ => one_int _) (by omega) (by simp; omega) (by simp; omega) (by kernel_rfl) (fun _ _ => by kernel_rfl) (by kernel_rfl) rfl rfl (cv_id sub_refl) (fun _ _ => rfl) (fun _ _ => rfl) (fun _ _ => cv_id sub_refl) rfl (fun b3_2 c3_2 => ⟨rfl, .inr (.inl rfl), ⟨rfl, .inr (.inl rfl), ⟨rfl, .inr (.inl rfl), ⟨rfl, .inr (.inl rfl), ⟨rfl, .inr (.inl rfl), ⟨rfl, .inr (.inl rfl), ⟨rfl, .inr (.inl rfl), ⟨rfl, .inr (.inl rfl), ⟨rfl, .inl rfl, ⟨rfl, .inr (.inl rfl), ⟨rfl, .inr (.inl rfl), ⟨rfl, .inr (.inl rfl), ⟨rfl, .inr (.inl rfl), ⟨rfl, .inr (.inl rfl), trivial⟩⟩⟩⟩⟩⟩⟩⟩⟩⟩⟩⟩⟩⟩) (fun b3_2 c3_2 => ⟨rfl, .inr (.inl rfl), ⟨rfl, .inr (.inl rfl), ⟨rfl, .inr (.inl rfl), ⟨rfl, .inr (.inl rfl), ⟨rfl, .inr (.inl rfl), ⟨rfl, .inr (.inl rfl), ⟨rfl, .inr (.inl rfl), ⟨rfl, .inr (.inl rfl), ⟨rfl, .inr (.inr (.inr rfl)), ⟨rfl, .inr (.inl rfl), ⟨rfl, .inr (.inl rfl), ⟨rfl, .inl rfl, ⟨rfl, .inr (.inr (.inl rfl)), ⟨rfl, .inr (.inr (.inl rfl)), trivial⟩⟩⟩⟩⟩⟩⟩⟩⟩⟩⟩⟩⟩⟩) (fun _ _ => rfl) rfl ?_ (fun b3_2 c3_2 => ?_) ?_
  ·refine dws_o rfl rfl (OpOK.eqv (ok_fieldAddrEx runUnderlying27 rfl sizeOf24 (by decide) rfl) rfl) ?_
   refine dws_o rfl rfl (OpOK.eqv (ok_loadBS (k := 0) ti24 rfl rfl rfl) rfl) ?_
   refine dws_o rfl rfl (OpOK.eqv (ok_move rfl) rfl) ?_
   refine dws_o rfl rfl (OpOK.eqv (ok_loadBS (k := 0) ti27 rfl rfl rfl) rfl) ?_
   refine dws_o rfl rfl (OpOK.eqv (ok_move rfl) rfl) ?_
   refine dws_o rfl rfl (OpOK.eqv (ok_add rfl rfl (by omega) (by omega)) rfl) ?_
   refine dws_o rfl rfl (OpOK.eqv (ok_build0 vt22) rfl) ?_
   refine dws_o rfl rfl (OpOK.eqv (ok_move rfl) rfl) ?_
   refine dws_s rfl rfl ?_
   refine dws_o rfl rfl (OpOK.eqv (ok_move rfl) rfl) ?_
   refine dws_o rfl rfl (OpOK.eqv (ok_build1 (enc := aInt) (y := j) vt22 rfl (elem_one (one_int _)) (by decide)) rfl) ?_
   refine dws_o rfl rfl (ok_no (x := .tmp 39) (by simp [Op.operands, Call.operands]) rfl) ?_
   refine dws_o rfl rfl (ok_no (x := .tmp 42) (by simp [Op.operands, Call.operands]) rfl) ?_
   refine dws_o rfl rfl (ok_no (x := .tmp 43) (by simp [Op.operands, Call.operands]) rfl) ?_
   exact dws_nil trivial
  ·refine dws_o rfl rfl (OpOK.eqv (ok_fieldAddrEx runUnderlying27 rfl sizeOf24 (by decide) rfl) rfl) ?_
   refine dws_o rfl rfl (OpOK.eqv (ok_loadBS (k := 1) ti24 rfl rfl rfl) rfl) ?_
   refine dws_o rfl rfl (OpOK.eqv (ok_move rfl) rfl) ?_
   refine dws_o rfl rfl (OpOK.eqv (ok_loadBS (k := 1) ti27 rfl rfl rfl) rfl) ?_
   refine dws_o rfl rfl (OpOK.eqv (ok_move rfl) rfl) ?_
   refine dws_o rfl rfl (OpOK.eqv (ok_add rfl rfl (by omega) (by omega)) rfl) ?_
   refine dws_o rfl rfl (OpOK.eqv (ok_build0 vt22) rfl) ?_
   refine dws_o rfl rfl (OpOK.eqv (ok_move rfl) rfl) ?_
   refine dws_s rfl rfl ?_
   refine dws_o rfl rfl (OpOK.eqv (ok_move rfl) rfl) ?_
   refine dws_o rfl rfl (OpOK.eqv (ok_build1 (enc := aInt) (y := j) vt22 rfl (elem_one (one_int _)) (by decide)) rfl) ?_
   refine dws_s rfl rfl ?_
   refine dws_o rfl rfl (ok_no (x := .tmp 42) (by simp [Op.operands, Call.operands]) rfl) ?_
   refine dws_o rfl rfl (ok_no (x := .tmp 43) (by simp [Op.operands, Call.operands]) rfl) ?_
   exact dws_nil trivial
  refine dws_o rfl rfl (OpOK.eqv (ok_fieldAddrEx runUnderlying27 rfl sizeOf24 (by decide) rfl) rfl) ?_
  refine dws_o rfl rfl (OpOK.eqv (ok_loadBS (k := 0) ti24 rfl rfl rfl) rfl) ?_
  refine dws_o rfl rfl (OpOK.eqv (ok_move rfl) rfl) ?_
  refine dws_o rfl rfl (OpOK.eqv (ok_loadBS (k := 0) ti27 rfl rfl rfl) rfl) ?_
  refine dws_o rfl rfl (OpOK.eqv (ok_move rfl) rfl) ?_
  refine dws_o rfl rfl (OpOK.eqv (ok_add rfl rfl (by omega) (by omega)) rfl) ?_
  refine dws_o rfl rfl (OpOK.eqv (ok_build0 vt22) rfl) ?_
  refine dws_o rfl rfl (OpOK.eqv (ok_move rfl) rfl) ?_
  refine dws_s rfl rfl ?_
  refine dws_o rfl rfl (OpOK.eqv (ok_move rfl) rfl) ?_
  refine dws_o rfl rfl (OpOK.eqv (ok_build1 (enc := aInt) (y := j) vt22 rfl (elem_one (one_int _)) (by decide)) rfl) ?_
  refine dws_s rfl rfl ?_
  refine dws_o rfl rfl (OpOK.eqv (ok_call (IH (j + 1) (cs ++ [j]) (by omega) (by omega) (by omega) (by omega) hvj) rfl) rfl) ?_
  refine dws_o rfl rfl (OpOK.eqv (ok_call (rpGcd_ok c.F (lS hF (c.mT hF first cs j)) (lS hF (c.mP hF (j + 1) (cs ++ [j]))) ‹_› (by omega) (by omega)) rfl) rfl) ?_
  refine dws_nil ?_
  refine emm rfl ?_
  refine enk K10 ?_
  refine ent_region ?_
  refine emm rfl ?_
  refine ent_o rfl (ok_add rfl rfl (by omega) (by omega)) ?_
  refine emm rfl ?_
  refine ent_nil ?_
  refine ent_again (s := (j)) (j + 1) ⟨(by omega), ‹_›⟩ (by omega) (ent_rep ⟨rfl, rfl, slot_av (av_sl (show gcdP hF (lS hF (c.mT hF first cs j)) (lS hF (c.mP hF (j + 1) (cs ++ [j]))) = lS hF (c.mT hF first cs (j + 1)) by exact Cnv.mT_step hFew (by omega) j0 (by omega))), rfl, trivial⟩ rfl)
 refine ent_exit ?_
 refine ent_k K6 ?_
 refine esk rfl ?_
 refine ent_ret ?_
 exact retR1 (.inr rfl) results76 (resr_tmp (res_cv rfl (cv_sl sub_x (by rw [Cnv.mT_done hFew hlt j0 (by omega)]))))

theorem rcMinors_ok (c : Cnv) (first : Int) (cs : List Int) (hFew : c.Few) (hOk : c.Ok) (hF : FOk c.F) (f0 : 0 ≤ first) (f1 : first ≤ c.n) (hl : cs.length ≤ c.Gen.length) (hv : ∀ x ∈ cs, 0 ≤ x ∧ x < c.n) : Ctr Try.prog 76 [aCnv c, aInt first, aInts cs] (aInts (lS hF (c.mP hF first cs))) := by
 have key : ∀ (N : Nat) (first : Int) (cs : List Int), 0 ≤ first → first ≤ c.n → cs.length ≤ c.Gen.length → c.Gen.length - cs.length = N → (∀ x ∈ cs, 0 ≤ x ∧ x < c.n) → Ctr Try.prog 76 [aCnv c, aInt first, aInts cs] (aInts (lS hF (c.mP hF first cs))) := by
  intro N
  induction N using Nat.strongRecOn with
  | ind N ih => exact fun first cs f0 f1 hl hN hv => rcMinors_step c N first cs hFew hOk hF f0 f1 hl hN hv (fun k Y k0 k1 h1 h2 h3 => ih _ h2 k Y k0 k1 h1 rfl h3)
 exact key _ first cs f0 f1 hl rfl hv
end Go.Proofs.Ytfjhbdfgbpcchaa

