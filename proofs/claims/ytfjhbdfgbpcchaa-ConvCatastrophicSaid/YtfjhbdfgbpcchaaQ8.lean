/-
  Walks of functions of the program and the reference.
-/
import Derived.Test.YtfjhbdfgbpcchaaQ7
open Go Go.Cw
namespace Go.Proofs.Ytfjhbdfgbpcchaa
open Try
set_option maxRecDepth 100000
set_option linter.unusedVariables false
set_option linter.unusedSimpArgs false
theorem clear_ok (c : Cnv) (r : Option Nat) (cap : Nat) (Hs : List Hdr) (xss : L3) (row i j : Int) (B : Nat) (hF : FOk c.F) (T : c.TrI hF xss) (hB : c.LB xss B) (hB2 : B ≤ 163840) (hkn : c.k ≤ c.n) (hn64 : c.n ≤ 64) (hH : Hs.length = xss.length) (r0 : 0 ≤ row) (r1 : row < c.k + c.n) (i0 : 0 ≤ i) (i1 : i < c.n) (j0 : 0 ≤ j) (j1 : j < c.n) (hij : i ≠ j) : CtrW Try.prog 113 [oVec r cap 42 1 false aH Hs, oRws 22 aInts [] Hs xss] [aMach c, aEx (vec r Hs.length cap), aInt row, aInt i, aInt j] (fun (Y : L3) => ∃ hF : FOk c.F, c.ClI hF xss Y row i j B ∧ ix [] (ix [] Y row) j = []) (fun (Y : L3) => aAny) (fun (Y : L3) => [oVec r cap 42 1 false aH Hs, oRws 22 aInts [] Hs Y]) := by
 have hS := hF.1
 have hTl := T.len
 refine ctrW_of Try.call113 func113 rfl rfl ?_
 intro w O
 refine ent_lenP 0 1 rfl rfl (fun hlen0_1 => ?_)
 refine ent_lenP 0 4 rfl rfl (fun hlen0_4 => ?_)
 refine ent_lenP 0 8 rfl rfl (fun hlen0_8 => ?_)
 refine ent_block ?_
 refine ent_loop (fun (Y : L3) => (⟨[(0, aMach c), (1, aEx (vec r Hs.length cap)), (2, aInt row), (3, aInt i), (4, aInt j)], [oVec r cap 42 1 false aH Hs, oRws 22 aInts [] Hs Y]⟩ : St)) (fun (Y : L3) => (c.ClI hF xss Y row i j B)) (fun (Y : L3) => (ix [] (ix [] Y row) j).length) xss (Cnv.ClI.start T hB r0 r1 i0 i1 j0 j1) (ent_rep ⟨rfl, rfl, rfl, rfl, rfl, trivial⟩ rfl) ?_
 rintro Y C
 show Ent _ ⟨_, [_, _]⟩ _
 have TY := C.tr
 have hYl := TY.len
 have hrow := TY.row row r0 r1
 have cnj := TY.cn row j r0 r1 j0 j1
 have l0 := C.ln row i r0 r1 i0 i1
 have l1 := C.ln row j r0 r1 j0 j1
 unfold eL at cnj l0 l1
 refine ent_seq fun _ K1 => ?_
 refine esr rfl fun _ K2 => ?_
 refine ent_o rfl (ok_indexV0 (k := 0) sl25 rfl rfl rfl rfl (by omega) (by omega)) ?_
 refine ent_o rfl (ok_loadV0 (k := 0) Hdr.no ti42 rfl rfl (by omega) (by omega)) ?_
 refine emm rfl ?_
 refine ent_o rfl (ok_indexH (k := 1) sl42 rfl rfl rfl (by omega) (by omega) (by exact List.not_mem_nil) (by omega) (by omega)) ?_
 refine ent_o rfl (ok_loadH (k := 1) [] ti22 rfl rfl (by omega) (by omega) (by exact List.not_mem_nil) (by omega) (by omega)) ?_
 refine ent_o rfl (ok_len rfl runUnderlying22 rfl) ?_
 refine ent_o rfl (ok_gtr rfl rfl) ?_
 refine enk K2 ?_
 refine ent_condD rfl (fun h23 => ?_) (fun h23 => ?_)
 ·have hb0 : 0 < (ix [] (ix [] Y row) j).length := by omega
  have hnx := Cnv.ClI.next C r0 r1 i0 i1 j0 j1 hij hb0
  unfold eL at hnx
  have lqq := Cnv.quoP_len hF (a := (ix [] (ix [] Y row) i)) cnj (by omega)
  refine esp K1 ?_
  refine ent_block ?_
  refine ent_seq fun _ K3 => ?_
  refine ent_draw 26 mixed (by kernel_rfl) (drawQ_F (by kernel_rfl)) (by kernel_rfl) ?_
  refine dw_o rfl (ok_move rfl) ?_
  refine dw_o rfl (ok_nilCheck rfl) ?_
  refine dw_o rfl (ok_fieldAddr1 runUnderlying84 rfl sizeOf82 rfl rfl) ?_
  refine dw_o rfl (ok_load ti82 rfl) ?_
  refine dw_o rfl (ok_move rfl) ?_
  refine dw_o rfl (ok_move rfl) ?_
  refine dw_o rfl (ok_indexV0 (k := 0) sl25 rfl rfl rfl rfl (by omega) (by omega)) ?_
  refine dw_o rfl (ok_loadV0 (k := 0) Hdr.no ti42 rfl rfl (by omega) (by omega)) ?_
  refine dw_o rfl (ok_move rfl) ?_
  refine dw_o rfl (ok_indexH (k := 1) sl42 rfl rfl rfl (by omega) (by omega) (by exact List.not_mem_nil) (by omega) (by omega)) ?_
  refine dw_o rfl (ok_loadH (k := 1) [] ti22 rfl rfl (by omega) (by omega) (by exact List.not_mem_nil) (by omega) (by omega)) ?_
  refine dw_o rfl (ok_move rfl) ?_
  refine dw_o rfl (ok_move rfl) ?_
  refine dw_o rfl (ok_indexV0 (k := 0) sl25 rfl rfl rfl rfl (by omega) (by omega)) ?_
  refine dw_o rfl (ok_loadV0 (k := 0) Hdr.no ti42 rfl rfl (by omega) (by omega)) ?_
  refine dw_o rfl (ok_move rfl) ?_
  refine dw_o rfl (ok_indexH (k := 1) sl42 rfl rfl rfl (by omega) (by omega) (by exact List.not_mem_nil) (by omega) (by omega)) ?_
  refine dw_o rfl (ok_loadH (k := 1) [] ti22 rfl rfl (by omega) (by omega) (by exact List.not_mem_nil) (by omega) (by omega)) ?_
  refine dw_o rfl (ok_call (polyDivMod_ok c.F (ix [] (ix [] Y row) i) (ix [] (ix [] Y row) j) ‹_› (by omega) (by omega) (by rw [cnrP_id hF cnj]; omega)) rfl) ?_
  refine dw_o rfl (ok_move rfl) ?_
  refine dw_o rfl (ok_extract rfl rfl) ?_
  refine dw_o rfl (ok_extract rfl rfl) ?_
  refine dw_o rfl (ok_extract rfl rfl) ?_
  refine dw_o rfl (ok_assign rfl) ?_
  refine dw_o rfl (ok_assign rfl) ?_
  refine dw_o rfl (ok_assign rfl) ?_
  refine dw_nil ?_
  refine enk K3 ?_
  refine ent_seq fun _ K4 => ?_
  refine esr rfl fun _ K5 => ?_
  refine ent_o rfl (ok_neq rfl rfl) ?_
  refine enk K5 ?_
  refine ent_condFP rfl (by decide) ?_
  refine esp K4 ?_
  refine esr rfl fun _ K6 => ?_
  refine ent_o rfl (ok_lenEx rfl runUnderlying25 rfl) ?_
  refine emm rfl ?_
  refine enk K6 ?_
  refine ent_block ?_
  refine ent_loop (fun (t : Int) => (⟨[(0, aMach c), (1, aEx (vec r Hs.length cap)), (2, aInt row), (3, aInt i), (4, aInt j), (10, aSl 1 false aInt (quoP hF (ix [] (ix [] Y row) i) (ix [] (ix [] Y row) j))), (49, aEx (vec r Hs.length cap)), (50, aInt (↑Hs.length : Int)), (51, aInt t)], [oVec r cap 42 1 false aH Hs, oRws 22 aInts [] Hs (mixG (Y.map (colR hF i j (quoP hF (ix [] (ix [] Y row) i) (ix [] (ix [] Y row) j)))) Y t)]⟩ : St)) (fun (t : Int) => (0 ≤ t) ∧ (t ≤ Y.length)) (fun (t : Int) => (Y.length - t).toNat) 0 ⟨(by omega), (by omega)⟩ (ent_rep ⟨rfl, rfl, rfl, rfl, rfl, rfl, rfl, rfl, slot_av (av_int (show 0 = (0 : Int) by rfl)), trivial⟩ (own_cons (rfl) (own_cons (own_rws rfl (show mixG (Y.map (colR hF i j (quoP hF (ix [] (ix [] Y row) i) (ix [] (ix [] Y row) j)))) Y (0 : Int) = Y by exact mixG_zero _ _)) (rfl)))) ?_
  rintro t ⟨t0, t1⟩
  show Ent _ ⟨_, [_, _]⟩ _
  have lmt : (mixG (Y.map (colR hF i j (quoP hF (ix [] (ix [] Y row) i) (ix [] (ix [] Y row) j)))) Y t).length = Y.length := by rw [length_mixG _ _ (by simp) t0 (by simp; omega)]; simp
  refine esr rfl fun _ K7 => ?_
  refine ent_o rfl (ok_lss rfl rfl) ?_
  refine enk K7 ?_
  refine ent_seq fun _ K8 => ?_
  refine ent_condD rfl (fun h52 => ?_) (fun h52 => ?_)
  ·have hrt := TY.row t t0 (by omega)
   have hMt : ix [] (mixG (Y.map (colR hF i j (quoP hF (ix [] (ix [] Y row) i) (ix [] (ix [] Y row) j)))) Y t) t = ix [] Y t := ix_mixG [] _ _ t0 (by simp; omega) (by simp)
   have li := C.ln t i t0 (by omega) i0 i1
   have lj := C.ln t j t0 (by omega) j0 j1
   unfold eL at li lj
   have lmq := mulP_len hF (quoP hF (ix [] (ix [] Y row) i) (ix [] (ix [] Y row) j)) (ix [] (ix [] Y t) j)
   have hms := mixG_set [] (Y.map (colR hF i j (quoP hF (ix [] (ix [] Y row) i) (ix [] (ix [] Y row) j)))) Y t0 (by simp; omega) (by simp)
   rw [ixG_map [] [] _ Y t0 (by omega)] at hms
   refine esp K8 ?_
   refine ent_seq fun _ K9 => ?_
   refine ent_block ?_
   refine esr rfl fun _ K10 => ?_
   refine ent_o rfl (ok_indexV0 (k := 0) sl25 rfl rfl rfl rfl (by omega) (by omega)) ?_
   refine ent_o rfl (ok_loadV0 (k := 0) Hdr.no ti42 rfl rfl (by omega) (by omega)) ?_
   refine emm rfl ?_
   refine enk K10 ?_
   refine ent_takeRow 1 t rfl (by omega) (by omega) (by exact List.not_mem_nil) (fun hn14 => ?_)
   rw [hMt] at hn14 ⊢
   refine ent_drawP2 29 [2, 3] [(57, aEx (vec ((ix Hdr.no Hs t).r) ((ix Hdr.no Hs t).n) ((ix Hdr.no Hs t).cap))), (58, aInt j)] [(0, aMach c), (1, aEx (vec r Hs.length cap)), (2, aInt row), (3, aInt i), (4, aInt j), (10, aSl 1 false aInt (quoP hF (ix [] (ix [] Y row) i) (ix [] (ix [] Y row) j))), (14, aEx (vec ((ix Hdr.no Hs t).r) ((ix Hdr.no Hs t).n) ((ix Hdr.no Hs t).cap))), (49, aEx (vec r Hs.length cap)), (50, aInt (↑Hs.length : Int)), (51, aInt t), (62, aSl 1 false aInt (ix [] (ix [] Y t) j)), (82, aSl 1 false aInt (subP hF (ix [] (ix [] Y t) i) (mulP hF (quoP hF (ix [] (ix [] Y row) i) (ix [] (ix [] Y row) j)) (ix [] (ix [] Y t) j)))), (83, aEx (.pointer (some ⟨((ix Hdr.no Hs t).r).getD 0, (i).toNat * 1, none⟩)))] mixed (by kernel_rfl) (by kernel_rfl) rfl (by decide) rfl (by kernel_rfl) (AllPlS.mem ⟨pl_ex, pl_ex, trivial⟩) ?_ ?_
   ·refine dw_o rfl (ok_move rfl) ?_
    refine dw_o rfl (ok_move rfl) ?_
    refine dw_o rfl (ok_move rfl) ?_
    refine dw_o rfl (ok_move rfl) ?_
    refine dw_o rfl (ok_move rfl) ?_
    refine dw_o rfl (ok_move rfl) ?_
    refine dw_o rfl (ok_indexV0 (k := 0) sl42 rfl rfl ‹_› rfl (by omega) (by omega)) ?_
    refine dw_o rfl (ok_loadV0 (k := 0) [] ti22 rfl rfl (by omega) (by omega)) ?_
    refine dw_o rfl (ok_move rfl) ?_
    refine dw_o rfl (ok_nilCheck rfl) ?_
    refine dw_o rfl (ok_fieldAddr1 runUnderlying84 rfl sizeOf82 rfl rfl) ?_
    refine dw_o rfl (ok_load ti82 rfl) ?_
    refine dw_o rfl (ok_move rfl) ?_
    refine dw_o rfl (ok_move rfl) ?_
    refine dw_o rfl (ok_indexV0 (k := 0) sl42 rfl rfl ‹_› rfl (by omega) (by omega)) ?_
    refine dw_o rfl (ok_loadV0 (k := 0) [] ti22 rfl rfl (by omega) (by omega)) ?_
    refine dw_o rfl (ok_move rfl) ?_
    refine dw_o rfl (ok_nilCheck rfl) ?_
    refine dw_o rfl (ok_fieldAddr1 runUnderlying84 rfl sizeOf82 rfl rfl) ?_
    refine dw_o rfl (ok_load ti82 rfl) ?_
    refine dw_o rfl (ok_move rfl) ?_
    refine dw_o rfl (ok_move rfl) ?_
    refine dw_o rfl (ok_move rfl) ?_
    refine dw_o rfl (ok_indexV0 (k := 0) sl42 rfl rfl ‹_› rfl (by omega) (by omega)) ?_
    refine dw_o rfl (ok_loadV0 (k := 0) [] ti22 rfl rfl (by omega) (by omega)) ?_
    refine dw_o rfl (OpOK.as (A := aFull 1 false aInts [quoP hF (ix [] (ix [] Y row) i) (ix [] (ix [] Y row) j), ix [] (ix [] Y t) j]) (by exact ok_buildNF aInts [quoP hF (ix [] (ix [] Y row) i) (ix [] (ix [] Y row) j), ix [] (ix [] Y t) j] vt42 (by decide) rfl (⟨0, 1, rfl, .inl ⟨rfl, _, rfl, one_sl, rfl, ⟨1, 1, rfl, .inl ⟨rfl, _, rfl, one_sl, rfl, rfl⟩⟩⟩⟩) rfl) aFull_sl) ?_
    refine dw_o rfl (ok_callA (polyMul_ok c.F (quoP hF (ix [] (ix [] Y row) i) (ix [] (ix [] Y row) j)) (ix [] (ix [] Y t) j) ‹_› (by omega) (by omega)) ⟨arg_a rfl (cv_id sub_refl), arg_a rfl (cv_sl sub_refl rfl), trivial⟩) ?_
    refine dw_o rfl (ok_call (polySub_ok c.F (ix [] (ix [] Y t) i) (mulP hF (quoP hF (ix [] (ix [] Y row) i) (ix [] (ix [] Y row) j)) (ix [] (ix [] Y t) j)) ‹_› (by omega) (by omega)) rfl) ?_
    refine dw_o rfl (ok_indexV0 (k := 0) sl42 rfl rfl ‹_› rfl (by omega) (by omega)) ?_
    refine dw_nil ?_
    exact ⟨⟨rfl, rfl, rfl, rfl, rfl, rfl, rfl, rfl, rfl, rfl, rfl, rfl, rfl, trivial⟩, ⟨rfl, rfl, trivial⟩⟩
   refine ent_storeV0 (k := 0) (z := ix [] (ix [] Y t) j) ti22 rfl rfl rfl (elem_one one_sl) (by omega) (by omega) ?_
   refine ent_nil ?_
   refine ent_QK ?_
   refine ent_ph1 (t0 := none) 29 [2, 3] [(57, aEx (vec ((ix Hdr.no Hs t).r) ((ix Hdr.no Hs t).n) ((ix Hdr.no Hs t).cap))), (58, aInt j)] (by kernel_rfl) (by kernel_rfl) (by decide) (by decide) (by kernel_rfl) rfl (AllPlS.mem ⟨pl_ex, pl_ex, trivial⟩) (by kernel_rfl) ?_
   refine dwi_o (o := ⟨_, _, _, _, _, _⟩) rfl rfl rfl ?_ ?_
   ·exact OpOK.eqv (ok_move rfl) rfl
   refine dwi_o (o := ⟨_, _, _, _, _, _⟩) rfl rfl rfl ?_ ?_
   ·exact OpOK.eqv (ok_move rfl) rfl
   refine ent_o rfl (ok_indexV0 (k := 0) sl42 rfl rfl (by simp_all) rfl (by omega) (by simp only [List.length_set]; omega)) ?_
   refine ent_storeV0 (k := 0) (z := subP hF (ix [] (ix [] Y t) i) (mulP hF (quoP hF (ix [] (ix [] Y row) i) (ix [] (ix [] Y row) j)) (ix [] (ix [] Y t) j))) ti22 rfl rfl rfl (elem_one one_sl) (by omega) (by simp only [List.length_set]; omega) ?_
   refine enk K9 ?_
   refine ent_backRow 2 0 t [] rfl rfl (by decide) (by simp) (by omega) (by omega) (by simp_all) ?_
   refine ent_region ?_
   refine ent_o rfl (ok_add rfl rfl (by omega) (by omega)) ?_
   refine emm rfl ?_
   refine ent_nil ?_
   refine ent_again (s := (t)) (t + 1) ⟨(by omega), (by omega)⟩ (by omega) (ent_rep ⟨rfl, rfl, rfl, rfl, rfl, rfl, rfl, rfl, rfl, trivial⟩ (own_cons (rfl) (own_cons (own_rws rfl (show mixG (Y.map (colR hF i j (quoP hF (ix [] (ix [] Y row) i) (ix [] (ix [] Y row) j)))) Y (t + 1) = List.set (mixG (Y.map (colR hF i j (quoP hF (ix [] (ix [] Y row) i) (ix [] (ix [] Y row) j)))) Y t) (t).toNat (List.set (List.set (ix [] Y t) (i).toNat (ix [] (ix [] Y t) j)) (j).toNat (subP hF (ix [] (ix [] Y t) i) (mulP hF (quoP hF (ix [] (ix [] Y row) i) (ix [] (ix [] Y row) j)) (ix [] (ix [] Y t) j)))) by exact hms)) (rfl))))
  refine ent_exit ?_
  refine ent_again (s := (Y)) (mixG (Y.map (colR hF i j (quoP hF (ix [] (ix [] Y row) i) (ix [] (ix [] Y row) j)))) Y t) (by rw [mixG_all _ _ (by simp; omega) (by simp)]; exact hnx.1) ((by rw [mixG_all _ _ (by simp; omega) (by simp)]; exact hnx.2)) (ent_rep ⟨rfl, rfl, rfl, rfl, rfl, trivial⟩ rfl)
 refine ent_exit ?_
 exact retW (.inl rfl) (Y) (⟨hF, C, List.eq_nil_of_length_eq_zero (by omega)⟩) ((show ([oVec r cap 42 1 false aH Hs, oRws 22 aInts [] Hs Y] : List Own) = [oVec r cap 42 1 false aH Hs, oRws 22 aInts [] Hs Y] from rfl).symm) (resW0 results113 )
end Go.Proofs.Ytfjhbdfgbpcchaa

