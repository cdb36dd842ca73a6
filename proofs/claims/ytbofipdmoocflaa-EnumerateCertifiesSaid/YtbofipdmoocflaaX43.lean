/-
  Walks of functions of the program and the reference.
-/
import Derived.Test.YtbofipdmoocflaaProg
import Derived.Test.YtbofipdmoocflaaXTab
import Derived.Test.YtbofipdmoocflaaPlainJ2
import Derived.Test.YtbofipdmoocflaaCiLib
import Derived.Test.YtbofipdmoocflaaX4
import Derived.Test.YtbofipdmoocflaaX5
import Derived.Test.YtbofipdmoocflaaX6
import Derived.Test.YtbofipdmoocflaaX9
import Derived.Test.YtbofipdmoocflaaX1
import Derived.Test.YtbofipdmoocflaaX10
import Derived.Test.YtbofipdmoocflaaX11
import Derived.Test.YtbofipdmoocflaaX12
import Derived.Test.YtbofipdmoocflaaX13
import Derived.Test.YtbofipdmoocflaaX14
import Derived.Test.YtbofipdmoocflaaX15
import Derived.Test.YtbofipdmoocflaaX18
import Derived.Test.YtbofipdmoocflaaX19
import Derived.Test.YtbofipdmoocflaaX20
import Derived.Test.YtbofipdmoocflaaX30
import Derived.Test.YtbofipdmoocflaaX31
import Derived.Test.YtbofipdmoocflaaX32
import Derived.Test.YtbofipdmoocflaaX33
import Derived.Test.YtbofipdmoocflaaX34
import Derived.Test.YtbofipdmoocflaaX35
import Derived.Test.YtbofipdmoocflaaX36
import Derived.Test.YtbofipdmoocflaaX38
import Derived.Test.YtbofipdmoocflaaX39
open Go Go.Cw
namespace Go.Proofs.Ytbofipdmoocflaa
set_option maxRecDepth 100000
set_option linter.unusedVariables false
set_option linter.unusedSimpArgs false

abbrev aTly (t : Tly) : AV := aAgg [aBool t.dual, aInts t.count]

theorem own_ok (f : Fld) (hS : Shape f) : Ctr Try.prog 129 [aFld f] (aFld f) := by
 have hml := hS.mod_le
 refine ctr_of Try.call129 Try.func129 rfl rfl ?_
 intro w O
 refine ent_lenC 0 2 rfl rfl (fun hlen0_2 => ?_)
 refine esr rfl fun _ K1 => ?_
 refine ent_boxS rfl rfl (AllOne.mem ⟨(one_int _), (one_int _), one_sl, trivial⟩) (fun b1_1 => ?_)
 refine ent_alloc (z := .agg #[.int .i64 0, .int .i64 0, .slice none 0 0]) [aInt 0, aInt 0, aEx (.slice none 0 0)] rfl zv24 rfl zc24 (fun b2_2 => ?_)
 refine enk K1 ?_
 refine esr rfl fun _ K2 => ?_
 refine ent_o rfl (ok_fieldAddrEx Try.runUnderlying24 rfl Try.sizeOf22 (by decide) rfl) ?_
 refine ent_o rfl (ok_loadB (k := 1) Try.isAgg22 rfl rfl rfl) ?_
 refine ent_o rfl (ok_call (CtrN.ctr (Clone_ok f.mod (by first | rfl | assumption | omega | (simp_all; done) | grind))) rfl) ?_
 refine ent_o rfl (ok_fieldAddrEx Try.runUnderlying24 rfl Try.sizeOf22 (by decide) rfl) ?_
 refine ent_storeB (k := 1) Try.sizeOf22 rfl rfl rfl one_sl rfl ?_
 refine enk K2 ?_
 refine esr rfl fun _ K3 => ?_
 refine ent_o rfl (ok_loadBS (k := 1) ti24 rfl rfl rfl) ?_
 refine ent_storeBS (k := 0) Try.sizeOf24 rfl rfl rfl (AllOne.mem ⟨(one_int _), (one_int _), one_sl, trivial⟩) rfl rfl ?_
 show Ent _ ⟨_, [_, _]⟩ _
 refine enk K3 ?_
 refine ent_ret ?_
 exact retR1 (.inr rfl) Try.results129 (resr_cell (k := 0) ti24 rfl rfl rfl (cv_agg ⟨cv_int (by rfl), cv_int (by rfl), cv_sl sub_x (by rfl), trivial⟩))

theorem of_ok (f : Fld) (m : Mat) (hS : Shape f) : Ctr Try.prog 121 [aFld f, aMat m, aInt 0] (aTup [aCod (⟨f, m.cols, m.rows⟩), aInt 0]) := by
 refine ctr_of Try.call121 Try.func121 rfl rfl ?_
 intro w O
 refine ent_lenC 0 2 rfl rfl (fun hlen0_2 => ?_)
 refine ent_lenC 1 1 rfl rfl (fun hlen1_1 => ?_)
 refine esr rfl fun _ K1 => ?_
 refine ent_boxS rfl rfl (AllOne.mem ⟨(one_int _), (one_int _), one_sl, trivial⟩) (fun b3_1 => ?_)
 refine ent_boxS rfl rfl (AllOne.mem ⟨(one_int _), one_sl, trivial⟩) (fun b4_2 => ?_)
 refine ent_alloc (z := .agg #[.int .i64 0, .int .i64 0, .slice none 0 0, .int .i64 0, .slice none 0 0]) [aInt 0, aInt 0, aEx (.slice none 0 0), aInt 0, aEx (.slice none 0 0)] rfl zv27 rfl zc27 (fun b6_3 => ?_)
 refine emm rfl ?_
 refine enk K1 ?_
 refine ent_seq fun _ K2 => ?_
 refine esr rfl fun _ K3 => ?_
 refine ent_o rfl (ok_neq rfl rfl) ?_
 refine enk K3 ?_
 refine ent_condFP rfl (by decide) ?_
 refine esp K2 ?_
 refine ent_seq fun _ K4 => ?_
 refine ent_draw 7 mixed (by kernel_rfl) (by kernel_rfl) (by kernel_rfl) ?_
 refine dw_o rfl (ok_loadBS (k := 2) ti24 rfl rfl rfl) ?_
 refine dw_o rfl (ok_call (own_ok f (by first | rfl | assumption | omega | (simp_all; done) | grind)) rfl) ?_
 refine dw_o rfl (ok_fieldAddrEx Try.runUnderlying83 rfl Try.sizeOf3 (by decide) rfl) ?_
 refine dw_o rfl (ok_loadB (k := 1) Try.isAgg3 rfl rfl rfl) ?_
 refine dw_o rfl (ok_fieldAddrEx Try.runUnderlying83 rfl Try.sizeOf25 (by decide) rfl) ?_
 refine dw_o rfl (ok_loadB (k := 1) Try.isAgg25 rfl rfl rfl) ?_
 refine dw_o rfl (ok_build st27 (As := [aInt 0, aInt 0, aEx (.slice none 0 0), aInt 0, aEx (.slice none 0 0)]) z27 (⟨0, 3, rfl, .inr ⟨_, rfl, rfl, rfl, ⟨3, 1, rfl, .inl ⟨rfl, _, rfl, (one_int _), rfl, ⟨4, 1, rfl, .inl ⟨rfl, _, rfl, one_sl, rfl, rfl⟩⟩⟩⟩⟩⟩)) ?_
 refine dw_nil ?_
 refine ent_storeBS (k := 0) Try.sizeOf27 rfl rfl rfl (AllOne.mem ⟨(one_int _), (one_int _), one_sl, (one_int _), one_sl, trivial⟩) rfl rfl ?_
 show Ent _ ⟨_, [_, _, _]⟩ _
 refine emm rfl ?_
 refine enk K4 ?_
 refine ent_ret ?_
 exact retR2 (.inr rfl) Try.results121 (resr_cell (k := 0) ti27 rfl rfl rfl (cv_agg ⟨cv_int (by rfl), cv_int (by rfl), cv_sl sub_x (by rfl), cv_int (by rfl), cv_sl sub_x (by rfl), trivial⟩)) (resr_tmp (res_cv rfl (cv_int (by rfl))))

theorem Dual_ok (c : Cod) (hk : COk c) : Ctr Try.prog 105 [aCod c] (aTup [aCod (dua c), aInt 0]) := by
 have hc0 := codE_zero.2 hk
 have hkm := kerM_code hk
 have hme := hk.mat
 refine ctr_of Try.call105 Try.func105 rfl rfl ?_
 intro w O
 refine ent_lenC 0 2 rfl rfl (fun hlen0_2 => ?_)
 refine ent_lenC 0 4 rfl rfl (fun hlen0_4 => ?_)
 refine esr rfl fun _ K1 => ?_
 refine ent_boxS rfl rfl (AllOne.mem ⟨(one_int _), (one_int _), one_sl, (one_int _), one_sl, trivial⟩) (fun b1_1 => ?_)
 refine ent_alloc (z := .agg #[.int .i64 0, .int .i64 0, .slice none 0 0, .int .i64 0, .slice none 0 0]) [aInt 0, aInt 0, aEx (.slice none 0 0), aInt 0, aEx (.slice none 0 0)] rfl zv27 rfl zc27 (fun b2_2 => ?_)
 refine emm rfl ?_
 refine enk K1 ?_
 refine ent_seq fun _ K2 => ?_
 refine esr rfl fun _ K3 => ?_
 refine ent_o rfl (ok_loadBS (k := 1) ti27 rfl rfl rfl) ?_
 refine ent_o rfl (ok_call (cCheck_ok c) rfl) ?_
 refine emm rfl ?_
 refine enk K3 ?_
 refine esr rfl fun _ K4 => ?_
 refine ent_o rfl (ok_neq rfl rfl) ?_
 refine enk K4 ?_
 refine ent_condD rfl (fun h10 => ?_) (fun h10 => ?_)
 ·exact absurd hc0 h10
 ·refine esp K2 ?_
  refine ent_seq fun _ K5 => ?_
  refine ent_drawB2 (T := 83) (z := .agg #[.int .i64 0, .slice none 0 0]) (As := [aInt 0, aEx (.slice none 0 0)]) 9 [7] 8 5 [(14, aEx (.pointer (some ⟨b1_1, 0, none⟩))), (15, aAgg [aInt c.F.P, aInt c.F.M, aSl 1 false aInt c.F.mod]), (16, aAgg [aInt c.F.P, aInt c.F.M, aSl 1 false aInt c.F.mod, aInt c.N, aSl 1 false aInts c.Gen]), (17, aMat c.m), (18, aTup [aMat (kerM c.F c.m), aInt (mErr c.F c.m)]), (13, aTup [aMat (kerM c.F c.m), aInt (mErr c.F c.m)]), (19, aMat (kerM c.F c.m)), (20, aInt (mErr c.F c.m)), (5, aBoxF w.heap.size 83 [aInt 0, aEx (.slice none 0 0)])] mixed (by kernel_rfl) (by kernel_rfl) (by kernel_rfl) (by kernel_rfl) (by kernel_rfl) (fun _ _ _ _ _ h => h) rfl (by kernel_rfl) (by kernel_rfl) (fun _ => by kernel_rfl) (fun _ => by kernel_rfl) (fun _ => by kernel_rfl) zv83 rfl zc83 (by kernel_rfl) ?_ (fun bb_3 => ?_)
  ·refine dwl_o rfl rfl (OpOK.eqv (ok_fieldAddrEx Try.runUnderlying27 rfl Try.sizeOf24 (by decide) rfl) rfl) ?_
   refine dwl_o rfl rfl (OpOK.eqv (ok_loadBS (k := 1) ti24 rfl rfl rfl) rfl) ?_
   refine dwl_o rfl rfl (OpOK.eqv (ok_loadBS (k := 1) ti27 rfl rfl rfl) rfl) ?_
   refine dwl_o rfl rfl (OpOK.eqv (ok_call (gen_ok c) rfl) rfl) ?_
   refine dwl_o rfl rfl (OpOK.eqv (ok_call (mKernel_ok c.F c.m) rfl) rfl) ?_
   refine dwl_o rfl rfl (OpOK.eqv (ok_move rfl) rfl) ?_
   refine dwl_o rfl rfl (OpOK.eqv (ok_extract rfl rfl) rfl) ?_
   refine dwl_o rfl rfl (OpOK.eqv (ok_extract rfl rfl) rfl) ?_
   refine dwl_o rfl rfl (OpOK.eqv (ok_allocF (z := .agg #[.int .i64 0, .slice none 0 0]) [aInt 0, aEx (.slice none 0 0)] zv83 rfl zc83) rfl) ?_
   exact dwl_nil trivial
  refine dwl_o rfl rfl (OpOK.eqv (ok_fieldAddrEx Try.runUnderlying27 rfl Try.sizeOf24 (by decide) rfl) rfl) ?_
  refine dwl_o rfl rfl (OpOK.eqv (ok_loadBS (k := 2) ti24 rfl rfl rfl) rfl) ?_
  refine dwl_o rfl rfl (OpOK.eqv (ok_loadBS (k := 2) ti27 rfl rfl rfl) rfl) ?_
  refine dwl_o rfl rfl (OpOK.eqv (ok_call (gen_ok c) rfl) rfl) ?_
  refine dwl_o rfl rfl (OpOK.eqv (ok_call (mKernel_ok c.F c.m) rfl) rfl) ?_
  refine dwl_o rfl rfl (OpOK.eqv (ok_move rfl) rfl) ?_
  refine dwl_o rfl rfl (OpOK.eqv (ok_extract rfl rfl) rfl) ?_
  refine dwl_o rfl rfl (OpOK.eqv (ok_extract rfl rfl) rfl) ?_
  refine dwl_o rfl rfl (ok_move rfl) ?_
  refine dwl_nil ?_
  refine ent_storeBS (k := 0) Try.sizeOf83 rfl rfl rfl (AllOne.mem ⟨(one_int _), one_sl, trivial⟩) rfl rfl ?_
  show Ent _ ⟨_, [_, _, _]⟩ _
  refine emm rfl ?_
  refine enk K5 ?_
  refine esr rfl fun _ K6 => ?_
  refine ent_o rfl (ok_fieldAddrEx Try.runUnderlying27 rfl Try.sizeOf24 (by decide) rfl) ?_
  refine ent_o rfl (ok_loadBS (k := 2) ti24 rfl rfl rfl) ?_
  refine ent_o rfl (ok_loadBS (k := 0) ti83 rfl rfl rfl) ?_
  refine emm rfl ?_
  refine ent_o rfl (ok_callA (of_ok c.F (kerM c.F c.m) hk.fld.1) ⟨arg_a rfl (cv_id sub_refl), arg_a rfl (cv_id sub_refl), arg_a rfl (cv_int (by first | rfl | assumption | omega | (simp_all; done) | grind)), trivial⟩) ?_
  refine ent_o rfl (ok_extract rfl rfl) ?_
  refine ent_o rfl (ok_extract rfl rfl) ?_
  refine ent_storeBS (k := 1) Try.sizeOf27 rfl rfl rfl (AllOne.mem ⟨(one_int _), (one_int _), one_sl, (one_int _), one_sl, trivial⟩) rfl rfl ?_
  show Ent _ ⟨_, [_, _, _]⟩ _
  refine emm rfl ?_
  refine enk K6 ?_
  refine ent_ret ?_
  exact retR2 (.inr rfl) Try.results105 (resr_cell (k := 1) ti27 rfl rfl rfl (cv_agg ⟨cv_int (by first | rfl | (rw [hkm]; done) | (rw [hkm]; rfl)), cv_int (by first | rfl | (rw [hkm]; done) | (rw [hkm]; rfl)), cv_sl sub_x (by first | rfl | (rw [hkm]; done) | (rw [hkm]; rfl)), cv_int (by first | rfl | (rw [hkm]; done) | (rw [hkm]; rfl)), cv_sl sub_x (by first | rfl | (rw [hkm]; done) | (rw [hkm]; rfl)), trivial⟩)) (resr_tmp (res_cv rfl (cv_int (by rfl))))

theorem rField_ok (f : Fld) (hS : Shape f) : Ctr Try.prog 119 [aFld f] (aFld f) := by
 have hml := hS.mod_le
 refine ctr_of Try.call119 Try.func119 rfl rfl ?_
 intro w O
 refine ent_lenC 0 2 rfl rfl (fun hlen0_2 => ?_)
 refine esr rfl fun _ K1 => ?_
 refine ent_boxS rfl rfl (AllOne.mem ⟨(one_int _), (one_int _), one_sl, trivial⟩) (fun b1_1 => ?_)
 refine ent_alloc (z := .agg #[.int .i64 0, .int .i64 0, .slice none 0 0]) [aInt 0, aInt 0, aEx (.slice none 0 0)] rfl zv24 rfl zc24 (fun b2_2 => ?_)
 refine enk K1 ?_
 refine ent_seq fun _ K2 => ?_
 refine ent_draw 9 mixed (by kernel_rfl) (by kernel_rfl) (by kernel_rfl) ?_
 refine dw_o rfl (ok_fieldAddrEx Try.runUnderlying24 rfl Try.sizeOf3 (by decide) rfl) ?_
 refine dw_o rfl (ok_loadB (k := 1) Try.isAgg3 rfl rfl rfl) ?_
 refine dw_o rfl (ok_fieldAddrEx Try.runUnderlying24 rfl Try.sizeOf3 (by decide) rfl) ?_
 refine dw_o rfl (ok_loadB (k := 1) Try.isAgg3 rfl rfl rfl) ?_
 refine dw_o rfl (ok_build0 vt22) ?_
 refine dw_o rfl (ok_fieldAddrEx Try.runUnderlying24 rfl Try.sizeOf22 (by decide) rfl) ?_
 refine dw_o rfl (ok_loadB (k := 1) Try.isAgg22 rfl rfl rfl) ?_
 refine dw_o rfl (ok_append0 vt22 rfl rfl (cv_id sub_refl) (by omega) (by omega)) ?_
 refine dw_o rfl (ok_build st24 (As := [aInt 0, aInt 0, aEx (.slice none 0 0)]) z24 (⟨0, 1, rfl, .inl ⟨rfl, _, rfl, (one_int _), rfl, ⟨1, 1, rfl, .inl ⟨rfl, _, rfl, (one_int _), rfl, ⟨2, 1, rfl, .inl ⟨rfl, _, rfl, one_sl, rfl, rfl⟩⟩⟩⟩⟩⟩)) ?_
 refine dw_nil ?_
 refine ent_storeBS (k := 0) Try.sizeOf24 rfl rfl rfl (AllOne.mem ⟨(one_int _), (one_int _), one_sl, trivial⟩) rfl rfl ?_
 show Ent _ ⟨_, [_, _]⟩ _
 refine enk K2 ?_
 refine ent_ret ?_
 exact retR1 (.inr rfl) Try.results119 (resr_cell (k := 0) ti24 rfl rfl rfl (cv_agg ⟨cv_int (by rfl), cv_int (by rfl), cv_sl sub_x (by rfl), trivial⟩))

theorem rParity_ok (c : Cod) (hk : COk c) : Ctr Try.prog 104 [aCod c] (aSl 1 false aInts ((dua c).Gen)) := by
 have hn1 := hk.n1
 have hn64 := hk.n64
 have hln := hk.len
 have hqb := hk.fld.1.bd
 refine ctr_of Try.call104 Try.func104 rfl rfl ?_
 intro w O
 refine ent_lenC 0 2 rfl rfl (fun hlen0_2 => ?_)
 refine ent_lenC 0 4 rfl rfl (fun hlen0_4 => ?_)
 refine esr rfl fun _ K1 => ?_
 refine ent_boxS rfl rfl (AllOne.mem ⟨(one_int _), (one_int _), one_sl, (one_int _), one_sl, trivial⟩) (fun b1_1 => ?_)
 refine emm rfl ?_
 refine enk K1 ?_
 refine esr rfl fun _ K2 => ?_
 refine ent_o rfl (ok_fieldAddrEx Try.runUnderlying27 rfl Try.sizeOf24 (by decide) rfl) ?_
 refine ent_o rfl (ok_loadBS (k := 0) ti24 rfl rfl rfl) ?_
 refine ent_o rfl (ok_fieldAddrEx Try.runUnderlying27 rfl Try.sizeOf25 (by decide) rfl) ?_
 refine ent_o rfl (ok_loadB (k := 0) Try.isAgg25 rfl rfl rfl) ?_
 refine ent_o rfl (ok_fieldAddrEx Try.runUnderlying27 rfl Try.sizeOf3 (by decide) rfl) ?_
 refine ent_o rfl (ok_loadB (k := 0) Try.isAgg3 rfl rfl rfl) ?_
 refine ent_o rfl (ok_call (rNull_ok c.F c.Gen c.N c.N.toNat hk.fld hk.good (by first | rfl | assumption | omega | (simp_all; done) | grind) (by first | rfl | assumption | omega | (simp_all; done) | grind) (by first | rfl | assumption | omega | (simp_all; done) | grind) (by first | rfl | assumption | omega | (simp_all; done) | grind)) rfl) ?_
 refine emm rfl ?_
 refine enk K2 ?_
 refine ent_ret ?_
 exact retR1 (.inr rfl) Try.results104 (resr_tmp (res_cv rfl (cv_sl sub_x (by rfl))))

theorem rMake_ok (f : Fld) (X : List (List Int)) (n : Int) (hF : FOk f) (hg : good f n.toNat X) (h0 : 0 ≤ n) (h1 : n ≤ 256) (hx : X.length ≤ 256) : Ctr Try.prog 103 [aFld f, aSl 1 false aInts X, aInt n] (aCod (⟨f, n, canR (elim f X [] n.toNat)⟩)) := by
 refine ctr_of Try.call103 Try.func103 rfl rfl ?_
 intro w O
 refine ent_lenC 0 2 rfl rfl (fun hlen0_2 => ?_)
 refine ent_len 1 rfl (fun hlen1 => ?_)
 refine esr rfl fun _ K1 => ?_
 refine ent_boxS rfl rfl (AllOne.mem ⟨(one_int _), (one_int _), one_sl, trivial⟩) (fun b3_1 => ?_)
 refine ent_alloc (z := .agg #[.int .i64 0, .int .i64 0, .slice none 0 0, .int .i64 0, .slice none 0 0]) [aInt 0, aInt 0, aEx (.slice none 0 0), aInt 0, aEx (.slice none 0 0)] rfl zv27 rfl zc27 (fun b6_2 => ?_)
 refine enk K1 ?_
 refine esr rfl fun _ K2 => ?_
 refine ent_o rfl (ok_loadBS (k := 1) ti24 rfl rfl rfl) ?_
 refine emm rfl ?_
 refine ent_o rfl (ok_call (rCanon_ok f X n n.toNat hF hg (by first | rfl | assumption | omega | (simp_all; done) | grind) (by first | rfl | assumption | omega | (simp_all; done) | grind) (by first | rfl | assumption | omega | (simp_all; done) | grind) (by first | rfl | assumption | omega | (simp_all; done) | grind)) rfl) ?_
 refine emm rfl ?_
 refine ent_o rfl (ok_extract rfl rfl) ?_
 refine ent_o rfl (ok_extract rfl rfl) ?_
 refine emm rfl ?_
 refine enk K2 ?_
 refine esr rfl fun _ K3 => ?_
 refine ent_o rfl (ok_loadBS (k := 1) ti24 rfl rfl rfl) ?_
 refine ent_o rfl (ok_call (rField_ok f hF.1) rfl) ?_
 refine emm rfl ?_
 refine ent_o rfl (ok_build st27 (As := [aInt 0, aInt 0, aEx (.slice none 0 0), aInt 0, aEx (.slice none 0 0)]) z27 (⟨0, 3, rfl, .inr ⟨_, rfl, rfl, rfl, ⟨3, 1, rfl, .inl ⟨rfl, _, rfl, (one_int _), rfl, ⟨4, 1, rfl, .inl ⟨rfl, _, rfl, one_sl, rfl, rfl⟩⟩⟩⟩⟩⟩)) ?_
 refine ent_storeBS (k := 0) Try.sizeOf27 rfl rfl rfl (AllOne.mem ⟨(one_int _), (one_int _), one_sl, (one_int _), one_sl, trivial⟩) rfl rfl ?_
 show Ent _ ⟨_, [_, _]⟩ _
 refine enk K3 ?_
 refine ent_ret ?_
 exact retR1 (.inr rfl) Try.results103 (resr_cell (k := 0) ti27 rfl rfl rfl (cv_agg ⟨cv_int (by rfl), cv_int (by rfl), cv_sl sub_x (by rfl), cv_int (by rfl), cv_sl sub_x (by rfl), trivial⟩))

theorem rDual_ok (c : Cod) (hk : COk c) : Ctr Try.prog 74 [aCod c] (aTup [aCod (dua c), aInt 0]) := by
 have hc0 := codE_zero.2 hk
 have hdd := hk.dim_dua
 have hn1 := hk.n1
 have hn64 := hk.n64
 have hln := hk.len
 have hqb := hk.fld.1.bd
 refine ctr_of Try.call74 Try.func74 rfl rfl ?_
 intro w O
 refine ent_lenC 0 2 rfl rfl (fun hlen0_2 => ?_)
 refine ent_lenC 0 4 rfl rfl (fun hlen0_4 => ?_)
 refine esr rfl fun _ K1 => ?_
 refine ent_boxS rfl rfl (AllOne.mem ⟨(one_int _), (one_int _), one_sl, (one_int _), one_sl, trivial⟩) (fun b1_1 => ?_)
 refine ent_alloc (z := .agg #[.int .i64 0, .int .i64 0, .slice none 0 0, .int .i64 0, .slice none 0 0]) [aInt 0, aInt 0, aEx (.slice none 0 0), aInt 0, aEx (.slice none 0 0)] rfl zv27 rfl zc27 (fun b2_2 => ?_)
 refine emm rfl ?_
 refine enk K1 ?_
 refine esr rfl fun _ K2 => ?_
 refine ent_o rfl (ok_loadBS (k := 1) ti27 rfl rfl rfl) ?_
 refine ent_o rfl (ok_call (rcCheck_ok c) rfl) ?_
 refine emm rfl ?_
 refine enk K2 ?_
 refine ent_seq fun _ K3 => ?_
 refine esr rfl fun _ K4 => ?_
 refine ent_o rfl (ok_neq rfl rfl) ?_
 refine enk K4 ?_
 refine ent_condD rfl (fun h8 => ?_) (fun h8 => ?_)
 ·exact absurd hc0 h8
 ·refine esp K3 ?_
  refine ent_seq fun _ K5 => ?_
  refine ent_draw 7 mixed (by kernel_rfl) (by kernel_rfl) (by kernel_rfl) ?_
  refine dw_o rfl (ok_fieldAddrEx Try.runUnderlying27 rfl Try.sizeOf24 (by decide) rfl) ?_
  refine dw_o rfl (ok_loadBS (k := 1) ti24 rfl rfl rfl) ?_
  refine dw_o rfl (ok_loadBS (k := 1) ti27 rfl rfl rfl) ?_
  refine dw_o rfl (ok_call (rParity_ok c (by first | rfl | assumption | omega | (simp_all; done) | grind)) rfl) ?_
  refine dw_o rfl (ok_fieldAddrEx Try.runUnderlying27 rfl Try.sizeOf3 (by decide) rfl) ?_
  refine dw_o rfl (ok_loadB (k := 1) Try.isAgg3 rfl rfl rfl) ?_
  refine dw_o rfl (ok_call (rMake_ok c.F ((dua c).Gen) c.N hk.fld hk.good_dua (by first | rfl | assumption | omega | (simp_all; done) | grind) (by first | rfl | assumption | omega | (simp_all; done) | grind) (by first | rfl | assumption | omega | (simp_all; done) | grind)) rfl) ?_
  refine dw_nil ?_
  refine ent_storeBS (k := 0) Try.sizeOf27 rfl rfl rfl (AllOne.mem ⟨(one_int _), (one_int _), one_sl, (one_int _), one_sl, trivial⟩) rfl rfl ?_
  show Ent _ ⟨_, [_, _]⟩ _
  refine emm rfl ?_
  refine enk K5 ?_
  refine ent_ret ?_
  exact retR2 (.inr rfl) Try.results74 (resr_cell (k := 0) ti27 rfl rfl rfl (cv_agg ⟨cv_int (by first | rfl | exact hk.dua.rows_can), cv_int (by first | rfl | exact hk.dua.rows_can), cv_sl sub_x (by first | rfl | exact hk.dua.rows_can), cv_int (by first | rfl | exact hk.dua.rows_can), cv_sl sub_x (by first | rfl | exact hk.dua.rows_can), trivial⟩)) (resr_tmp (res_cv rfl (cv_int (by rfl))))

theorem rSide_ok (c : Cod) (d : Bool) (hk : COk c) : Ctr Try.prog 46 [aCod c, aBool d] (aCod (sidC c d)) := by
 refine ctr_of Try.call46 Try.func46 rfl rfl ?_
 intro w O
 refine ent_lenC 0 2 rfl rfl (fun hlen0_2 => ?_)
 refine ent_lenC 0 4 rfl rfl (fun hlen0_4 => ?_)
 refine esr rfl fun _ K1 => ?_
 refine ent_boxS rfl rfl (AllOne.mem ⟨(one_int _), (one_int _), one_sl, (one_int _), one_sl, trivial⟩) (fun b2_1 => ?_)
 refine ent_alloc (z := .agg #[.int .i64 0, .int .i64 0, .slice none 0 0, .int .i64 0, .slice none 0 0]) [aInt 0, aInt 0, aEx (.slice none 0 0), aInt 0, aEx (.slice none 0 0)] rfl zv27 rfl zc27 (fun b4_2 => ?_)
 refine enk K1 ?_
 refine ent_seq fun _ K2 => ?_
 refine esk rfl ?_
 refine ent_cond rfl (fun h7 => ?_) (fun h7 => ?_)
 ·refine esr rfl fun _ K4 => ?_
  refine ent_o rfl (ok_loadBS (k := 1) ti27 rfl rfl rfl) ?_
  refine ent_o rfl (ok_call (rDual_ok c (by first | rfl | assumption | omega | (simp_all; done) | grind)) rfl) ?_
  refine emm rfl ?_
  refine ent_o rfl (ok_extract rfl rfl) ?_
  refine ent_o rfl (ok_extract rfl rfl) ?_
  refine ent_alloc (z := .agg #[.int .i64 0, .int .i64 0, .slice none 0 0, .int .i64 0, .slice none 0 0]) [aInt 0, aInt 0, aEx (.slice none 0 0), aInt 0, aEx (.slice none 0 0)] rfl zv27 rfl zc27 (fun b5_3 => ?_)
  refine ent_storeBS (k := 0) Try.sizeOf27 rfl rfl rfl (AllOne.mem ⟨(one_int _), (one_int _), one_sl, (one_int _), one_sl, trivial⟩) rfl rfl ?_
  show Ent _ ⟨_, [_, _, _]⟩ _
  refine emm rfl ?_
  refine enk K4 ?_
  refine esr rfl fun _ K5 => ?_
  refine ent_o rfl (ok_loadBS (k := 0) ti27 rfl rfl rfl) ?_
  refine ent_storeBS (k := 1) Try.sizeOf27 rfl rfl rfl (AllOne.mem ⟨(one_int _), (one_int _), one_sl, (one_int _), one_sl, trivial⟩) rfl rfl ?_
  show Ent _ ⟨_, [_, _, _]⟩ _
  refine enk K5 ?_
  refine ent_ret ?_
  exact retR1 (.inr rfl) Try.results46 (resr_cell (k := 1) ti27 rfl rfl rfl (cv_agg ⟨cv_int (by rw [sidC_yes h7]), cv_int (by rw [sidC_yes h7]), cv_sl sub_x (by rw [sidC_yes h7]), cv_int (by rw [sidC_yes h7]), cv_sl sub_x (by rw [sidC_yes h7]), trivial⟩))
 ·refine esp K2 ?_
  refine esr rfl fun _ K6 => ?_
  refine ent_o rfl (ok_loadBS (k := 1) ti27 rfl rfl rfl) ?_
  refine ent_storeBS (k := 0) Try.sizeOf27 rfl rfl rfl (AllOne.mem ⟨(one_int _), (one_int _), one_sl, (one_int _), one_sl, trivial⟩) rfl rfl ?_
  show Ent _ ⟨_, [_, _]⟩ _
  refine enk K6 ?_
  refine ent_ret ?_
  exact retR1 (.inr rfl) Try.results46 (resr_cell (k := 0) ti27 rfl rfl rfl (cv_agg ⟨cv_int (by rw [sidC_no h7]), cv_int (by rw [sidC_no h7]), cv_sl sub_x (by rw [sidC_no h7]), cv_int (by rw [sidC_no h7]), cv_sl sub_x (by rw [sidC_no h7]), trivial⟩))
end Go.Proofs.Ytbofipdmoocflaa

