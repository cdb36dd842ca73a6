/-
  Walks of functions of the program and the reference.
-/
import Derived.Test.YtbofipdmoocflaaProg
import Derived.Test.YtbofipdmoocflaaXTab
import Derived.Test.YtbofipdmoocflaaPlainJ1
import Derived.Test.YtbofipdmoocflaaCiLib
import Derived.Test.YtbofipdmoocflaaX4
import Derived.Test.YtbofipdmoocflaaX5
import Derived.Test.YtbofipdmoocflaaX6
import Derived.Test.YtbofipdmoocflaaX9
import Derived.Test.YtbofipdmoocflaaX1
import Derived.Test.YtbofipdmoocflaaX10
import Derived.Test.YtbofipdmoocflaaX11
import Derived.Test.YtbofipdmoocflaaX12
import Derived.Test.YtbofipdmoocflaaX13
import Derived.Test.YtbofipdmoocflaaX14
import Derived.Test.YtbofipdmoocflaaX15
import Derived.Test.YtbofipdmoocflaaX18
import Derived.Test.YtbofipdmoocflaaX19
import Derived.Test.YtbofipdmoocflaaX20
import Derived.Test.YtbofipdmoocflaaX30
import Derived.Test.YtbofipdmoocflaaX31
open Go Go.Cw
namespace Go.Proofs.Ytbofipdmoocflaa
set_option maxRecDepth 100000
set_option linter.unusedVariables false
set_option linter.unusedSimpArgs false
theorem Walk1_ok {σ : Type} (c : Cod) (l : Nat) (T : σ → Own) (J : Int → σ → Prop) (s : σ) (hk : COk c) (hq : c.F.q ^ c.Gen.length ≤ 65536) (hJ : J 0 s) (hY : ∀ i s, 0 ≤ i → i < c.F.q ^ c.Gen.length → J i s → CtrY Try.prog l [T s] [aInt i, aSl 1 false aInt (wdF c.F c.N c.Gen i)] (J (i + 1)) (fun _ => aBool true) (fun s2 => [T s2])) : CtrW Try.prog 79 [T s] [aEx (.func (.yield l) #[] #[]), aAt 5 true (aCod c)] (fun (s2 : σ) => J (c.F.q ^ c.Gen.length) s2) (fun (s2 : σ) => aAny) (fun (s2 : σ) => [T s2]) := by
 have hc0 := codE_zero.2 hk
 have hn1 := hk.n1
 have hn64 := hk.n64
 refine ctrW_of Try.call79 Try.func79 rfl rfl ?_
 intro w O
 refine ent_lenP 1 2 rfl rfl (fun hlen1_2 => ?_)
 refine ent_lenP 1 4 rfl rfl (fun hlen1_4 => ?_)
 refine esr rfl fun _ K1 => ?_
 refine ent_box1 rfl rfl (one_ex rfl) (fun b2_1 => ?_)
 refine enk K1 ?_
 refine ent_seq fun _ K2 => ?_
 refine esr rfl fun _ K3 => ?_
 refine ent_o rfl (ok_load ti27 rfl) ?_
 refine ent_o rfl (ok_call (cCheck_ok c) rfl) ?_
 refine ent_o rfl (ok_neq rfl rfl) ?_
 refine enk K3 ?_
 refine ent_condD rfl (fun h9 => ?_) (fun h9 => ?_)
 ·exact absurd hc0 h9
 ·refine esp K2 ?_
  refine esr rfl fun _ K4 => ?_
  refine ent_o rfl (ok_fieldAddrS Try.runUnderlying27 rfl Try.sizeOf24 (by decide) (Nat.le_of_ble_eq_true rfl) rfl) ?_
  refine ent_o rfl (ok_load ti24 rfl) ?_
  refine ent_o rfl (ok_call (CtrF.ctr (New_ok c.F hk.fld)) rfl) ?_
  refine emm rfl ?_
  refine ent_o rfl (ok_extract rfl rfl) ?_
  refine ent_o rfl (ok_extract rfl rfl) ?_
  refine ent_alloc (z := (.pointer none)) [aEx (.pointer none)] rfl zv89 rfl zc89 (fun b3_2 => ?_)
  refine ent_storeB (k := 0) Try.sizeOf89 rfl rfl rfl one_at rfl ?_
  refine emm rfl ?_
  refine enk K4 ?_
  refine esr rfl fun _ K5 => ?_
  refine ent_alloc (z := (.int .i64 0)) [aInt 0] rfl zv3 rfl zc3 (fun b5_3 => ?_)
  refine ent_storeB (k := 0) Try.sizeOf3 rfl rfl rfl (one_int _) rfl ?_
  refine enk K5 ?_
  refine esr rfl fun _ K6 => ?_
  refine ent_alloc (z := (.nilFunc)) [aEx .nilFunc] rfl zv104 rfl zc104 (fun b6_4 => ?_)
  refine enk K6 ?_
  refine ent_seq fun _ K7 => ?_
  refine ent_fact 1 rfl (fun vc => ?_)
  refine ent_region ?_
  refine ent_o rfl (ok_makeFunc (us := [vc, .pointer (some ⟨b5_3, 0, none⟩), .pointer (some ⟨b2_1, 0, none⟩), .pointer (some ⟨b3_2, 0, none⟩), .pointer (some ⟨b6_4, 0, none⟩)]) rfl) ?_
  refine ent_storeB (k := 1) Try.sizeOf104 rfl rfl rfl (one_ex rfl) rfl ?_
  refine enk K7 ?_
  refine ent_giveF (A' := aAt 1 false (aEx (.func (.yield l) #[] #[]))) 4 (.pointer (some ⟨b2_1, 0, none⟩)) (cv_box1 (k := 4) (off_erase rfl) (cv_id (sub_erase _))) ?_
  refine ent_giveF (A' := aAt 1 false (aGF c.F)) 4 (.pointer (some ⟨b3_2, 0, none⟩)) (cv_box1 (k := 4) (off_erase rfl) (cv_id (sub_erase _))) ?_
  refine ent_giveF (A' := aFrm 80 [aAt 5 true (aCod c), aEx (.pointer (some ⟨b5_3, 0, none⟩)), aAt 1 false (aEx (.func (.yield l) #[] #[])), aAt 1 false (aGF c.F)] (c.Gen.length + 1)) 3 (.pointer (some ⟨b6_4, 0, none⟩)) (cv_knot (k := 3) (us := [vc, (.pointer (some ⟨b5_3, 0, none⟩)), (.pointer (some ⟨b2_1, 0, none⟩)), (.pointer (some ⟨b3_2, 0, none⟩))]) (As := [aAt 5 true (aCod c), aEx (.pointer (some ⟨b5_3, 0, none⟩)), aAt 1 false (aEx (.func (.yield l) #[] #[])), aAt 1 false (aGF c.F)]) rfl ⟨cv_fact (k := 2) rfl (sub_erase _), cv_ex rfl, cv_fact (k := 1) rfl (sub_erase _), cv_fact (k := 0) rfl (sub_erase _), trivial⟩ (c.Gen.length + 1)) ?_
  refine ent_cv (A' := aAt 1 false (aClo 80 [aAt 5 true (aCod c), aEx (.pointer (some ⟨b5_3, 0, none⟩)), aAt 1 false (aEx (.func (.yield l) #[] #[])), aAt 1 false (aGF c.F), aFrm 80 [aAt 5 true (aCod c), aEx (.pointer (some ⟨b5_3, 0, none⟩)), aAt 1 false (aEx (.func (.yield l) #[] #[])), aAt 1 false (aGF c.F)] c.Gen.length])) 6 rfl (cv_fact (k := 0) rfl sub_refl) ?_
  refine ent_cv (A' := aAt 5 true (aCod c)) 1 rfl (cv_fact (k := 3) rfl sub_refl) ?_
  refine ent_draw 4 mixed (by kernel_rfl) (by kernel_rfl) (by kernel_rfl) ?_
  refine dw_o rfl (ok_load ti104 rfl) ?_
  refine dw_o rfl (ok_fieldAddr1 Try.runUnderlying27 rfl Try.sizeOf3 rfl rfl) ?_
  refine dw_o rfl (ok_load ti3 rfl) ?_
  refine dw_o rfl (ok_makeA aInt 0 vt22 rfl rfl (by omega) (by omega) (by omega) (fun _ _ => rfl) (AllV.mem ⟨rfl, trivial⟩)) ?_
  refine dw_nil ?_
  refine ent_pm 6 [3, 2, 1, 0, 5, 4] rfl (by decide) rfl ?_
  refine ent_callWP (As := [aInt 0, aSl 1 false aInt (List.replicate c.N.toNat 0)]) (Bs := [aAt 5 true (aCod c), aEx (.pointer (some ⟨b5_3, 0, none⟩)), aAt 1 false (aEx (.func (.yield l) #[] #[])), aAt 1 false (aGF c.F), aFrm 80 [aAt 5 true (aCod c), aEx (.pointer (some ⟨b5_3, 0, none⟩)), aAt 1 false (aEx (.func (.yield l) #[] #[])), aAt 1 false (aGF c.F)] c.Gen.length]) (rs := [oFact (.pointer (some ⟨b6_4, 0, none⟩)) (aFrm 80 [aAt 5 true (aCod c), aEx (.pointer (some ⟨b5_3, 0, none⟩)), aAt 1 false (aEx (.func (.yield l) #[] #[])), aAt 1 false (aGF c.F)] (c.Gen.length + 1)), oFact (.pointer (some ⟨b3_2, 0, none⟩)) (aAt 1 false (aGF c.F)), oFact (.pointer (some ⟨b2_1, 0, none⟩)) (aAt 1 false (aEx (.func (.yield l) #[] #[]))), oFact vc (aAt 5 true (aCod c))]) [] rfl (from_top c _ b5_3 _ J s hY hk.fld hn1 hn64 hq (fun i i0 i1 => hk.row i0 i1) hJ) rfl rfl (.inl rfl) rfl ⟨arg_a rfl (cv_id (sub_lent _)), arg_a rfl (cv_fr (sub_lent _)), trivial⟩ ?_
  rintro s2_5 h21_5
  show Ent _ ⟨_ :: _, [_, _, _, _, _, _]⟩ _
  refine ent_pm 6 [1, 0, 5, 4, 3, 2] rfl (by decide) rfl ?_
  have hend := h21_5
  refine ent_nil ?_
  refine ent_drop 0 ?_
  refine ent_drop 0 ?_
  refine ent_drop 0 ?_
  refine ent_drop 0 ?_
  refine ent_drop 0 ?_
  exact retW (.inl rfl) (s2_5) (hend) ((show ([T s2_5] : List Own) = [T s2_5] from rfl).symm) (resW0 Try.results79 )

theorem Walk_ok (c : Cod)  : Ctr Try.prog 52 [aCod c] (aClo 79 [aAt 5 true (aCod c)]) := by
 refine ctr_of Try.call52 Try.func52 rfl rfl ?_
 intro w O
 refine ent_lenC 0 2 rfl rfl (fun hlen0_2 => ?_)
 refine ent_lenC 0 4 rfl rfl (fun hlen0_4 => ?_)
 refine esr rfl fun _ K1 => ?_
 refine ent_boxS rfl rfl (AllOne.mem ⟨(one_int _), (one_int _), one_sl, (one_int _), one_sl, trivial⟩) (fun b1_1 => ?_)
 refine emm rfl ?_
 refine enk K1 ?_
 refine esr rfl fun _ K2 => ?_
 refine ent_o rfl (ok_makeFunc (us := [.pointer (some ⟨b1_1, 0, none⟩)]) rfl) ?_
 refine emm rfl ?_
 refine enk K2 ?_
 refine ent_ret ?_
 exact retR1 (.inr rfl) Try.results52 (resr_tmp (res_cv rfl (cv_clo ⟨cv_box (k := 0) (off_x rfl) ⟨cv_int (by first | rfl | assumption | omega | (simp_all; done) | grind), cv_int (by first | rfl | assumption | omega | (simp_all; done) | grind), cv_sl sub_x (by first | rfl | assumption | omega | (simp_all; done) | grind), cv_int (by first | rfl | assumption | omega | (simp_all; done) | grind), cv_sl sub_x (by first | rfl | assumption | omega | (simp_all; done) | grind), trivial⟩ rfl, trivial⟩)))
end Go.Proofs.Ytbofipdmoocflaa

