/-
  Walks of functions of the program and the reference.
-/
import Derived.Test.YtbofipdmoocflaaProg
import Derived.Test.YtbofipdmoocflaaXTab
import Derived.Test.YtbofipdmoocflaaPlainJ2
import Derived.Test.YtbofipdmoocflaaCiLib
import Derived.Test.YtbofipdmoocflaaX4
import Derived.Test.YtbofipdmoocflaaX5
import Derived.Test.YtbofipdmoocflaaX6
import Derived.Test.YtbofipdmoocflaaX9
import Derived.Test.YtbofipdmoocflaaX1
import Derived.Test.YtbofipdmoocflaaX10
import Derived.Test.YtbofipdmoocflaaX11
import Derived.Test.YtbofipdmoocflaaX12
import Derived.Test.YtbofipdmoocflaaX13
import Derived.Test.YtbofipdmoocflaaX14
import Derived.Test.YtbofipdmoocflaaX15
import Derived.Test.YtbofipdmoocflaaX18
import Derived.Test.YtbofipdmoocflaaX19
import Derived.Test.YtbofipdmoocflaaX20
import Derived.Test.YtbofipdmoocflaaX30
import Derived.Test.YtbofipdmoocflaaX31
import Derived.Test.YtbofipdmoocflaaX32
import Derived.Test.YtbofipdmoocflaaX33
open Go Go.Cw
namespace Go.Proofs.Ytbofipdmoocflaa
set_option maxRecDepth 100000
set_option linter.unusedVariables false
set_option linter.unusedSimpArgs false
theorem eEntries_ok (f : Fld) (l : List Int) (n : Int)  : Ctr Try.prog 68 [aGF f, aSl 1 false aInt l, aInt n] (aInt (lisE f l n)) := by
 refine ctr_of Try.call68 Try.func68 rfl rfl ?_
 intro w O
 refine ent_lenP 0 4 rfl rfl (fun hlen0_4 => ?_)
 refine ent_lenP 0 5 rfl rfl (fun hlen0_5 => ?_)
 refine ent_len 1 rfl (fun hlen1 => ?_)
 refine esk rfl ?_
 refine ent_seq fun _ K2 => ?_
 refine esr rfl fun _ K3 => ?_
 refine ent_o rfl (ok_len rfl Try.runUnderlying22 rfl) ?_
 refine emm rfl ?_
 refine ent_o rfl (ok_neq rfl rfl) ?_
 refine enk K3 ?_
 refine ent_condD rfl (fun h12 => ?_) (fun h12 => ?_)
 ·refine esk rfl ?_
  refine ent_ret ?_
  exact retR1 (.inr rfl) Try.results68 (resr_tmp (res_cv rfl (cv_int (by unfold lisE; rw [if_pos h12]))))
 ·refine esp K2 ?_
  refine ent_seq fun _ K5 => ?_
  refine esr rfl fun _ K6 => ?_
  refine ent_o rfl (ok_len rfl Try.runUnderlying22 rfl) ?_
  refine emm rfl ?_
  refine enk K6 ?_
  refine ent_block ?_
  refine ent_loop (fun (i : Int) => (⟨[(0, aGF f), (13, aSl 1 false aInt l), (14, aInt (↑l.length : Int)), (15, aInt i)], []⟩ : St)) (fun (i : Int) => (0 ≤ i) ∧ (i ≤ l.length) ∧ (¬ outF f (l.take i.toNat))) (fun (i : Int) => (l.length - i).toNat) 0 ⟨(by first | rfl | assumption | omega | (simp_all; done) | grind), (by first | rfl | assumption | omega | (simp_all; done) | grind), (by simp [outF])⟩ (ent_rep ⟨rfl, rfl, rfl, slot_av (av_int (show 0 = (0 : Int) by first | rfl | assumption | omega | (simp_all; done) | grind)), trivial⟩ rfl) ?_
  rintro i ⟨h0, h1, hn⟩
  show Ent _ ⟨_, []⟩ _
  refine esr rfl fun _ K7 => ?_
  refine ent_o rfl (ok_lss rfl rfl) ?_
  refine enk K7 ?_
  refine ent_seq fun _ K8 => ?_
  refine ent_condD rfl (fun h16 => ?_) (fun h16 => ?_)
  ·refine esp K8 ?_
   refine ent_seq fun _ K9 => ?_
   refine ent_block ?_
   refine esr rfl fun _ K10 => ?_
   refine ent_o rfl (ok_index 0 sl22 rfl rfl (by omega) (by omega)) ?_
   refine ent_o rfl (ok_load ti3 rfl) ?_
   refine emm rfl ?_
   refine enk K10 ?_
   refine esr rfl fun _ K11 => ?_
   refine ent_o rfl (ok_call (Is_ok f (ix 0 l i)) rfl) ?_
   refine ent_o rfl (ok_notD rfl) ?_
   refine enk K11 ?_
   refine ent_condD rfl (fun h22 => ?_) (fun h22 => ?_)
   ·refine esk rfl ?_
    refine ent_ret ?_
    exact retR1 (.inr rfl) Try.results68 (resr_tmp (res_cv rfl (cv_int (by unfold lisE; rw [if_neg h12]; unfold entErr; rw [if_pos (outF_at h0 h16 h22)]))))
   ·refine esp K9 ?_
    refine ent_region ?_
    refine ent_o rfl (ok_add rfl rfl (by omega) (by omega)) ?_
    refine emm rfl ?_
    refine ent_nil ?_
    refine ent_again (s := (i)) (i + 1) ⟨(by first | rfl | assumption | omega | (simp_all; done) | grind), (by first | rfl | assumption | omega | (simp_all; done) | grind), (outF_succ h0 h16 hn (Classical.not_not.1 h22))⟩ (by first | omega | (dsimp only; omega)) (ent_rep ⟨rfl, rfl, rfl, rfl, trivial⟩ rfl)
  ·refine ent_exit ?_
   refine ent_k K5 ?_
   refine esk rfl ?_
   refine ent_ret ?_
   exact retR1 (.inr rfl) Try.results68 (resr_tmp (res_cv rfl (cv_int (by unfold lisE; rw [if_neg h12]; unfold entErr; rw [if_neg (by rw [List.take_of_length_le (by omega)] at hn; exact hn)]))))

theorem rcv_ok (c : Cod) (y : List Int) (h : codE c = 0) : Ctr Try.prog 65 [aCod c, aSl 1 false aInt y] (aTup [aGF c.F, aInt (wrdE c y)]) := by
 refine ctr_of Try.call65 Try.func65 rfl rfl ?_
 intro w O
 refine ent_lenC 0 2 rfl rfl (fun hlen0_2 => ?_)
 refine ent_lenC 0 4 rfl rfl (fun hlen0_4 => ?_)
 refine ent_len 1 rfl (fun hlen1 => ?_)
 refine esr rfl fun _ K1 => ?_
 refine ent_boxS rfl rfl (AllOne.mem ⟨(one_int _), (one_int _), one_sl, (one_int _), one_sl, trivial⟩) (fun b2_1 => ?_)
 refine emm rfl ?_
 refine enk K1 ?_
 refine ent_seq fun _ K2 => ?_
 refine esr rfl fun _ K3 => ?_
 refine ent_o rfl (ok_loadBS (k := 0) ti27 rfl rfl rfl) ?_
 refine ent_o rfl (ok_call (cCheck_ok c) rfl) ?_
 refine emm rfl ?_
 refine enk K3 ?_
 refine esr rfl fun _ K4 => ?_
 refine ent_o rfl (ok_neq rfl rfl) ?_
 refine enk K4 ?_
 refine ent_condD rfl (fun h12 => ?_) (fun h12 => ?_)
 ·exact absurd h h12
 ·refine esp K2 ?_
  refine esr rfl fun _ K5 => ?_
  refine ent_o rfl (ok_fieldAddrEx Try.runUnderlying27 rfl Try.sizeOf24 (by decide) rfl) ?_
  refine ent_o rfl (ok_loadBS (k := 0) ti24 rfl rfl rfl) ?_
  refine ent_o rfl (ok_call (CtrF.ctr (New_ok c.F (codE_zero.1 h).fld)) rfl) ?_
  refine emm rfl ?_
  refine ent_o rfl (ok_extract rfl rfl) ?_
  refine ent_o rfl (ok_extract rfl rfl) ?_
  refine emm rfl ?_
  refine enk K5 ?_
  refine esr rfl fun _ K6 => ?_
  refine ent_o rfl (ok_fieldAddrEx Try.runUnderlying27 rfl Try.sizeOf3 (by decide) rfl) ?_
  refine ent_o rfl (ok_loadB (k := 0) Try.isAgg3 rfl rfl rfl) ?_
  refine ent_o rfl (ok_call (eEntries_ok c.F y c.N) rfl) ?_
  refine emm rfl ?_
  refine enk K6 ?_
  refine ent_ret ?_
  exact retR2 (.inr rfl) Try.results65 (resr_tmp (res_cv rfl (cv_id sub_x))) (resr_tmp (res_cv rfl (cv_int (by unfold wrdE; rw [if_pos h]))))

theorem rcv_no (c : Cod) (y : List Int) (h : codE c ≠ 0) : Ctr Try.prog 65 [aCod c, aSl 1 false aInt y] (aTup [aEx (.pointer none), aInt (wrdE c y)]) := by
 refine ctr_of Try.call65 Try.func65 rfl rfl ?_
 intro w O
 refine ent_lenC 0 2 rfl rfl (fun hlen0_2 => ?_)
 refine ent_lenC 0 4 rfl rfl (fun hlen0_4 => ?_)
 refine ent_len 1 rfl (fun hlen1 => ?_)
 refine esr rfl fun _ K1 => ?_
 refine ent_boxS rfl rfl (AllOne.mem ⟨(one_int _), (one_int _), one_sl, (one_int _), one_sl, trivial⟩) (fun b2_1 => ?_)
 refine emm rfl ?_
 refine enk K1 ?_
 refine ent_seq fun _ K2 => ?_
 refine esr rfl fun _ K3 => ?_
 refine ent_o rfl (ok_loadBS (k := 0) ti27 rfl rfl rfl) ?_
 refine ent_o rfl (ok_call (cCheck_ok c) rfl) ?_
 refine emm rfl ?_
 refine enk K3 ?_
 refine esr rfl fun _ K4 => ?_
 refine ent_o rfl (ok_neq rfl rfl) ?_
 refine enk K4 ?_
 refine ent_condD rfl (fun h12 => ?_) (fun h12 => ?_)
 ·refine esk rfl ?_
  refine ent_ret ?_
  exact retR2 (.inr rfl) Try.results65 (resr_tmp (res_cv rfl (cv_id sub_x))) (resr_tmp (res_cv rfl (cv_int (by unfold wrdE; rw [if_neg h]))))
 ·exact absurd (Classical.not_not.1 h12) h

end Go.Proofs.Ytbofipdmoocflaa

