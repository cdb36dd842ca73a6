/-
  Walks of functions of the program and the reference.
-/
import Derived.Test.YtfjhbdfgbpcchaaU15
open Go Go.Cw
namespace Go.Proofs.Ytfjhbdfgbpcchaa
open Try
set_option maxRecDepth 100000
set_option linter.unusedVariables false
set_option linter.unusedSimpArgs false

theorem rCopy_ok (X : List (List Int)) (hx : X.length <= 1000000) (hr : ∀ l ∈ X, l.length <= 1000000) : CtrN Try.prog 154 [aSl 1 false aInts X] 22 1 false aInts X := by
 refine ctrN_of Try.call154 func154 rfl rfl ?_
 intro w O
 refine ent_len 0 rfl (fun hlen0 => ?_)
 refine esk rfl ?_
 refine esk rfl ?_
 refine A_E fun _ K3 => ?_
 refine esk rfl ?_
 refine A_H ?_
 refine ent_open 22 1 false aInts (fun _ => rfl) ?_
 refine A_Z (fun (ss : Int × Option Nat × Nat) => match ss with | (i, rr2, cc2) => (⟨[(0, aSl 1 false aInts X), (3, aEx (vec rr2 ((X.take i.toNat).length) cc2)), (4, aInt i)], [oVec rr2 cc2 22 1 false aInts (X.take i.toNat)]⟩ : St)) (fun (ss : Int × Option Nat × Nat) => match ss with | (i, rr2, cc2) => (0 <= i) /\ (i <= X.length)) (fun (ss : Int × Option Nat × Nat) => match ss with | (i, rr2, cc2) => (X.length - i).toNat) (0, none, 0) ⟨(by first | rfl | assumption | omega | (simp_all; done) | grind), (by first | rfl | assumption | omega | (simp_all; done) | grind)⟩ (A_G ⟨rfl, A_P ((show aEx (vec none ([] : List _).length 0) = aEx (vec none ((X.take (0 : Int).toNat).length) 0) from av_vec (congrArg List.length (show X.take (0 : Int).toNat = [] by rfl).symm))), A_P (A_d (show 0 = (0 : Int) by first | rfl | assumption | omega | (simp_all; done) | grind)), trivial⟩ (A_J (A_e (show X.take (0 : Int).toNat = [] by rfl)) (rfl))) ?_
 rintro ⟨i, rr2, cc2⟩ ⟨h0, h1⟩
 show Ent _ ⟨_, [_]⟩ _
 refine A_E fun _ K5 => ?_
 refine esr rfl fun _ K6 => ?_
 refine A_A rfl (A_p rfl runUnderlying42 rfl) ?_
 refine A_A rfl (A_q rfl rfl) ?_
 refine enk K6 ?_
 refine A_I rfl (fun h8 => ?_) (fun h8 => ?_)
 ·have hri := hr _ (ix_mem [] X h0 h8)
  refine esp K5 ?_
  refine A_E fun _ K7 => ?_
  refine A_H ?_
  refine A_F ?_
  refine emm rfl ?_
  refine ent_buildN aInt [] rfl vt22 (by decide) (rfl) rfl (fun b12_3 => ?_)
  refine emm rfl ?_
  refine A_A rfl (A_U [] sl42 rfl rfl (by omega) (by omega)) ?_
  refine A_A rfl (A_Q ti22 rfl) ?_
  refine ent_appendS (k := 0) rfl vt22 rfl rfl (by first | rfl | assumption | (simp; done) | (simp_all; done) | omega) rfl (cv_id sub_refl) (by first | omega | (simp only [List.length_append, List.length_cons, List.length_nil]; omega) | (simp; omega)) (by first | omega | (simp only [List.length_append, List.length_cons, List.length_nil]; omega) | (simp; omega)) (fun r17_3 cr17_3 => ?_)
  refine ent_give 0 17 rfl (cv_vec (k := 0) (off_erase rfl) (by first | rfl | assumption | (simp; done) | (simp_all; done) | omega) rfl) ?_
  refine ent_appendL (k := 0) (enc := aInts) (y := [] ++ (ix [] X i)) rfl rfl vt42 rfl rfl (by first | rfl | assumption | (simp; done) | (simp_all; done) | omega) rfl ((A_u A_i)) (by first | omega | (simp only [List.length_append, List.length_cons, List.length_nil]; omega) | (simp; omega) | (simp; done)) (by first | omega | (simp only [List.length_append, List.length_cons, List.length_nil]; omega) | (simp; omega) | (simp; done)) (by decide) (fun b19_5 c19_5 => ?_)
  refine emm rfl ?_
  refine enk K7 ?_
  refine A_F ?_
  refine emm rfl ?_
  refine A_A rfl (A_j rfl rfl (by omega) (by omega)) ?_
  refine emm rfl ?_
  refine A_N ?_
  refine A_R (s := (i, rr2, cc2)) (i + 1, (some b19_5), c19_5) ⟨(by first | rfl | assumption | omega | (simp_all; done) | grind), (by first | rfl | assumption | omega | (simp_all; done) | grind)⟩ (by first | omega | (dsimp only; omega)) (A_G ⟨rfl, A_P (av_vec (congrArg List.length (show X.take (i + 1).toNat = (X.take i.toNat) ++ [[] ++ (ix [] X i)] by rw [take_succ_ix [] X h0 h8]; simp).symm)), rfl, trivial⟩ (A_J (A_e (show X.take (i + 1).toNat = (X.take i.toNat) ++ [[] ++ (ix [] X i)] by rw [take_succ_ix [] X h0 h8]; simp)) (rfl)))
 refine A_a ?_
 refine A_v K3 ?_
 refine esk rfl ?_
 refine A_S ?_
 exact retN (k := 0) (.inr rfl) results154 rfl rfl (by first | rfl | assumption | (simp; done) | (simp_all; done) | omega) (by rw [List.take_of_length_le (by omega)])
end Go.Proofs.Ytfjhbdfgbpcchaa

