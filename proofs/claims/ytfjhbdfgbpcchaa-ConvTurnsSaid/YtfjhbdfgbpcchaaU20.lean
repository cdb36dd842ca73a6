/-
  Walks of functions of the program and the reference.
-/
import Derived.Test.YtfjhbdfgbpcchaaU19
open Go Go.Cw
namespace Go.Proofs.Ytfjhbdfgbpcchaa
open Try
set_option maxRecDepth 100000
set_option linter.unusedVariables false
set_option linter.unusedSimpArgs false
theorem rCanon_ok (f : Fld) (X : List (List Int)) (cols : Int) (wd : Nat) (hF : FOk f) (hg : good f wd X) (hc0 : 0 <= cols) (hc1 : cols <= wd) (hw : wd <= 100000) (hx : X.length <= 100000) : Ctr Try.prog 123 [aFld f, aSl 1 false aInts X, aInt cols] (aTup [aSl 1 false aInts (canR (elim f X [] cols.toNat)), aSl 1 false aInt ((elim f X [] cols.toNat).piv)]) := by
 have hpl := piv_le f X [] cols.toNat
 have hel := (length_elim f X [] cols.toNat).1
 refine ctr_of Try.call123 func123 rfl rfl ?_
 intro w O
 refine A_f 0 2 rfl rfl (fun hlen0_2 => ?_)
 refine ent_len 1 rfl (fun hlen1 => ?_)
 refine esr rfl fun _ K1 => ?_
 refine A_o rfl rfl (AllOne.mem ⟨(A_M _), (A_M _), A_i, trivial⟩) (fun b3_1 => ?_)
 refine emm rfl ?_
 refine enk K1 ?_
 refine esr rfl fun _ K2 => ?_
 refine A_A rfl (A_V (k := 0) ti24 rfl rfl rfl) ?_
 refine emm rfl ?_
 refine A_A rfl (A_Y (rEliminate_ok f X cols wd hF hg hc0 hc1 hw hx) rfl) ?_
 refine emm rfl ?_
 refine A_A rfl (A_e rfl rfl) ?_
 refine A_A rfl (A_e rfl rfl) ?_
 refine emm rfl ?_
 refine enk K2 ?_
 refine esr rfl fun _ K3 => ?_
 refine A_A rfl (A_l rfl runUnderlying22 rfl) ?_
 refine A_A rfl (ok_sliceTo sl42 rfl rfl (by omega) (by omega)) ?_
 refine emm rfl ?_
 refine enk K3 ?_
 refine A_S ?_
 exact retR2 (.inr rfl) results123 (A_N (A_W rfl (cv_sl sub_x (by first | rfl | (unfold canR; congr 1; omega))))) (A_N (A_W rfl (cv_sl sub_x (by rfl))))
end Go.Proofs.Ytfjhbdfgbpcchaa

