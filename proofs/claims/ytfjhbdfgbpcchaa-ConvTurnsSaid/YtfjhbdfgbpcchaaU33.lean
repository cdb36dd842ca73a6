/-
  Walks of functions of the program and the reference.
-/
import Derived.Test.YtfjhbdfgbpcchaaU32
open Go Go.Cw
namespace Go.Proofs.Ytfjhbdfgbpcchaa
open Try
set_option maxRecDepth 100000
set_option linter.unusedVariables false
set_option linter.unusedSimpArgs false

theorem rBlocks_ok (c : Cnv) (steps more len : Int) (hOk : c.Ok) (m0 : 0 <= more) (m1 : more <= 1000) (hlen : len = steps + more) : Ctr Try.prog 50 [aCnv c, aInt steps, aInt more] (aInt (c.tB steps len)) := by
 subst hlen
 have hF := hOk.fld
 have hS := hF.1
 have hq := hS.bd
 have hik : c.k = (c.Gen.length : Int) := rfl
 have hen : c.n = ((ix [] c.Gen 0).length : Int) := rfl
 have hkn := hOk.kn
 have hnl := hOk.len
 refine ctr_of Try.call50 func50 rfl rfl ?_
 intro w O
 refine A_f 0 2 rfl rfl (fun hlen0_2 => ?_)
 refine A_f 0 3 rfl rfl (fun hlen0_3 => ?_)
 refine esr rfl fun _ K1 => ?_
 refine A_o rfl rfl (AllOne.mem ⟨(A_M _), (A_M _), A_i, A_i, trivial⟩) (fun b3_1 => ?_)
 refine emm rfl ?_
 refine enk K1 ?_
 refine A_C fun _ K2 => ?_
 refine esr rfl fun _ K3 => ?_
 refine A_A rfl (A_p rfl rfl) ?_
 refine enk K3 ?_
 refine A_F rfl (fun h8 => ?_) (fun h8 => ?_)
 ·refine esk rfl ?_
  refine A_S ?_
  exact retR1 (.inr rfl) results50 (A_N (A_W rfl (A_Z (by unfold Cnv.tB; rw [if_pos h8]))))
 have hmul : steps <= 64 -> 0 <= ((ix [] c.Gen 0).length : Int) * (steps + more) /\ ((ix [] c.Gen 0).length : Int) * (steps + more) <= 64 * 1064 := fun h => ⟨Int.mul_nonneg (by omega) (by omega), Int.mul_le_mul (by omega) (by omega) (by omega) (by omega)⟩
 refine esp K2 ?_
 refine A_C fun _ K5 => ?_
 refine A_C fun _ K6 => ?_
 refine ent_cut (⟨[(22, aBool (decide ((64 < steps) \/ (64 < ((↑(ix [] c.Gen 0).length : Int) * (steps + more))))))], [oBox b3_1 27 [aInt c.F.P, aInt c.F.M, aSl 1 false aInt c.F.mod, aSl 1 false aRows c.Gen]]⟩) ?_ ?_
 ·refine A_E ?_
  refine emm rfl ?_
  refine A_A rfl (ok_gtr rfl rfl) ?_
  refine emm rfl ?_
  refine ent_guardXDf rfl rfl rfl rfl (fun hg11 => ?_) (fun hg11 => ?_)
  ·refine A_A rfl (A_B runUnderlying27 rfl sizeOf25 (by decide) rfl) ?_
   refine A_I rfl rfl rfl rfl (decide_eq_false hg11) ?_
   refine A_A rfl (A_L (k := 0) isAgg25 rfl rfl rfl) ?_
   refine A_I rfl rfl rfl rfl (decide_eq_false hg11) ?_
   refine A_A rfl (A_X [] sl25 rfl rfl (by omega) (by omega)) ?_
   refine A_I rfl rfl rfl rfl (decide_eq_false hg11) ?_
   refine A_A rfl (A_Q ti42 rfl) ?_
   refine A_I rfl rfl rfl rfl (decide_eq_false hg11) ?_
   refine A_A rfl (A_l rfl runUnderlying42 rfl) ?_
   refine A_I rfl rfl rfl rfl (decide_eq_false hg11) ?_
   refine emm rfl ?_
   refine A_I rfl rfl rfl rfl (decide_eq_false hg11) ?_
   refine emm rfl ?_
   refine A_I rfl rfl rfl rfl (decide_eq_false hg11) ?_
   refine A_A rfl (A_j rfl rfl (by omega) (by omega)) ?_
   refine A_I rfl rfl rfl rfl (decide_eq_false hg11) ?_
   refine A_A rfl (ok_mul rfl rfl (by omega) (by omega)) ?_
   refine A_I rfl rfl rfl rfl (decide_eq_false hg11) ?_
   refine A_A rfl (ok_gtr rfl rfl) ?_
   refine A_A rfl (A_t rfl (decide_eq_false hg11) rfl) ?_
   refine A_O ?_
   exact A_G ⟨A_U (dq_Q ((or_iff_right hg11).trans Iff.rfl)), trivial⟩ rfl
  refine A_D rfl rfl rfl rfl (decide_eq_true hg11) ?_
  refine A_D rfl rfl rfl rfl (decide_eq_true hg11) ?_
  refine A_D rfl rfl rfl rfl (decide_eq_true hg11) ?_
  refine A_D rfl rfl rfl rfl (decide_eq_true hg11) ?_
  refine A_D rfl rfl rfl rfl (decide_eq_true hg11) ?_
  refine A_D rfl rfl rfl rfl (decide_eq_true hg11) ?_
  refine A_D rfl rfl rfl rfl (decide_eq_true hg11) ?_
  refine A_D rfl rfl rfl rfl (decide_eq_true hg11) ?_
  refine A_D rfl rfl rfl rfl (decide_eq_true hg11) ?_
  refine A_A rfl (A_h rfl (decide_eq_true hg11) rfl) ?_
  refine A_O ?_
  exact A_G ⟨A_U (dq_T rfl (Or.inl hg11)), trivial⟩ rfl
 refine A_s K6 ?_
 refine A_F rfl (fun h22 => ?_) (fun h22 => ?_)
 ·refine esk rfl ?_
  refine A_S ?_
  exact retR1 (.inr rfl) results50 (A_N (A_W rfl (A_Z (by unfold Cnv.tB; rw [hen, if_neg h8, if_pos h22]))))
 refine esp K5 ?_
 refine esk rfl ?_
 refine A_S ?_
 exact retR1 (.inr rfl) results50 (A_N (A_W rfl (A_Z (by unfold Cnv.tB; rw [hen, if_neg h8, if_neg h22]))))
end Go.Proofs.Ytfjhbdfgbpcchaa

