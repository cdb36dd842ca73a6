/-
  Walks of functions of the program and the reference.
-/
import Derived.Test.YtfjhbdfgbpcchaaU13
open Go Go.Cw
namespace Go.Proofs.Ytfjhbdfgbpcchaa
open Try
set_option maxRecDepth 100000
set_option linter.unusedVariables false
set_option linter.unusedSimpArgs false
theorem canon_ok (f : Fld) (X : List (List Int)) (cols : Int) (wd : Nat) (hF : FOk f) (hg : good f wd X) (hc0 : 0 <= cols) (hc1 : cols <= wd) (hw : wd <= 100000) (hx : X.length <= 100000) : Ctr Try.prog 152 [aGF f, aSl 1 false aInts X, aInt cols] (aTup [aSl 1 false aInts (canR (elim f X [] cols.toNat)), aSl 1 false aInt ((elim f X [] cols.toNat).piv)]) := by
 have hpl := piv_le f X [] cols.toNat
 have hel := (length_elim f X [] cols.toNat).1
 refine ctr_of Try.call152 func152 rfl rfl ?_
 intro w O
 refine ent_lenP 0 4 rfl rfl (fun hlen0_4 => ?_)
 refine ent_lenP 0 5 rfl rfl (fun hlen0_5 => ?_)
 refine ent_len 1 rfl (fun hlen1 => ?_)
 refine esk rfl ?_
 refine esr rfl fun _ K2 => ?_
 refine ent_callW (rs := []) [] rfl (clone_ok X (by omega) (fun x hx => by have := (hg x hx).1; omega)) rfl rfl (.inl rfl) ⟨arg_a rfl (cv_id (sub_lent _)), trivial⟩ ?_
 rintro ⟨r_1, c_1, Hs_1⟩ h12_1
 show Ent _ ⟨_ :: _, [_, _]⟩ _
 refine emm rfl ?_
 refine enk K2 ?_
 refine esr rfl fun _ K3 => ?_
 refine ent_open 22 1 false aH (fun _ => rfl) ?_
 refine ent_rows0 3 aInt ?_
 refine ent_pm 4 [0, 1, 3, 2] rfl (by decide) rfl ?_
 refine ent_callW (rs := []) [] rfl (eliminate_ok f r_1 c_1 Hs_1 X cols none 0 [] [] wd 0 (by first | rfl | assumption | omega | (simp_all; done) | grind) (by first | rfl | assumption | omega | (simp_all; done) | grind) rfl (.inl rfl) hg (wide_nil 0) (by first | rfl | assumption | omega | (simp_all; done) | grind) (by first | rfl | assumption | omega | (simp_all; done) | grind) hw (by omega) hx) rfl rfl (.inl rfl) ⟨arg_a rfl (cv_id (sub_lent _)), arg_a rfl (cv_ex (congrArg (fun n => vec r_1 n c_1) (show Hs_1.length = Hs_1.length by first | rfl | assumption | omega | (simp only [List.length_set]; omega) | (simp; done) | (simp_all; done)))), arg_a rfl (cv_id (sub_lent _)), arg_a rfl (cv_ex (congrArg (fun n => vec none n 0) (show 0 = [].length by first | rfl | assumption | omega | (simp only [List.length_set]; omega) | (simp; done) | (simp_all; done)))), trivial⟩ ?_
 rintro ⟨Hn_3, Kn_3, rp_3, cp_3⟩ h17_3
 show Ent _ ⟨_ :: _, [_, _, _, _, _]⟩ _
 refine ent_pm 5 [1, 0, 2, 3, 4] rfl (by decide) rfl ?_
 refine emm rfl ?_
 refine A_A rfl (A_e rfl rfl) ?_
 refine A_A rfl (A_e rfl rfl) ?_
 refine emm rfl ?_
 refine enk K3 ?_
 refine esr rfl fun _ K4 => ?_
 refine A_A rfl (ok_lenEx rfl runUnderlying22 rfl) ?_
 refine emm rfl ?_
 refine A_A rfl (ok_lenEx rfl runUnderlying22 rfl) ?_
 refine ent_frzRows 3 4 rfl rfl (by decide) ?_
 refine ent_give 3 20 rfl (cv_vec (k := 3) (off_erase rfl) (by first | rfl | assumption | (simp; done) | (simp_all; done) | omega) rfl) ?_
 refine A_A rfl (ok_slice3To sl42 rfl rfl rfl (by omega) (by omega)) ?_
 refine emm rfl ?_
 refine enk K4 ?_
 refine A_S ?_
 exact retR2 (.inr rfl) results152 (A_N (A_W rfl (cv_sl sub_x (by first | rfl | (unfold canR; congr 1; omega))))) (A_N (A_W rfl (cv_vec (k := 0) (off_x rfl) (by first | rfl | assumption | (simp; done) | (simp_all; done) | omega) (by rfl))))

theorem open_no (f : Fld) (l : List Mat) (hN : opErr f l ≠ 0) : Ctr Try.prog 151 [aFld f, aSl 2 true aMat l] (aTup [aEx (.pointer none), aInt (opErr f l)]) := by
 refine ctr_of Try.call151 func151 rfl rfl ?_
 intro w O
 refine A_f 0 2 rfl rfl (fun hlen0_2 => ?_)
 refine ent_len 1 rfl (fun hlen1 => ?_)
 refine esr rfl fun _ K1 => ?_
 refine A_o rfl rfl (AllOne.mem ⟨(A_M _), (A_M _), A_i, trivial⟩) (fun b2_1 => ?_)
 refine emm rfl ?_
 refine enk K1 ?_
 refine esr rfl fun _ K2 => ?_
 refine A_A rfl (A_V (k := 0) ti24 rfl rfl rfl) ?_
 rcases Classical.em (FOk f) with hF | hF
 ·refine A_A rfl (A_Y (CtrF.ctr (New_ok f hF)) rfl) ?_
  refine emm rfl ?_
  refine A_A rfl (A_e rfl rfl) ?_
  refine A_A rfl (A_e rfl rfl) ?_
  refine emm rfl ?_
  refine enk K2 ?_
  refine A_C fun _ K3 => ?_
  refine esr rfl fun _ K4 => ?_
  refine A_A rfl (ok_neq rfl rfl) ?_
  refine enk K4 ?_
  refine ent_condFP rfl (by decide) ?_
  refine esp K3 ?_
  refine A_C fun _ K5 => ?_
  refine esr rfl fun _ K6 => ?_
  refine A_A rfl (A_l rfl runUnderlying169 rfl) ?_
  refine emm rfl ?_
  refine enk K6 ?_
  refine A_H ?_
  refine A_a (fun (i : Int) => (⟨[(6, aGF f), (18, aSl 2 true aMat l), (19, aInt (↑l.length : Int)), (20, aInt i)], [oBox b2_1 24 [aInt f.P, aInt f.M, aSl 1 false aInt f.mod]]⟩ : St)) (fun (i : Int) => (0 <= i) /\ (i <= l.length) /\ (∀ m ∈ l.take i.toNat, matErr f m = 0)) (fun (i : Int) => (l.length - i).toNat) 0 ⟨(by first | rfl | assumption | omega | (simp_all; done) | grind), (by first | rfl | assumption | omega | (simp_all; done) | grind), (by simp)⟩ (A_G ⟨rfl, rfl, rfl, A_P (A_c (show 0 = (0 : Int) by first | rfl | assumption | omega | (simp_all; done) | grind)), trivial⟩ rfl) ?_
  rintro i ⟨h0, h1, hp⟩
  show Ent _ ⟨_, [_]⟩ _
  refine esr rfl fun _ K7 => ?_
  refine A_A rfl (A_p rfl rfl) ?_
  refine enk K7 ?_
  refine A_C fun _ K8 => ?_
  refine A_F rfl (fun h21 => ?_) (fun h21 => ?_)
  ·refine esp K8 ?_
   refine A_C fun _ K9 => ?_
   refine A_H ?_
   refine esr rfl fun _ K10 => ?_
   refine A_A rfl (A_X Mat.no sl169 rfl rfl (by omega) (by omega)) ?_
   refine A_A rfl (A_Q ti120 rfl) ?_
   refine ent_alloc (z := .agg #[.int .i64 0, .slice none 0 0]) [aInt 0, aEx (.slice none 0 0)] rfl zv120 rfl zc120 (fun b9_2 => ?_)
   refine ent_storeBS (k := 0) sizeOf120 rfl rfl rfl (AllOne.mem ⟨(A_M _), A_i, trivial⟩) rfl rfl ?_
   show Ent _ ⟨_, [_, _]⟩ _
   refine enk K10 ?_
   refine esr rfl fun _ K11 => ?_
   refine A_A rfl (A_V (k := 0) ti120 rfl rfl rfl) ?_
   refine A_A rfl (A_Y (mcheck_ok f (ix Mat.no l i)) rfl) ?_
   refine emm rfl ?_
   refine enk K11 ?_
   refine esr rfl fun _ K12 => ?_
   refine A_A rfl (ok_neq rfl rfl) ?_
   refine enk K12 ?_
   refine A_F rfl (fun h28 => ?_) (fun h28 => ?_)
   ·refine esk rfl ?_
    refine A_S ?_
    exact retR2 (.inr rfl) results151 (A_N (A_W rfl (cv_id sub_x))) (A_N (A_W rfl (A_Z (by first | (unfold opErr; rw [if_pos hF]; exact (matsErr_at h0 h21 hp h28).symm) | (unfold opErr; exact (if_neg hF).symm)))))
   refine esp K9 ?_
   refine A_E ?_
   refine A_A rfl (A_j rfl rfl (by omega) (by omega)) ?_
   refine emm rfl ?_
   refine A_O ?_
   refine ent_drop 0 ?_
   refine A_T (s := (i)) (i + 1) ⟨(by first | rfl | assumption | omega | (simp_all; done) | grind), (by first | rfl | assumption | omega | (simp_all; done) | grind), (not_take_succ Mat.no h0 h21 hp (Classical.not_not.1 h28))⟩ (by first | omega | (dsimp only; omega)) (A_G ⟨rfl, rfl, rfl, rfl, trivial⟩ rfl)
  exact absurd (opErr_zero.2 ⟨hF, fun m hm => by rw [List.take_of_length_le (by omega)] at hp; exact hp m hm⟩) hN
 refine A_A rfl (A_Y (New_no f hF) rfl) ?_
 refine emm rfl ?_
 refine A_A rfl (A_e rfl rfl) ?_
 refine A_A rfl (A_e rfl rfl) ?_
 refine emm rfl ?_
 refine enk K2 ?_
 refine A_C fun _ K14 => ?_
 refine esr rfl fun _ K15 => ?_
 refine A_A rfl (ok_neq rfl rfl) ?_
 refine enk K15 ?_
 refine ent_condTP rfl (by decide) ?_
 refine esk rfl ?_
 refine A_S ?_
 exact retR2 (.inr rfl) results151 (A_N (A_W rfl (cv_id sub_x))) (A_N (A_W rfl (A_Z (by first | (unfold opErr; rw [if_pos hF]; exact (matsErr_at h0 h21 hp h28).symm) | (unfold opErr; exact (if_neg hF).symm)))))
end Go.Proofs.Ytfjhbdfgbpcchaa

