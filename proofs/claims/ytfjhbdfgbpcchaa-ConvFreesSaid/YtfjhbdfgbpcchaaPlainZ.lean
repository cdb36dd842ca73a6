/-
  An accepted proof bounds the weights of all messages.
-/
import Derived.Test.YtfjhbdfgbpcchaaPlainY
set_option linter.unusedVariables false
set_option linter.unusedSimpArgs false
set_option linter.unusedSectionVars false
namespace Go.Cw
namespace Cnv
variable {c : Cnv}
/-! ### An accepted proof bounds the weights of all messages -/
/-- The index of inputs. -/
theorem inp_val (hq : 2 ≤ c.F.q) {u : List Int} (h : c.GoodIn u) : c.inp (valS c.F.q u) = u ∧ 0 ≤ valS c.F.q u ∧ valS c.F.q u < c.ins := by
  have hl : u.length = c.Gen.length := by have := h.1; unfold k at this; omega
  have hm : ∀ d ∈ u, 0 ≤ d ∧ d < c.F.q := fun d hd => outF_no h.2 hd
  have h1 := digS_valS c.F.q hq u hm
  have h2 := valS_bound c.F.q hq u hm
  rw [hl] at h1 h2
  exact ⟨h1, h2⟩
theorem valS_zero (q : Int) : ∀ l : List Int, (∀ x ∈ l, x = 0) → valS q l = 0
  | [], _ => rfl
  | a :: l, h => by rw [valS, valS_zero q l (fun x hx => h x (by simp [hx])), h a (by simp)]; simp
theorem val_pos (hq : 2 ≤ c.F.q) {u : List Int} (h : c.GoodIn u) (hw : wt1 u ≠ 0) : 0 < valS c.F.q u := by
  have h1 := inp_val hq h
  by_cases h0 : valS c.F.q u = 0
  · exfalso
    rw [h0] at h1
    refine hw ((wt1_zero_iff u).2 fun x hx => ?_)
    rw [← h1.1] at hx
    unfold inp at hx
    rw [Rg.digS_zero] at hx
    exact List.eq_of_mem_replicate hx
  · omega
/-- The weight of the outputs from step a on. -/
def wtFrom (rows : List (List Int)) (a : Nat) : Int := wtL rows - wtTo rows a
theorem wtTo_step {us : List (List Int)} {t : Nat} (h : t < us.length) : wtTo (c.encL us) (t + 1) = wtTo (c.encL us) t + wt1 (c.encO us t) := by
  rw [wtTo, ix_encL us (by omega) (by omega)]
/-- A path from a state other than 0 weighs at least the difference of the potentials. -/
theorem pot_path {p : Fp} (hq : 2 ≤ c.F.q) (hA : c.Acc p) {us : List (List Int)} (hg : c.GoodU us) : ∀ n : Nat, ∀ t : Nat, t + n = us.length → c.encS us us.length = 0 → (∀ i : Nat, t ≤ i → i ≤ us.length → c.encS us i = 0 → True) →
    ix 0 p.Pot (c.encS us t) ≤ wtTo (c.encL us) us.length - wtTo (c.encL us) t
  | 0, t, ht, hz, _ => by
    have : t = us.length := by omega
    subst this
    rw [hz, hA.2.1.2]; omega
  | n + 1, t, ht, hz, hx => by
    have ih := pot_path hq hA hg n (t + 1) (by omega) hz (fun _ _ _ _ => trivial)
    have hs := encS_lt hq hg t (by omega)
    have hgi := hg.at (t := (t : Int)) (by omega) (by omega)
    have hv := inp_val hq hgi
    have hnb := hA.2.2.2 (c.encS us t) (valS c.F.q (ix [] us t)) hs.1 hs.2 hv.2.1 hv.2.2
    unfold bad at hnb
    rw [hv.1] at hnb
    have hst := wtTo_step (c := c) (us := us) (t := t) (by omega)
    have hsucc : c.encS us (t + 1) = c.nxt (c.encS us t) (ix [] us t) c.Gen.length := by rw [encS]
    rw [hsucc] at ih
    have ho : c.encO us (t : Int) = c.outL (c.encS us t) (ix [] us t) := by unfold encO; rw [show ((t : Int)).toNat = t by omega]
    rw [hst, ho] at ih
    by_cases h0 : c.encS us t = 0
    · rw [h0, hA.2.1.2]
      have hmono : wtTo (c.encL us) t ≤ wtTo (c.encL us) us.length := by
        have key : ∀ k : Nat, wtTo (c.encL us) t ≤ wtTo (c.encL us) (t + k) := by
          intro k
          induction k with
          | zero => exact Int.le_refl _
          | succ k ih2 =>
            have := (wt1To_le (ix [] (c.encL us) ((t + k : Nat) : Int)) (ix [] (c.encL us) ((t + k : Nat) : Int)).length).1
            show _ ≤ wtTo (c.encL us) (t + k) + wt1 (ix [] (c.encL us) ((t + k : Nat) : Int))
            unfold wt1; omega
        have := key (n + 1)
        rwa [ht] at this
      omega
    · omega
theorem wtTo_mono (rows : List (List Int)) (t : Nat) : ∀ k : Nat, wtTo rows t ≤ wtTo rows (t + k)
  | 0 => Int.le_refl _
  | k + 1 => by
    have ih := wtTo_mono rows t k
    have := (wt1To_le (ix [] rows ((t + k : Nat) : Int)) (ix [] rows ((t + k : Nat) : Int)).length).1
    show _ ≤ wtTo rows (t + k) + wt1 (ix [] rows ((t + k : Nat) : Int))
    unfold wt1; omega
/-- With zero inputs the machine stays in state 0. -/
theorem stay_zero (hq : 2 ≤ c.F.q) {us : List (List Int)} (hg : c.GoodU us) : ∀ t : Nat, t ≤ us.length → (∀ i : Nat, i < t → wt1 (ix [] us i) = 0) → c.encS us t = 0
  | 0, _, _ => rfl
  | t + 1, ht, h => by
    have h1 := stay_zero hq hg t (by omega) (fun i hi => h i (by omega))
    have hgi := hg.at (t := (t : Int)) (by omega) (by omega)
    have hz : ix [] us (t : Int) = c.zrow := by
      have h2 := (wt1_zero_iff _).1 (h t (by omega))
      have hl : (ix [] us (t : Int)).length = c.Gen.length := by have := hgi.1; unfold k at this; omega
      unfold zrow
      exact List.eq_replicate_iff.2 ⟨hl, h2⟩
    rw [encS, h1, hz]
    exact nxt_zero _ fun i d i0 i1 d0 d1 => line_zero hq i0 i1 d0 (by omega)
theorem acc_bound {p : Fp} (hOk : c.Ok) (hA : c.Acc p) {us : List (List Int)} (hg : c.GoodU us) (hw : wtL us ≠ 0) : p.D ≤ wtL (c.encL (c.term us)) := by
  have hq := hOk.fld.1.bd.2.2.2.2.2.1
  have hgt : c.GoodU (c.term us) := GoodU.term hq hg c.mem
  have hlt : (c.term us).length = us.length + c.mem.toNat := length_termTo us c.mem
  -- the first step with a nonzero input
  have hex : ∃ t : Nat, t < us.length ∧ wt1 (ix [] us t) ≠ 0 := by
    obtain ⟨r, hr, hpos⟩ := (wtL_pos_iff us).1 hw
    obtain ⟨j, hj1, hj2, rfl⟩ := mem_take_getD [] us us.length r (by simpa using hr)
    exact ⟨j, hj2, by omega⟩
  have hfirst : ∃ t : Nat, t < us.length ∧ wt1 (ix [] us t) ≠ 0 ∧ ∀ i : Nat, i < t → wt1 (ix [] us i) = 0 := by
    obtain ⟨t, h1, h2⟩ := hex
    induction t using Nat.strongRecOn with
    | _ t ih =>
      by_cases h : ∀ i : Nat, i < t → wt1 (ix [] us i) = 0
      · exact ⟨t, h1, h2, h⟩
      · simp only [Classical.not_forall] at h
        obtain ⟨i, hi, hn⟩ := h
        exact ih i hi (by omega) hn
  obtain ⟨t, ht, hn, hz⟩ := hfirst
  have hix : ∀ i : Nat, i < us.length → ix [] (c.term us) (i : Int) = ix [] us (i : Int) := fun i hi => by
    unfold ix term termTo
    simp only [List.getD]
    rw [List.getElem?_append_left (by omega)]
  have hs0 := stay_zero hq hgt t (by omega) (fun i hi => by rw [hix i (by omega)]; exact hz i hi)
  have hgi := hg.at (t := (t : Int)) (by omega) (by omega)
  have hv := inp_val hq hgi
  have hvp := val_pos hq hgi hn
  have hst := states_ge (c := c) hq
  have hnb := hA.2.2.2 0 (valS c.F.q (ix [] us t)) (Int.le_refl _) (by omega) hv.2.1 hv.2.2
  unfold bad at hnb
  rw [hv.1] at hnb
  have hfin : c.encS (c.term us) (c.term us).length = 0 := encS_term hq hg
  have hp := pot_path hq hA hgt ((c.term us).length - (t + 1)) (t + 1) (by omega) hfin (fun _ _ _ _ => trivial)
  have hsucc : c.encS (c.term us) (t + 1) = c.nxt 0 (ix [] us t) c.Gen.length := by rw [encS, hs0, hix t ht]
  have hstep := wtTo_step (c := c) (us := c.term us) (t := t) (by omega)
  have ho : c.encO (c.term us) (t : Int) = c.outL 0 (ix [] us t) := by unfold encO; rw [show ((t : Int)).toNat = t by omega, hs0, hix t ht]
  rw [hsucc, hstep, ho] at hp
  have hall : wtL (c.encL (c.term us)) = wtTo (c.encL (c.term us)) (c.term us).length := by unfold wtL; rw [length_encL]
  have h0 := wtTo_nonneg (c.encL (c.term us)) t
  rw [hall]
  omega
end Cnv
def qA : Cnv.Fp := ⟨5, [[1]], [0, 3, 2, 2]⟩
def qB : Cnv.Fp := ⟨6, [[1]], [0, 3, 2, 2]⟩
theorem four_states : fourC.states = 4 := by decide +kernel
theorem four_ins : fourC.ins = 2 := by decide +kernel
theorem fourC_err : fourC.err = 0 := Cnv.err_zero.2 fourC_ok
theorem four_wt : wtL (fourC.encL (fourC.term [[1]])) = 5 := by decide +kernel
theorem acc_qA : fourC.Acc qA := by
  refine ⟨⟨fun u hu => ?_, by decide +kernel, four_wt⟩, ⟨by rw [four_states]; rfl, rfl⟩, ?_, ?_⟩
  · simp only [qA, List.mem_singleton] at hu
    subst hu; exact fourC_in
  · rintro ⟨v, hv, h⟩
    simp only [qA, List.mem_cons, List.not_mem_nil, or_false] at hv
    omega
  · rw [four_states, four_ins]
    intro s x s0 s1 x0 x1
    have hs : s = 0 ∨ s = 1 ∨ s = 2 ∨ s = 3 := by omega
    have hx : x = 0 ∨ x = 1 := by omega
    rcases hs with rfl | rfl | rfl | rfl <;> rcases hx with rfl | rfl <;> decide +kernel
theorem nacc_qB : ¬ fourC.Acc qB := fun h => by
  have h1 := h.1.2.2
  have h2 : wtL (fourC.encL (fourC.term [[1]])) = 6 := h1
  rw [four_wt] at h2
  omega
theorem errA : fourC.accErr qA = 0 := Cnv.accErr_ok fourC_err acc_qA
theorem errB : fourC.accErr qB = 13 := Cnv.accErr_no fourC_err nacc_qB
end Go.Cw
