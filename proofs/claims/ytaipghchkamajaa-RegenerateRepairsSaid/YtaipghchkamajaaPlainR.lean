/-
  Plain facts.
-/
import Derived.Test.YtaipghchkamajaaPlainF1
set_option linter.unusedVariables false
set_option linter.unusedSimpArgs false
set_option linter.unusedSectionVars false
namespace Go.Cw
structure Rgn where
  F : Fld
  Kind : Int
  K : Int
  D : Int
  Points : List Int
def rgBad (r : Rgn) : Prop := (r.Kind ≠ 0 ∧ r.Kind ≠ 1) ∨ r.D < 1 ∨ (r.Points.length : Int) - 1 < r.D ∨ r.K < 1 ∨ r.D < r.K ∨ (r.Kind = 1 ∧ r.D ≠ 2 * r.K - 2)
instance (r : Rgn) : Decidable (rgBad r) := by unfold rgBad; infer_instance
def outF (f : Fld) (l : List Int) : Prop := ∃ x ∈ l, ¬ (0 ≤ x ∧ x < f.q)
instance (f : Fld) (l : List Int) : Decidable (outF f l) := by unfold outF; infer_instance
def entErr (f : Fld) (l : List Int) : Int := if outF f l then 2 else 0
def rgPow (r : Rgn) (x : Int) : Int := powF r.F x (r.K - 1)
open Classical in
noncomputable def rgErr (r : Rgn) : Int :=
  if ¬ FOk r.F then 1 else if (r.Points.length : Int) < 2 ∨ 64 < (r.Points.length : Int) then 4 else if rgBad r then 6 else if outF r.F r.Points then 2 else if ¬ r.Points.Nodup then 18
  else if r.Kind = 1 ∧ ¬ (r.Points.map (rgPow r)).Nodup then 5 else 0
structure RgOk (r : Rgn) : Prop where
  fld : FOk r.F
  len : 2 ≤ (r.Points.length : Int) ∧ (r.Points.length : Int) ≤ 64
  rng : ¬ rgBad r
  elt : ¬ outF r.F r.Points
  nodup : r.Points.Nodup
  pows : r.Kind = 1 → (r.Points.map (rgPow r)).Nodup
theorem rgErr_zero {r : Rgn} : rgErr r = 0 ↔ RgOk r := by
  unfold rgErr
  constructor
  · intro h
    split at h; · cases h
    rename_i h1
    split at h; · cases h
    rename_i h2
    split at h; · cases h
    rename_i h3
    split at h; · cases h
    rename_i h4
    split at h; · cases h
    rename_i h5
    split at h; · cases h
    rename_i h6
    exact ⟨Classical.not_not.1 h1, by omega, h3, h4, Classical.not_not.1 h5, fun hk => by by_cases hn : (r.Points.map (rgPow r)).Nodup; exact hn; exact absurd ⟨hk, hn⟩ h6⟩
  · rintro ⟨h1, h2, h3, h4, h5, h6⟩
    rw [if_neg (fun h => h h1), if_neg (by omega), if_neg h3, if_neg h4, if_neg (fun h => h h5), if_neg (fun h => h.2 (h6 h.1))]
theorem rgErr_1 {r : Rgn} (h : ¬ FOk r.F) : rgErr r = 1 := by unfold rgErr; rw [if_pos h]
theorem rgErr_4 {r : Rgn} (h : FOk r.F) (h2 : (r.Points.length : Int) < 2 ∨ 64 < (r.Points.length : Int)) : rgErr r = 4 := by unfold rgErr; rw [if_neg (fun g => g h), if_pos h2]
theorem rgErr_6 {r : Rgn} (h : FOk r.F) (h2 : ¬ ((r.Points.length : Int) < 2 ∨ 64 < (r.Points.length : Int))) (h3 : rgBad r) : rgErr r = 6 := by unfold rgErr; rw [if_neg (fun g => g h), if_neg h2, if_pos h3]
theorem rgErr_2 {r : Rgn} (h : FOk r.F) (h2 : ¬ ((r.Points.length : Int) < 2 ∨ 64 < (r.Points.length : Int))) (h3 : ¬ rgBad r) (h4 : outF r.F r.Points) : rgErr r = 2 := by unfold rgErr; rw [if_neg (fun g => g h), if_neg h2, if_neg h3, if_pos h4]
theorem rgErr_18 {r : Rgn} (h : FOk r.F) (h2 : ¬ ((r.Points.length : Int) < 2 ∨ 64 < (r.Points.length : Int))) (h3 : ¬ rgBad r) (h4 : ¬ outF r.F r.Points) (h5 : ¬ r.Points.Nodup) : rgErr r = 18 := by
  unfold rgErr; rw [if_neg (fun g => g h), if_neg h2, if_neg h3, if_neg h4, if_pos h5]
theorem rgErr_5 {r : Rgn} (h : FOk r.F) (h2 : ¬ ((r.Points.length : Int) < 2 ∨ 64 < (r.Points.length : Int))) (h3 : ¬ rgBad r) (h4 : ¬ outF r.F r.Points) (h5 : r.Points.Nodup) (h6 : r.Kind = 1) (h7 : ¬ (r.Points.map (rgPow r)).Nodup) : rgErr r = 5 := by
  unfold rgErr; rw [if_neg (fun g => g h), if_neg h2, if_neg h3, if_neg h4, if_neg (fun g => g h5), if_pos ⟨h6, h7⟩]
theorem outF_at {f : Fld} {l : List Int} {i : Int} (h0 : 0 ≤ i) (h1 : i < l.length) (h : ¬ (0 ≤ ix 0 l i ∧ ix 0 l i < f.q)) : outF f l := ⟨_, ix_mem 0 l h0 h1, h⟩
theorem outF_succ {f : Fld} {l : List Int} {i : Int} (h0 : 0 ≤ i) (h1 : i < l.length) (h : ¬ outF f (l.take i.toNat)) (h2 : 0 ≤ ix 0 l i ∧ ix 0 l i < f.q) : ¬ outF f (l.take (i + 1).toNat) := by
  rw [take_succ_ix 0 l h0 h1]
  rintro ⟨x, hx, hb⟩
  rcases List.mem_append.1 hx with hx | hx
  · exact h ⟨x, hx, hb⟩
  · rw [List.mem_singleton] at hx; rw [hx] at hb; exact hb h2
theorem outF_no {f : Fld} {l : List Int} (h : ¬ outF f l) {x : Int} (hx : x ∈ l) : 0 ≤ x ∧ x < f.q := by
  by_cases h2 : 0 ≤ x ∧ x < f.q
  · exact h2
  · exact absurd ⟨x, hx, h2⟩ h
theorem entErr_zero {f : Fld} {l : List Int} : entErr f l = 0 ↔ ¬ outF f l := by unfold entErr; split <;> simp_all
def rgB (r : Rgn) : Int := if r.Kind = 0 then r.K * r.D - (r.K * (r.K - 1)) / 2 else r.K * (r.K - 1)
def rgA (r : Rgn) : Int := if r.Kind = 0 then r.D else r.K - 1
theorem ix_map_pow {r : Rgn} {i : Int} (h0 : 0 ≤ i) (h1 : i < r.Points.length) : ix 0 (r.Points.map (rgPow r)) i = rgPow r (ix 0 r.Points i) := by
  have : i.toNat < r.Points.length := by omega
  simp [ix, List.getD, this]
end Go.Cw

