/-
  Plain facts.
-/
import Derived.Test.YtaipghchkamajaaPlainDr
import Derived.Test.YtaipghchkamajaaPlainH
import Derived.Test.YtaipghchkamajaaPlainKn
set_option linter.unusedVariables false
set_option linter.unusedSimpArgs false
set_option linter.unusedSectionVars false
namespace Go.Cw
namespace La
variable {K : Type} [Fi K]
theorem sm_front (g : Nat → K) : ∀ n : Nat, sm g (n + 1) = g 0 + sm (fun j => g (j + 1)) n
  | 0 => by show (0 : K) + g 0 = g 0 + 0; rw [Fi.zero_add, Fi.add_zero]
  | n + 1 => by
    show sm g (n + 1) + g (n + 1) = g 0 + (sm (fun j => g (j + 1)) n + g (n + 1))
    rw [sm_front g n, Fi.add_assoc]
theorem ev_sm (x : K) : ∀ l : List K, Fi.ev l x = sm (fun j => l.getD j 0 * Fi.pow x j) l.length
  | [] => rfl
  | c :: l => by
    show c + x * Fi.ev l x = sm _ (l.length + 1)
    rw [sm_front, ev_sm x l, ← sm_mul]
    have e0 : (c :: l).getD 0 0 * Fi.pow x 0 = c := by show c * 1 = c; exact Fi.mul_one c
    rw [e0]
    congr 1
    refine sm_congr fun j _ => ?_
    show x * (l.getD j 0 * Fi.pow x j) = l.getD j 0 * (Fi.pow x j * x)
    rw [Fi.mul_comm x, Fi.mul_assoc]
end La
section
variable {f : Fld} (h : FOk f)
theorem ke_powc {x : Int} (x0 : 0 ≤ x) (x1 : x < f.q) (k : Nat) : ke h (f.R.powc x k) = Fi.pow (ke h x) k := by
  have hc := h.1.card
  have hl := Rg.powc_lt f.R x k
  apply Rg.Kt.ext
  show f.R.elt (inF f (f.R.powc x k)) = _
  rw [Rg.pow_v, inF_id hl.1 (by omega)]
  have e : (ke h x).code = x := by
    show f.R.num (f.R.elt (inF f x)) = x
    rw [inF_id x0 x1]
    exact Rg.num_elt f.R x0 (show x < f.R.card by omega)
  rw [e]
theorem ke_powF {x : Int} (x0 : 0 ≤ x) (x1 : x < f.q) {j : Int} (j0 : 0 ≤ j) (j1 : j < f.q - 1) : ke h (powF f x j) = Fi.pow (ke h x) j.toNat := by
  unfold powF
  by_cases e : j = 0
  · rw [if_pos e, e]; exact ke_one h
  · rw [if_neg e, inF_id x0 x1]
    by_cases e2 : x = 0
    · rw [if_pos e2, e2, ke_zero, show j.toNat = (j.toNat - 1) + 1 by omega]
      show (0 : KF f h) = Fi.pow 0 _ * 0
      rw [Fi.mul_zero]
    · rw [if_neg e2]
      have : powN f j = j := by
        unfold powN
        rw [Int.tmod_eq_emod_of_nonneg j0, Int.emod_eq_of_lt j0 j1, Int.add_emod_right, Int.emod_eq_of_lt j0 j1]
      rw [this, ke_powc h x0 x1]
include h in
theorem powF_rng (x j : Int) : 0 ≤ powF f x j ∧ powF f x j < f.q := by
  have hb := h.1.bd
  have hc := h.1.card
  unfold powF
  split
  · exact ⟨by omega, by omega⟩
  · split
    · exact ⟨by omega, by omega⟩
    · have := Rg.powc_lt f.R (inF f x) (powN f j).toNat
      exact ⟨this.1, by omega⟩
/-- The rows of powers. -/
def vdm (f : Fld) (xs : List Int) (n : Int) : List (List Int) := xs.map fun x => powsF f x n
@[simp] theorem length_vdm (f : Fld) (xs : List Int) (n : Int) : (vdm f xs n).length = xs.length := by simp [vdm]
include h in
theorem vdm_good (xs : List Int) (n : Int) : good f n.toNat (vdm f xs n) := fun l hl => by
  obtain ⟨x, _, rfl⟩ := List.mem_map.1 hl
  exact ⟨length_mapR _ _, outF_mapR fun i _ _ => powF_rng h x i⟩
include h in
theorem vdm_err {xs : List Int} {n : Int} (n0 : 0 ≤ n) (n1 : n ≤ 256) (hl : xs.length ≤ 256) : mErr f ⟨n, vdm f xs n⟩ = 0 :=
  mErr_zero.2 ⟨h, good_mat n0 n1 (by show (vdm f xs n).length ≤ 256; rw [length_vdm]; exact hl) (vdm_good h xs n)⟩
theorem ke_map_nodup {xs : List Int} (hx : ∀ x ∈ xs, 0 ≤ x ∧ x < f.q) (hn : xs.Nodup) : (xs.map (ke h)).Nodup := by
  induction xs with
  | nil => exact List.nodup_nil
  | cons a xs ih =>
    rw [List.nodup_cons] at hn
    rw [List.map_cons, List.nodup_cons]
    refine ⟨fun hm => ?_, ih (fun x hx' => hx x (List.mem_cons_of_mem _ hx')) hn.2⟩
    obtain ⟨b, hb, e⟩ := List.mem_map.1 hm
    have r1 := hx a (by simp)
    have r2 := hx b (List.mem_cons_of_mem _ hb)
    have := ke_inj h r2.1 r2.2 r1.1 r1.2 e
    rw [this] at hb
    exact hn.1 hb
include h in
/-- Powers of distinct elements: full rank. -/
theorem vdm_rank {xs : List Int} {n : Nat} (hx : ∀ x ∈ xs, 0 ≤ x ∧ x < f.q) (hn : xs.Nodup) (hl : xs.length = n) (hq : (n : Int) ≤ f.q - 1) : (elim f (vdm f xs n) [] n).piv.length = n := by
  have hg : good f n (vdm f xs n) := by have := vdm_good h xs (n : Int); rwa [show ((n : Int)).toNat = n by omega] at this
  have hd := null_dim h hg
  refine Classical.byContradiction fun hne => ?_
  have h0 : 0 < (nullR f (vdm f xs n) n).length := by omega
  have hk := kerX_good h.1 (vdm f xs n) n
  have hgn : good f n (nullR f (vdm f xs n) n) := canR_good h.1 hk n
  have hlc := length_canR f (kerX f (vdm f xs n) n) n
  have hpl := piv_le f (kerX f (vdm f xs n) n) [] n
  have hr := elim_rref h hk (wide_nil 0) (.inl rfl) n
  have h0' : 0 < (elim f (kerX f (vdm f xs n) n) [] n).piv.length := by rw [← hlc]; exact h0
  have hone := hr.one 0 h0'
  let x := ix [] (nullR f (vdm f xs n) n) 0
  have hx0 : x ∈ nullR f (vdm f xs n) n := ix_mem' (by omega) (by omega)
  have hxl := (hgn x hx0).1
  let L := x.map (ke h)
  have hLl : L.length = n := by show (x.map (ke h)).length = n; rw [List.length_map]; exact hxl
  have hget : ∀ j : Nat, L.getD j 0 = kv h x j := fun j => by
    show (x.map (ke h)).getD j 0 = ke h (x.getD j 0)
    by_cases hj : j < x.length
    · exact getD_map (ke h) x 0 0 hj
    · simp only [List.getD]
      rw [List.getElem?_eq_none (by rw [List.length_map]; omega), List.getElem?_eq_none (by omega)]
      exact (ke_zero h).symm
  have hnz : ∃ c ∈ L, c ≠ 0 := by
    have e : kv h x (pvN (elim f (kerX f (vdm f xs n) n) [] n).piv 0) = 1 := by
      rw [← hone]
      show kv h (ix [] ((elim f (kerX f (vdm f xs n) n) [] n).X.take (elim f (kerX f (vdm f xs n) n) [] n).piv.length) 0) _ = kv h ((elim f (kerX f (vdm f xs n) n) [] n).X.getD 0 []) _
      congr 1
      simp only [ix, List.getD]
      rw [List.getElem?_take, if_pos (by omega)]; rfl
    generalize pvN (elim f (kerX f (vdm f xs n) n) [] n).piv 0 = q at e
    rw [← hget] at e
    by_cases hq2 : q < L.length
    · refine ⟨L[q], List.getElem_mem hq2, ?_⟩
      simp only [List.getD] at e
      rw [List.getElem?_eq_getElem hq2] at e
      intro e2
      rw [e2] at e
      exact Fi.one_ne e.symm
    · simp only [List.getD] at e
      rw [List.getElem?_eq_none (by omega)] at e
      exact absurd e.symm Fi.one_ne
  have hroots : ∀ r ∈ xs.map (ke h), Fi.ev L r = 0 := fun r hr => by
    obtain ⟨y, hy, rfl⟩ := List.mem_map.1 hr
    have hrow : powsF f y n ∈ vdm f xs n := List.mem_map.2 ⟨y, hy, rfl⟩
    have ho := null_orth h hg hx0 hrow
    have hk2 := ke_dot h x (powsF f y n) (n := n) (by rw [hxl]; exact Nat.le_refl _)
    rw [ho, ke_zero] at hk2
    refine Eq.trans ?_ hk2.symm
    rw [La.ev_sm, hLl]
    refine La.sm_congr fun j hj => ?_
    rw [hget j]
    congr 1
    show Fi.pow (ke h y) j = kv h (powsF f y n) j
    rw [kv_ix]
    unfold powsF
    rw [ix_mapR 0 _ (by omega) (by omega), ke_powF h (hx y hy).1 (hx y hy).2 (by omega) (by omega)]
    congr 1
  have := Fi.roots_lt L.length L (Nat.le_refl _) hnz (xs.map (ke h)) (ke_map_nodup h hx hn) hroots
  rw [List.length_map, hLl] at this
  omega
include h in
/-- A system of full rank has a solution. -/
theorem vdm_sol {xs b : List Int} {n : Int} (hx : ∀ x ∈ xs, 0 ≤ x ∧ x < f.q) (hn : xs.Nodup) (hl : (xs.length : Int) = n) (n1 : n ≤ 256) (hq : n ≤ f.q - 1) (hb : (b.length : Int) = n) (hbo : ¬ outF f b) : solE f ⟨n, vdm f xs n⟩ b = 0 := by
  have hm := vdm_err h (xs := xs) (n := n) (by omega) n1 (by omega)
  have en : n = ((xs.length : Nat) : Int) := hl.symm
  refine solE_ok (by rw [sErr_ok hm]; exact vecErr_zero.2 ⟨by show (b.length : Int) = (vdm f xs n).length; rw [length_vdm]; omega, hbo⟩) ?_
  rintro ⟨l, hl2, _⟩
  have hp : (elim f (augL (vdm f xs n) b) [] n.toNat).piv.length = xs.length := by
    rw [piv_aug h (vdm_good h xs n) hbo, en]
    rw [show ((xs.length : Nat) : Int).toNat = xs.length by omega]
    exact vdm_rank h hx hn rfl (by omega)
  have hX := (length_elim f (augL (vdm f xs n) b) [] n.toNat).1
  rw [length_augL, length_vdm] at hX
  have : (solX f ⟨n, vdm f xs n⟩ b).X.drop (solX f ⟨n, vdm f xs n⟩ b).piv.length = [] := by
    apply List.drop_eq_nil_of_le
    show (elim f (augL (vdm f xs n) b) [] n.toNat).X.length ≤ (elim f (augL (vdm f xs n) b) [] n.toNat).piv.length
    omega
  rw [this] at hl2
  cases hl2
end
end Go.Cw

