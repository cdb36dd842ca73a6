/-
  Plain facts.
-/
import Derived.Test.YtaipghchkamajaaPlainVd
import Derived.Test.YtaipghchkamajaaPlainG
set_option linter.unusedVariables false
set_option linter.unusedSimpArgs false
set_option linter.unusedSectionVars false
namespace Go.Cw
noncomputable def nodErr (n m but : Int) (l : List Int) : Int := if (l.length : Int) ≠ m then 3 else lstErr n but l
open Classical in
noncomputable def repErr (r : Rgn) (x : Int) (hs ss : List Int) : Int :=
  if rgErr r ≠ 0 then rgErr r else if x < 0 ∨ (r.Points.length : Int) ≤ x then 6 else if nodErr r.Points.length r.D x hs ≠ 0 then nodErr r.Points.length r.D x hs else lenErr r.F ss r.D
noncomputable def repZ (r : Rgn) (hs ss : List Int) : List Int := solV r.F ⟨r.D, vdm r.F (pickL r.Points hs) r.D⟩ ss
noncomputable def repU (r : Rgn) (x : Int) (hs ss : List Int) : List Int :=
  if r.Kind = 0 then repZ r hs ss else addTo r.F ((repZ r hs ss).take (rgA r).toNat) (powF r.F (ix 0 r.Points x) (rgA r)) ((repZ r hs ss).drop (rgA r).toNat)
open Classical in
noncomputable def repV (r : Rgn) (x : Int) (hs ss : List Int) : List Int := if repErr r x hs ss = 0 then repU r x hs ss else []
theorem nodErr_zero {n m but : Int} {l : List Int} (h : nodErr n m but l = 0) : (l.length : Int) = m ∧ (∀ i ∈ l, 0 ≤ i ∧ i < n ∧ i ≠ but) ∧ l.Nodup := by
  unfold nodErr lstErr at h
  split at h
  · cases h
  · rename_i h1
    split at h
    · cases h
    · rename_i h2
      split at h
      · rename_i h3
        refine ⟨Classical.not_not.1 h1, fun i hi => Classical.byContradiction fun hn => h2 ⟨i, hi, ?_⟩, h3⟩
        omega
      · cases h
theorem pick_nodup {l : List Int} (hl : l.Nodup) : ∀ {hs : List Int}, (∀ i ∈ hs, 0 ≤ i ∧ i < l.length) → hs.Nodup → (pickL l hs).Nodup
  | [], _, _ => List.nodup_nil
  | a :: hs, h, hn => by
    rw [List.nodup_cons] at hn
    show (ix 0 l a :: pickL l hs).Nodup
    rw [List.nodup_cons]
    refine ⟨fun hm => ?_, pick_nodup hl (fun i hi => h i (List.mem_cons_of_mem _ hi)) hn.2⟩
    obtain ⟨b, hb, e⟩ := List.mem_map.1 hm
    have ha := h a (by simp)
    have hb2 := h b (List.mem_cons_of_mem _ hb)
    have e1 := ix_get 0 l a ha.1 ha.2
    have e2 := ix_get 0 l b hb2.1 hb2.2
    have : a.toNat = b.toNat := by
      have h1 : a.toNat < l.length := by omega
      have h2 : b.toNat < l.length := by omega
      rw [List.getElem?_eq_getElem h1] at e1
      rw [List.getElem?_eq_getElem h2] at e2
      have e3 : l[a.toNat] = l[b.toNat] := by
        have x1 := Option.some.inj e1
        have x2 := Option.some.inj e2
        rw [x1, x2]; exact e.symm
      rcases Nat.lt_trichotomy a.toNat b.toNat with hlt | heq | hgt
      · exact absurd e3 (List.pairwise_iff_getElem.1 hl _ _ h1 h2 hlt)
      · exact heq
      · exact absurd e3.symm (List.pairwise_iff_getElem.1 hl _ _ h2 h1 hgt)
    have : a = b := by omega
    rw [this] at hn
    exact hn.1 hb
theorem solTo_rng {f : Fld} (hS : Shape f) {w : Nat} {E : El} (hg : good f w E.X) (cols : Int) : ∀ k : Nat, k ≤ E.X.length → ¬ outF f (solTo E cols k)
  | 0, _ => notOut_zero hS _
  | k + 1, hk => by
    have r := good_ixlt hS hg (i := (k : Int)) (by omega) (by omega) cols
    exact notOut_set (solTo_rng hS hg cols k (by omega)) r.1 r.2 _
structure RepF (r : Rgn) (x : Int) (hs ss : List Int) : Prop where
  fld : FOk r.F
  d : 1 ≤ r.D ∧ r.D ≤ 63
  hl : (hs.length : Int) = r.D
  hi : ∀ i ∈ hs, 0 ≤ i ∧ i < r.Points.length
  sol : solE r.F ⟨r.D, vdm r.F (pickL r.Points hs) r.D⟩ ss = 0
  zl : ((repZ r hs ss).length : Int) = r.D
  zr : ¬ outF r.F (repZ r hs ss)
  k : r.Kind ≠ 0 → rgA r = r.K - 1 ∧ r.D = 2 * rgA r ∧ 1 ≤ rgA r
  k0 : r.Kind = 0 ∨ r.Kind = 1
theorem rep_facts {r : Rgn} {x : Int} {hs ss : List Int} (h1 : rgErr r = 0) (h2 : nodErr r.Points.length r.D x hs = 0) (h3 : lenErr r.F ss r.D = 0) : RepF r x hs ss := by
  have R := rgErr_zero.1 h1
  have hF := R.fld
  have hS := hF.1
  have hb := hS.bd
  obtain ⟨a1, a2, a3⟩ := nodErr_zero h2
  have hA := rgA_le R
  have hrng := R.rng
  have hlen := R.len
  have hpx : ∀ y ∈ r.Points, 0 ≤ y ∧ y < r.F.q := fun y hy => outF_no R.elt hy
  have hpq : (r.Points.length : Int) ≤ r.F.q := by
    have := nodup_lt_length r.F.q.toNat r.Points R.nodup (fun y hy => by have := hpx y hy; omega)
    omega
  have hi : ∀ i ∈ hs, 0 ≤ i ∧ i < r.Points.length := fun i hi => ⟨(a2 i hi).1, (a2 i hi).2.1⟩
  have hx : ∀ y ∈ pickL r.Points hs, 0 ≤ y ∧ y < r.F.q := fun y hy => by
    obtain ⟨i, h4, rfl⟩ := List.mem_map.1 hy
    exact hpx _ (ix_mem 0 r.Points (hi i h4).1 (hi i h4).2)
  have hpl : (pickL r.Points hs).length = hs.length := by simp [pickL]
  have hd1 : r.D ≤ (r.Points.length : Int) - 1 := by unfold rgBad at hrng; omega
  have hsl := lenErr_len h3
  have hso : ¬ outF r.F ss := by
    unfold lenErr at h3
    rw [if_neg (by omega)] at h3
    exact entErr_zero.1 h3
  have sol := vdm_sol hF (xs := pickL r.Points hs) (b := ss) (n := r.D) hx (pick_nodup R.nodup hi a3) (by omega) (by omega) (by omega) hsl hso
  have hm := vdm_err hF (xs := pickL r.Points hs) (n := r.D) (by omega) (by omega) (by omega)
  have hz : repZ r hs ss = solTo (solX r.F ⟨r.D, vdm r.F (pickL r.Points hs) r.D⟩ ss) r.D (solX r.F ⟨r.D, vdm r.F (pickL r.Points hs) r.D⟩ ss).piv.length := solV_ok sol
  have hg := good_elim hS (Y := []) (aug_good hS (vdm_good hF (pickL r.Points hs) r.D) hso) r.D.toNat
  have hp := piv_le r.F (augL (vdm r.F (pickL r.Points hs) r.D) ss) [] r.D.toNat
  have hle := (length_elim r.F (augL (vdm r.F (pickL r.Points hs) r.D) ss) [] r.D.toNat).1
  refine ⟨hF, ⟨hA.1, hA.2.1⟩, a1, hi, sol, by rw [hz, length_solTo]; omega, by rw [hz]; exact solTo_rng hS hg r.D _ (by show (elim r.F (augL (vdm r.F (pickL r.Points hs) r.D) ss) [] r.D.toNat).piv.length ≤ (elim r.F (augL (vdm r.F (pickL r.Points hs) r.D) ss) [] r.D.toNat).X.length; omega), ?_, by unfold rgBad at hrng; omega⟩
  intro hk
  unfold rgBad at hrng
  unfold rgA
  rw [if_neg hk]
  omega
/-- What the program adds up. -/
def repW (f : Fld) (W z : List Int) : List Int := mapR (fun i => addF f (ix 0 W i) (ix 0 z i)) W.length
@[simp] theorem length_repW (f : Fld) (W z : List Int) : (repW f W z).length = W.length := by unfold repW; rw [length_mapR]; omega
theorem ix_repW (f : Fld) (W z : List Int) {i : Int} (h0 : 0 ≤ i) (h1 : i < W.length) : ix 0 (repW f W z) i = addF f (ix 0 W i) (ix 0 z i) := by unfold repW; rw [ix_mapR 0 _ h0 h1]
theorem rep_eq {f : Fld} (h : FOk f) {z : List Int} {a : Nat} (x : Int) (hl : z.length = 2 * a) (hz : ¬ outF f z) : repW f (scaleF f x (z.drop a)) z = addTo f (z.take a) x (z.drop a) := by
  have hd : (z.drop a).length = a := by rw [List.length_drop]; omega
  have ht : (z.take a).length = a := by rw [List.length_take]; omega
  have hw : (scaleF f x (z.drop a)).length = a := by rw [length_scaleF]; exact hd
  refine ext_ix 0 (by rw [length_repW, length_addTo]; omega) fun i i0 i1 => ?_
  rw [length_repW, hw] at i1
  rw [ix_repW _ _ _ i0 (by omega), ix_scaleF f _ _ i0 (by omega), ix_addTo f _ _ _ i0 (by omega), show ix 0 (z.take a) i = ix 0 z i by simp only [ix, List.getD]; rw [List.getElem?_take, if_pos (by omega)]]
  have r1 := ix_ok h.1 hz i
  have r2 := h.1.addF_lt (mulF f x (ix 0 (z.drop a) i)) (ix 0 z i)
  have r3 := h.1.addF_lt (ix 0 z i) (mulF f x (ix 0 (z.drop a) i))
  split
  · rename_i e
    refine ke_inj h r2.1 r2.2 r1.1 r1.2 ?_
    rw [ke_add, ke_mul, e, ke_zero, Fi.mul_zero, Fi.zero_add]
  · refine ke_inj h r2.1 r2.2 r3.1 r3.2 ?_
    rw [ke_add, ke_add, Fi.add_comm]
theorem repErr_1 {r : Rgn} {x : Int} {hs ss : List Int} (h : rgErr r ≠ 0) : repErr r x hs ss = rgErr r := if_pos h
theorem repErr_6 {r : Rgn} {x : Int} {hs ss : List Int} (h : rgErr r = 0) (h2 : x < 0 ∨ (r.Points.length : Int) ≤ x) : repErr r x hs ss = 6 := by unfold repErr; rw [if_neg (fun hn => hn h), if_pos h2]
theorem repErr_n {r : Rgn} {x : Int} {hs ss : List Int} (h : rgErr r = 0) (h2 : ¬ (x < 0 ∨ (r.Points.length : Int) ≤ x)) (h3 : nodErr r.Points.length r.D x hs ≠ 0) : repErr r x hs ss = nodErr r.Points.length r.D x hs := by unfold repErr; rw [if_neg (fun hn => hn h), if_neg h2, if_pos h3]
theorem repErr_l {r : Rgn} {x : Int} {hs ss : List Int} (h : rgErr r = 0) (h2 : ¬ (x < 0 ∨ (r.Points.length : Int) ≤ x)) (h3 : nodErr r.Points.length r.D x hs = 0) : repErr r x hs ss = lenErr r.F ss r.D := by unfold repErr; rw [if_neg (fun hn => hn h), if_neg h2, if_neg (fun hn => hn h3)]
theorem repErr_zero {r : Rgn} {x : Int} {hs ss : List Int} (h : repErr r x hs ss = 0) : rgErr r = 0 ∧ ¬ (x < 0 ∨ (r.Points.length : Int) ≤ x) ∧ nodErr r.Points.length r.D x hs = 0 ∧ lenErr r.F ss r.D = 0 := by
  unfold repErr at h
  split at h
  · rename_i h1; exact absurd h h1
  · rename_i h1
    split at h
    · cases h
    · rename_i h2
      split at h
      · rename_i h3; exact absurd h h3
      · rename_i h3; exact ⟨Classical.not_not.1 h1, h2, Classical.not_not.1 h3, h⟩
theorem repV_no {r : Rgn} {x : Int} {hs ss : List Int} (h : repErr r x hs ss ≠ 0) : repV r x hs ss = [] := if_neg h
theorem repV_ok {r : Rgn} {x : Int} {hs ss : List Int} (h : repErr r x hs ss = 0) : repV r x hs ss = repU r x hs ss := if_pos h
theorem repU_0 {r : Rgn} {x : Int} {hs ss : List Int} (h : r.Kind = 0) : repU r x hs ss = repZ r hs ss := if_pos h
theorem repU_1 {r : Rgn} {x : Int} {hs ss : List Int} (h : r.Kind ≠ 0) : repU r x hs ss = addTo r.F ((repZ r hs ss).take (rgA r).toNat) (powF r.F (ix 0 r.Points x) (rgA r)) ((repZ r hs ss).drop (rgA r).toNat) := if_neg h
end Go.Cw
namespace Go.Cw
theorem vdm_succ {r : Rgn} {hs : List Int} {n i : Int} (h0 : 0 ≤ i) (h1 : i < hs.length) : (vdm r.F (pickL r.Points hs) n).take (i + 1).toNat = (vdm r.F (pickL r.Points hs) n).take i.toNat ++ [powsF r.F (ix 0 r.Points (ix 0 hs i)) n] := by
  have hl : (pickL r.Points hs).length = hs.length := by simp [pickL]
  rw [take_succ_ix [] (vdm r.F (pickL r.Points hs) n) h0 (by rw [length_vdm]; omega)]
  congr 2
  unfold vdm
  rw [ix_map _ (pickL r.Points hs) 0 [] h0 (by omega), ix_pickL h0 h1]
end Go.Cw

