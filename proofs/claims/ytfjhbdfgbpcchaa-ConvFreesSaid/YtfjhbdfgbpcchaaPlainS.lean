/-
  Terminated messages; encoding is linear.
-/
import Derived.Test.YtfjhbdfgbpcchaaPlainP
import Derived.Test.YtfjhbdfgbpcchaaPlainQ
set_option linter.unusedVariables false
set_option linter.unusedSimpArgs false
set_option linter.unusedSectionVars false
namespace Go.Cw
namespace Cnv
variable {c : Cnv}
/-! ### Messages with the steps that terminate them -/
def zrow (c : Cnv) : List Int := List.replicate c.Gen.length 0
def termTo (c : Cnv) (us : List (List Int)) (d : Int) : List (List Int) := us ++ List.replicate d.toNat c.zrow
def term (c : Cnv) (us : List (List Int)) : List (List Int) := c.termTo us c.mem
theorem termTo_succ (us : List (List Int)) {d : Int} (h : 0 ≤ d) : c.termTo us (d + 1) = c.termTo us d ++ [c.zrow] := by
  unfold termTo
  rw [show (d + 1).toNat = d.toNat + 1 by omega, List.replicate_succ', List.append_assoc]
theorem length_termTo (us : List (List Int)) (d : Int) : (c.termTo us d).length = us.length + d.toNat := by unfold termTo; simp
theorem maxD_ge (c : Cnv) : ∀ (n : Nat) (i : Int), 0 ≤ i → i < n → c.deg i ≤ c.maxD n
  | 0, i, h0, h1 => by omega
  | n + 1, i, h0, h1 => by
    simp only [maxD]
    by_cases h : i = n
    · rw [h]; omega
    · have := maxD_ge c n i h0 (by omega); omega
theorem deg_le_mem {i : Int} (h0 : 0 ≤ i) (h1 : i < c.Gen.length) : c.deg i ≤ c.mem := maxD_ge c _ i h0 h1
theorem Few.mem_le (h : c.Few) : c.mem ≤ 40 := by
  have key : ∀ n : Nat, n ≤ c.Gen.length → c.maxD n ≤ 40 := by
    intro n
    induction n with
    | zero => intro _; simp [maxD]
    | succ n ih =>
      intro hn
      have := ih (by omega)
      have := h.deg_le n (by omega) (by unfold k; omega)
      simp only [maxD]; omega
  exact key _ (Nat.le_refl _)
theorem zrow_good (hq : 2 ≤ c.F.q) : c.GoodIn c.zrow := by
  refine ⟨by unfold zrow k; simp, ?_⟩
  rintro ⟨x, hx, hb⟩
  have := List.eq_of_mem_replicate hx
  omega
theorem GoodU.term {us : List (List Int)} (hq : 2 ≤ c.F.q) (h : c.GoodU us) (d : Int) : c.GoodU (c.termTo us d) := by
  intro u hu
  rcases List.mem_append.1 hu with hu | hu
  · exact h u hu
  · rw [List.eq_of_mem_replicate hu]; exact zrow_good hq
theorem ix_encL (us : List (List Int)) {t : Int} (h0 : 0 ≤ t) (h1 : t < us.length) : ix [] (c.encL us) t = c.encO us t := ix_mapR [] _ h0 h1
theorem length_encL (us : List (List Int)) : (c.encL us).length = us.length := by unfold encL; rw [length_mapR]; omega
theorem nxt_zero {s : Int} {inn : List Int} : ∀ n : Nat, (∀ i d : Int, 0 ≤ i → i < n → 0 ≤ d → d < c.deg i → ix 0 (c.line s inn i) d = 0) → c.nxt s inn n = 0
  | 0, _ => rfl
  | n + 1, h => by
    have key : ∀ m : Nat, (m : Int) ≤ c.deg n → c.nxE s inn n m = 0 := by
      intro m
      induction m with
      | zero => intro _; rfl
      | succ m ih =>
        intro hm
        rw [nxE, ih (by omega), h n m (by omega) (by omega) (by omega) (by omega)]; simp
    rw [nxt, nxt_zero n (fun i d i0 i1 d0 d1 => h i d i0 (by omega) d0 d1), key _ (by have := c.deg_nonneg n; omega)]; rfl
theorem ix_term_tail (us : List (List Int)) {d t i : Int} (h0 : us.length ≤ t) (h1 : t < us.length + d.toNat) : ix 0 (ix [] (c.termTo us d) t) i = 0 := by
  have : ix [] (c.termTo us d) t = c.zrow := by
    unfold ix termTo
    simp only [List.getD]
    rw [List.getElem?_append_right (by omega), List.getElem?_replicate, if_pos (by omega)]; rfl
  rw [this]
  unfold zrow; exact ix_replicate0 _ _
/-- Behind the steps that terminate a message the state is 0. -/
theorem encS_term {us : List (List Int)} (hq : 2 ≤ c.F.q) (h : c.GoodU us) : c.encS (c.term us) (c.term us).length = 0 := by
  have hg := GoodU.term hq h c.mem
  have hl : (c.term us).length = us.length + c.mem.toNat := length_termTo us c.mem
  cases hT : (c.term us).length with
  | zero => rfl
  | succ T =>
    rw [encS]
    refine nxt_zero _ fun i d i0 i1 d0 d1 => ?_
    have h2 := line_encS hq hg i0 i1 (t := (T : Int)) (by omega) (by unfold term at hT; omega) d0 (by omega)
    rw [show ((T : Int)).toNat = T by omega] at h2
    have h3 := deg_le_mem i0 i1
    show ix 0 (c.line (c.encS (c.termTo us c.mem) T) (ix [] (c.termTo us c.mem) T) i) d = 0
    rw [h2]
    unfold hist
    split
    · exact ix_term_tail us (by omega) (by omega)
    · rfl
/-! ### Encoding is linear -/
theorem inputs_in {us : List (List Int)} (hS : Shape c.F) (h : c.GoodU us) (t i : Int) : 0 ≤ ix 0 (ix [] us t) i ∧ ix 0 (ix [] us t) i < c.F.q := by
  by_cases g : t.toNat < us.length
  · have : ix [] us t ∈ us := by unfold ix; simp [List.getD, g]
    exact ix_ok hS (h _ this).2 i
  · have : ix [] us t = [] := by unfold ix; simp [List.getD]; rw [List.getElem?_eq_none (by omega)]; rfl
    rw [this]
    exact ix_ok hS (l := []) (by rintro ⟨x, hx, _⟩; cases hx) i
/-- Step by step. -/
def addU (f : Fld) (u : List (List Int)) (a : Int) (v : List (List Int)) : List (List Int) := mapR (fun t => addToL f (ix [] u t) a (ix [] v t)) u.length
theorem ix_addU (f : Fld) (u : List (List Int)) (a : Int) (v : List (List Int)) {t : Int} (h0 : 0 ≤ t) (h1 : t < u.length) : ix [] (addU f u a v) t = addToL f (ix [] u t) a (ix [] v t) := ix_mapR [] _ h0 h1
theorem length_addU (f : Fld) (u : List (List Int)) (a : Int) (v : List (List Int)) : (addU f u a v).length = u.length := by unfold addU; rw [length_mapR]; omega
theorem addU_good {u v : List (List Int)} (hS : Shape c.F) (a : Int) (hu : c.GoodU u) : c.GoodU (addU c.F u a v) := by
  intro x hx
  obtain ⟨j, hj1, hj2, rfl⟩ := mem_take_getD [] (addU c.F u a v) (addU c.F u a v).length x (by simpa using hx)
  rw [length_addU] at hj2
  rw [ix_addU c.F u a v (by omega) (by omega)]
  have hgu := hu.at (t := (j : Int)) (by omega) (by omega)
  exact ⟨by rw [length_addToL]; exact hgu.1, outF_mapR fun i i0 i1 => addTo1_lt hS (ix_ok hS hgu.2 i).1 (ix_ok hS hgu.2 i).2 _ _⟩
theorem ke_accF {f : Fld} (h : FOk f) {b b1 b2 a : Int} {g l l1 l2 : List Int} (hb : ke h b = ke h b1 + ke h a * ke h b2) : ∀ n : Nat, (∀ k : Nat, k < n → ke h (ix 0 l k) = ke h (ix 0 l1 k) + ke h a * ke h (ix 0 l2 k)) →
    ke h (accF f b g l n) = ke h (accF f b1 g l1 n) + ke h a * ke h (accF f b2 g l2 n)
  | 0, _ => hb
  | n + 1, hk => by
    have ih := ke_accF (g := g) h hb n (fun k hkn => hk k (by omega))
    simp only [accF]
    rw [ke_add, ke_add, ke_add, ke_mul, ke_mul, ke_mul, ih, hk n (by omega)]
    simp only [Fi.mul_add, Fi.add_assoc]
    ac_rfl
theorem ke_refTo {u v : List (List Int)} (h : FOk c.F) {a : Int} (hl : u.length = v.length) (hu : c.GoodU u) (hv : c.GoodU v) {t : Int} (t0 : 0 ≤ t) (t1 : t < u.length) (j : Int) : ∀ i : Nat, i ≤ c.Gen.length →
    ke h (c.refTo (addU c.F u a v) t j i) = ke h (c.refTo u t j i) + ke h a * ke h (c.refTo v t j i)
  | 0, _ => by simp only [refTo]; rw [ke_zero, Fi.mul_zero, Fi.add_zero]
  | i + 1, hi => by
    simp only [refTo]
    refine ke_accF h (ke_refTo h hl hu hv t0 t1 j i (by omega)) _ fun k hk => ?_
    have hk2 : (k : Int) ≤ t := by omega
    have hgu := hu.at (t := t - k) (by omega) (by omega)
    have hik := hgu.1
    have hkk : c.k = (c.Gen.length : Int) := rfl
    rw [ix_back _ (by omega) hk2, ix_back _ (by omega) hk2, ix_back _ (by omega) hk2, ix_addU _ _ _ _ (by omega) (by omega), ix_addToL _ _ _ _ (by omega) (by omega), ke_addTo1]
theorem refR_add {u v : List (List Int)} (h : FOk c.F) {a : Int} (hl : u.length = v.length) (hu : c.GoodU u) (hv : c.GoodU v) {t : Int} (t0 : 0 ≤ t) (t1 : t < u.length) :
    c.refR (addU c.F u a v) t = addToL c.F (c.refR u t) a (c.refR v t) := by
  have hn := c.nn_pos
  have hlr : ((c.refR u t).length : Int) = c.n := by unfold refR; rw [length_mapR]; omega
  unfold addToL
  rw [hlr]
  unfold refR
  refine mapR_congr fun j j0 j1 => ?_
  rw [ix_mapR 0 _ j0 j1, ix_mapR 0 _ j0 j1]
  have r1 := refTo_lt h.1 (addU c.F u a v) t j c.Gen.length
  have r2 := refTo_lt h.1 u t j c.Gen.length
  have r3 := addTo1_lt h.1 r2.1 r2.2 a (c.refTo v t j c.Gen.length)
  exact ke_inj h r1.1 r1.2 r3.1 r3.2 (by rw [ke_addTo1]; exact ke_refTo h hl hu hv t0 t1 j _ (Nat.le_refl _))
/-! ### A message behind a step of zeros -/
theorem line_zero (hq : 2 ≤ c.F.q) {i d : Int} (h0 : 0 ≤ i) (h1 : i < c.Gen.length) (d0 : 0 ≤ d) (d1 : d ≤ c.deg i) : ix 0 (c.line 0 c.zrow i) d = 0 := by
  by_cases hd : d = 0
  · subst hd
    rw [ix_line_zero]; unfold zrow; exact ix_replicate0 _ _
  · obtain ⟨g, rfl⟩ : ∃ g, d = g + 1 := ⟨d - 1, by omega⟩
    rw [dg_line hq (by omega) (by omega)]
    unfold dg; simp
theorem encS_cons (hq : 2 ≤ c.F.q) (us : List (List Int)) : ∀ t : Nat, c.encS (c.zrow :: us) (t + 1) = c.encS us t
  | 0 => by
    rw [encS, encS, encS]
    exact nxt_zero _ fun i d i0 i1 d0 d1 => line_zero hq i0 i1 d0 (by omega)
  | t + 1 => by
    rw [encS, encS_cons hq us t, encS]
    rfl
theorem ix_cons {α : Type} (d a : α) (l : List α) {i : Int} (h : 0 ≤ i) : ix d (a :: l) (i + 1) = ix d l i := by
  unfold ix; rw [show (i + 1).toNat = i.toNat + 1 by omega]; rfl
theorem encO_cons (hq : 2 ≤ c.F.q) (us : List (List Int)) {t : Int} (h : 0 ≤ t) : c.encO (c.zrow :: us) (t + 1) = c.encO us t := by
  unfold encO
  rw [show (t + 1).toNat = t.toNat + 1 by omega, encS_cons hq, ix_cons _ _ _ h]
theorem outL_zero (hS : Shape c.F) : c.outL 0 c.zrow = List.replicate c.n.toNat 0 := by
  have hq := hS.bd
  unfold outL
  rw [← mapR_const]
  refine mapR_congr fun j _ _ => ?_
  have key : ∀ i : Nat, i ≤ c.Gen.length → c.outTo 0 c.zrow j i = 0 := by
    intro i
    induction i with
    | zero => intro _; rfl
    | succ i ih =>
      intro hi
      rw [outTo, ih (by omega)]
      have k2 : ∀ m : Nat, (m : Int) ≤ c.deg i + 1 → accF c.F 0 (c.line 0 c.zrow i) (ix [] (ix [] c.Gen i) j) m = 0 := by
        intro m
        induction m with
        | zero => intro _; rfl
        | succ m ihm =>
          intro hm
          rw [accF, ihm (by omega), line_zero hq.2.2.2.2.2.1 (by omega) (by omega) (by omega) (by omega), mulF_0' hS, hS.addF_zero]
          exact inF_id (by omega) (by omega)
      exact k2 _ (by have := c.deg_nonneg i; omega)
  exact key _ (Nat.le_refl _)
/-- The outputs of a message behind a step of zeros. -/
theorem encO_zero (hS : Shape c.F) (us : List (List Int)) : c.encO (c.zrow :: us) 0 = List.replicate c.n.toNat 0 := by
  have h1 : c.encS (c.zrow :: us) (0 : Int).toNat = 0 := by rw [show (0 : Int).toNat = 0 from rfl, encS]
  have h2 : ix [] (c.zrow :: us) 0 = c.zrow := rfl
  unfold encO
  rw [h1, h2]
  exact outL_zero hS
theorem mapR_shift {α : Type} (f : Int → α) : ∀ n : Nat, mapR f ((n : Int) + 1) = f 0 :: mapR (fun t => f (t + 1)) n
  | 0 => by simp [mapR]
  | n + 1 => by
    have ih := mapR_shift f n
    rw [show ((n + 1 : Nat) : Int) + 1 = ((n : Int) + 1) + 1 by omega, mapR_succ f (show 0 ≤ (n : Int) + 1 by omega), ih, show ((n + 1 : Nat) : Int) = (n : Int) + 1 by omega, mapR_succ _ (show 0 ≤ (n : Int) by omega), List.cons_append]
theorem encL_cons (hS : Shape c.F) (us : List (List Int)) : c.encL (c.zrow :: us) = List.replicate c.n.toNat 0 :: c.encL us := by
  have hq := hS.bd
  unfold encL
  rw [List.length_cons, show ((us.length + 1 : Nat) : Int) = (us.length : Int) + 1 by omega, mapR_shift, encO_zero hS]
  congr 1
  exact mapR_congr fun t t0 _ => encO_cons hq.2.2.2.2.2.1 us t0
end Cnv
end Go.Cw
namespace Go.Cw
def fourC : Cnv := ⟨⟨2, 1, []⟩, [[[1, 0, 1], [1, 1, 1]]]⟩
theorem fok2 : FOk ⟨2, 1, []⟩ := fok_one ⟨by decide +kernel, by decide +kernel, by simp [modOk]⟩ rfl
theorem fourC_few : fourC.Few := by
  refine ⟨by decide +kernel, fun row hr => ?_⟩
  simp only [fourC, List.mem_singleton] at hr
  subst hr
  refine ⟨by decide, fun p hp => ?_⟩
  simp only [List.mem_cons, List.not_mem_nil, or_false] at hp
  rcases hp with rfl | rfl <;> decide
theorem fourC_ok : fourC.Ok := by
  refine ⟨fok2, ?_, by decide +kernel, ?_, ?_⟩
  · rintro (h | h | h | ⟨row, hr, h⟩)
    · exact absurd h (by decide +kernel)
    · exact absurd h (by decide +kernel)
    · exact absurd h (by decide +kernel)
    · simp only [fourC, List.mem_singleton] at hr
      subst hr
      exact h (by decide +kernel)
  · rintro ⟨row, hr, p, hp, x, hx, h⟩
    simp only [fourC, List.mem_singleton] at hr
    subst hr
    simp only [List.mem_cons, List.not_mem_nil, or_false] at hp
    have hq : fourC.F.q = 2 := by decide +kernel
    rw [hq] at h
    rcases hp with rfl | rfl <;> · simp at hx; omega
  · unfold Cnv.big
    decide +kernel
theorem fourC_in : fourC.GoodIn [1] := by
  refine ⟨by decide +kernel, ?_⟩
  rintro ⟨x, hx, h⟩
  have hq : fourC.F.q = 2 := by decide +kernel
  rw [hq] at h
  simp at hx; omega
theorem fourC_nx : fourC.nxErr 0 [1] = 0 := Cnv.nxErr_zero.2 ⟨fourC_ok, by decide +kernel, fourC_in⟩
theorem fourC_out : fourC.nxOut 0 [1] = [1, 1] := by
  have : fourC.outL 0 [1] = [1, 1] := by decide +kernel
  rw [← this]; exact if_pos fourC_nx
end Go.Cw
