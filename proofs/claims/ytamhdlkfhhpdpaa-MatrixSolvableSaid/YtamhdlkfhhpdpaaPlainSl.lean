/-
  Facts for the law MatrixSolvable.
-/
import Derived.Test.YtamhdlkfhhpdpaaPlainCa
set_option linter.unusedVariables false
set_option linter.unusedSimpArgs false
set_option linter.unusedSectionVars false
namespace Go.Cw
section
variable {f : Fld} (h : FOk f)
theorem ke_dot (a b : List Int) {n : Nat} (ha : a.length ≤ n) : ke h (dotF f a b) = La.sm (fun j => kv h a j * kv h b j) n := by
  have key : ∀ k, ke h (dotTo f a b k) = La.sm (fun j => kv h a j * kv h b j) k := by
    intro k
    induction k with
    | zero => exact ke_zero h
    | succ k ih =>
      show ke h (addF f (dotTo f a b k) (mulF f (ix 0 a k) (ix 0 b k))) = La.sm _ k + _
      rw [ke_add, ke_mul, ih, ← kv_ix, ← kv_ix]
  unfold dotF
  rw [key]
  refine (La.sm_cut (by omega) fun i h1 h2 => ?_).symm
  by_cases hi : a.length ≤ i
  · rw [kv_out h hi, Fi.zero_mul]
  · rw [kv_out h (v := b) (by omega), Fi.mul_zero]
theorem kv_app {a b : List Int} {j : Nat} (hj : j < a.length) : kv h (a ++ b) j = kv h a j := by
  unfold kv
  simp only [List.getD]
  rw [List.getElem?_append_left hj]
theorem kv_appL {a : List Int} {x : Int} : kv h (a ++ [x]) a.length = ke h x := by
  unfold kv
  simp [List.getD]
theorem kv_set {l : List Int} {p : Nat} (hp : p < l.length) (x : Int) (j : Nat) : kv h (l.set p x) j = if j = p then ke h x else kv h l j := by
  unfold kv
  by_cases e : j = p
  · subst e; rw [if_pos rfl]; simp [List.getD, hp]
  · rw [if_neg e]; simp only [List.getD]; rw [List.getElem?_set_ne (Ne.symm e)]
theorem km_at {X : List (List Int)} {i : Nat} : km h X i = kv h (ix [] X i) := by rw [ix_nat]; rfl
end
theorem La.sm_upd {K : Type} [Fi K] {g g' : Nat → K} {n p : Nat} (hp : p < n) (h0 : g p = 0) (h : ∀ j, j ≠ p → g' j = g j) : La.sm g' n = La.sm g n + g' p := by
  have e1 : La.sm g' n = La.sm (fun j => g j + if j = p then g' p else 0) n := La.sm_congr fun j _ => by
    by_cases e : j = p
    · subst e; rw [if_pos rfl, h0, Fi.zero_add]
    · rw [if_neg e, h j e, Fi.add_zero]
  rw [e1, La.sm_add]
  congr 1
  rw [La.sm_one (k := p) hp fun i _ hne => if_neg hne, if_pos rfl]
theorem solTo_supp {E : El} {cols : Int} (hp : ∀ p ∈ E.piv, 0 ≤ p) : ∀ (k : Nat) (j : Int), k ≤ E.piv.length → 0 ≤ j → ix 0 (solTo E cols k) j ≠ 0 → ∃ i : Int, 0 ≤ i ∧ i < k ∧ ix 0 E.piv i = j
  | 0, j, _, j0, hne => by
    exfalso; apply hne
    exact ix_replicate0 _ _
  | k + 1, j, hk, j0, hne => by
    have h0 := hp _ (ix_mem 0 E.piv (i := (k : Int)) (by omega) (by omega))
    by_cases e : ix 0 E.piv k = j
    · exact ⟨k, by omega, by omega, e⟩
    · have : ix 0 (solTo E cols (k + 1)) j = ix 0 (solTo E cols k) j := by
        show ix 0 ((solTo E cols k).set (ix 0 E.piv k).toNat _) j = _
        simp only [ix, List.getD]
        rw [List.getElem?_set_ne]
        intro e2
        apply e
        simp only [ix, List.getD] at h0 ⊢
        omega
      rw [this] at hne
      obtain ⟨i, i0, i1, i2⟩ := solTo_supp hp k j (by omega) j0 hne
      exact ⟨i, i0, by omega, i2⟩
def dots (f : Fld) (rows : List (List Int)) (x : List Int) : List Int := rows.map fun row => dotF f row x
@[simp] theorem length_dots (f : Fld) (rows : List (List Int)) (x : List Int) : (dots f rows x).length = rows.length := by simp [dots]
theorem ix_dots {f : Fld} {rows : List (List Int)} {x : List Int} {i : Int} (i0 : 0 ≤ i) (i1 : i < rows.length) : ix 0 (dots f rows x) i = dotF f (ix [] rows i) x := by
  unfold dots
  simp only [ix, List.getD, List.getElem?_map]
  rw [List.getElem?_eq_getElem (by omega)]
  rfl
theorem dot_lt {f : Fld} (hS : Shape f) (a b : List Int) : 0 ≤ dotF f a b ∧ dotF f a b < f.q := by
  have hb := hS.bd
  unfold dotF
  cases min a.length b.length with
  | zero => exact ⟨Int.le_refl _, by show (0 : Int) < _; omega⟩
  | succ k => exact hS.addF_lt _ _
theorem out_dots {f : Fld} (hS : Shape f) (rows : List (List Int)) (x : List Int) : ¬ outF f (dots f rows x) := by
  rintro ⟨y, hy, hn⟩
  unfold dots at hy
  obtain ⟨row, _, rfl⟩ := List.mem_map.1 hy
  exact hn (dot_lt hS _ _)
section
variable {f : Fld} {n : Nat} {X : List (List Int)} {x : List Int}
/-- The rows with a right side. -/
theorem km_aug (h : FOk f) (hX : good f n X) (b : List Int) {i j : Nat} (hi : i < X.length) (hj : j < n) : km h (augL X b) i j = km h X i j := by
  have hw := wide_ix (good_wide hX) (i := (i : Int)) (by omega) (by omega)
  rw [km_at, ix_augL (by omega) (by omega), kv_app h (by omega), ← km_at]
theorem km_augL (h : FOk f) (hX : good f n X) (b : List Int) {i : Nat} (hi : i < X.length) : km h (augL X b) i n = ke h (ix 0 b i) := by
  have hw := wide_ix (good_wide hX) (i := (i : Int)) (by omega) (by omega)
  rw [km_at, ix_augL (by omega) (by omega)]
  have := kv_appL h (a := ix [] X i) (x := ix 0 b i)
  rw [hw] at this
  exact this
/-- Pivots do not hang on the right side. -/
theorem piv_aug (h : FOk f) (hX : good f n X) {b : List Int} (hb : ¬ outF f b) : (elim f (augL X b) [] n).piv = (elim f X [] n).piv := by
  have hA := aug_good h.1 hX hb
  have r1 := elim_rref h hA (wide_nil 0) (.inl rfl) n
  have r2 := elim_rref h hX (wide_nil 0) (.inl rfl) n
  have s1 := elim_span h hA n
  have s2 := elim_span h hX n
  have hl := length_augL X b
  rw [hl] at r1 s1
  obtain ⟨e1, e2, _⟩ := r1.uniq r2 (fun i hi => by
      obtain ⟨c, hc⟩ := s1.1 i hi
      refine ⟨La.lin c (km h X) X.length, La.Span.trans ⟨c, rfl⟩ s2.2, fun y hy => ?_⟩
      rw [hc]
      exact La.sm_congr fun k hk => by rw [km_aug h hX b hk hy]) (fun i hi => by
      obtain ⟨c, hc⟩ := s2.1 i hi
      refine ⟨La.lin c (km h (augL X b)) X.length, La.Span.trans ⟨c, rfl⟩ s1.2, fun y hy => ?_⟩
      rw [hc]
      exact La.sm_congr fun k hk => by rw [km_aug h hX b hk hy])
  refine ext_ix 0 e1 fun j j0 j1 => ?_
  have a1 := pvN_ix (f := f) (augL X b) [] n (i := j.toNat) (by omega)
  have a2 := pvN_ix (f := f) X [] n (i := j.toNat) (by omega)
  have := e2 j.toNat (by omega)
  rw [show ((j.toNat : Nat) : Int) = j by omega] at a1 a2
  omega
/-- The vectors whose entry n is the product with x. -/
theorem aug_fun (h : FOk f) (hX : good f n X) (hx : x.length = n) {v : Nat → KF f h} (hv : La.Span (km h (augL X (dots f X x))) X.length v) : v n = La.sm (fun j => v j * kv h x j) n := by
  refine La.Span.ind (Φ := fun v => v n = La.sm (fun j => v j * kv h x j) n) ?_ ?_ ?_ (m := X.length) (fun i hi => ?_) v hv
  · show (0 : KF f h) = _
    exact (La.sm_zero fun j _ => Fi.zero_mul _).symm
  · intro u v hu hv
    show u n + v n = _
    rw [hu, hv, ← La.sm_add]
    exact La.sm_congr fun j _ => (Fi.add_mul _ _ _).symm
  · intro a u hu
    show a * u n = _
    rw [hu, ← La.sm_mul]
    exact La.sm_congr fun j _ => (Fi.mul_assoc _ _ _).symm
  · have hw := wide_ix (good_wide hX) (i := (i : Int)) (by omega) (by omega)
    show km h (augL X (dots f X x)) i n = _
    rw [km_augL h hX _ hi, ix_dots (by omega) (by omega), ke_dot h (ix [] X i) x (n := n) (by omega)]
    exact La.sm_congr fun j hj => by rw [km_aug h hX _ hi hj, km_at]
/-- The solution has the products of the given word. -/
theorem sol_dot (h : FOk f) (hX : good f n X) {b : List Int} (hb : ¬ outF f b) (hz : ∀ i, (elim f (augL X b) [] n).piv.length ≤ i → i < X.length → km h (elim f (augL X b) [] n).X i n = 0) {q : Int} (q0 : 0 ≤ q) (q1 : q < X.length) :
    dotF f (ix [] X q) (solTo (elim f (augL X b) [] n) n (elim f (augL X b) [] n).piv.length) = if q < b.length then ix 0 b q else 0 := by
  have hA := aug_good h.1 hX hb
  have hl := length_augL X b
  have rr := elim_rref h hA (wide_nil 0) (.inl rfl) n
  have s1 := elim_span h hA n
  have hpl := piv_le f (augL X b) [] n
  rw [hl] at rr s1
  have hw := wide_ix (good_wide hX) q0 q1
  generalize hE : elim f (augL X b) [] n = E at *
  have hpr : ∀ p ∈ E.piv, 0 ≤ p ∧ p < n := by rw [← hE]; exact piv_rng f _ _ _
  have hpv : ∀ i : Nat, i < E.piv.length → ((pvN E.piv i : Nat) : Int) = ix 0 E.piv i := by
    intro i hi
    have := pvN_ix (f := f) (augL X b) [] n (i := i) (by rw [hE]; exact hi)
    rwa [hE] at this
  -- the product with the solution, pivot by pivot
  have key : ∀ k : Nat, k ≤ E.piv.length → La.sm (fun j => kv h (ix [] X q) j * kv h (solTo E n k) j) n = La.sm (fun i => kv h (ix [] X q) (pvN E.piv i) * km h E.X i n) k := by
    intro k
    induction k with
    | zero => intro _; exact La.sm_zero fun j _ => by rw [show solTo E (n : Int) 0 = List.replicate (n : Int).toNat 0 from rfl, kv_zeros, Fi.mul_zero]
    | succ k ih =>
      intro hk
      have hpk := hpv k (by omega)
      have hrk := hpr _ (ix_mem 0 E.piv (i := (k : Int)) (by omega) (by omega))
      have hset : solTo E (n : Int) (k + 1) = (solTo E n k).set (pvN E.piv k) (ix 0 (ix [] E.X k) n) := by
        show (solTo E (n : Int) k).set (ix 0 E.piv k).toNat _ = _
        rw [← hpk]; rfl
      have hln : pvN E.piv k < (solTo E (n : Int) k).length := by rw [length_solTo]; omega
      show _ = La.sm _ k + _
      rw [← ih (by omega), hset, La.sm_upd (p := pvN E.piv k) (by omega) (g := fun j => kv h (ix [] X q) j * kv h (solTo E n k) j) ?_ (fun j hj => by rw [kv_set h hln, if_neg hj])]
      · congr 1
        rw [kv_set h hln, if_pos rfl, ← km_ix]
      · have : ix 0 (solTo E (n : Int) k) (pvN E.piv k : Nat) = 0 := by
          apply Classical.byContradiction
          intro hne
          obtain ⟨i, i0, i1, i2⟩ := solTo_supp (fun p hp => (hpr p hp).1) k _ (by omega) (by omega) hne
          have := rr.inc i.toNat k (by omega) (by omega)
          have hpi := hpv i.toNat (by omega)
          rw [show ((i.toNat : Nat) : Int) = i by omega] at hpi
          omega
        show kv h (ix [] X q) _ * kv h (solTo E n k) _ = 0
        rw [kv_ix h (solTo E n k), this, ke_zero, Fi.mul_zero]
  -- the row of the given side
  obtain ⟨c, hc⟩ := s1.2 q.toNat (by omega)
  have e1 : km h (augL X b) q.toNat n = La.sm (fun i => kv h (ix [] X q) (pvN E.piv i) * km h E.X i n) E.piv.length := by
    rw [hc]
    show La.sm _ _ = _
    rw [La.sm_cut rr.le fun i h1 h2 => by rw [hz i h1 h2, Fi.mul_zero]]
    refine La.sm_congr fun i hi => ?_
    have := rr.coef (c := c) hi
    rw [← hc, km_aug h hX b (by omega) (rr.lt i hi), km_at, show ((q.toNat : Nat) : Int) = q by omega] at this
    rw [← this]
  have hbq : km h (augL X b) q.toNat n = ke h (ix 0 b q) := by
    have := km_augL h hX b (i := q.toNat) (by omega)
    rwa [show ((q.toNat : Nat) : Int) = q by omega] at this
  have hb0 : ix 0 b q = if q < b.length then ix 0 b q else 0 := by
    split
    · rfl
    · simp only [ix, List.getD]; rw [List.getElem?_eq_none (by omega)]; rfl
  rw [← hb0]
  have d1 := dot_lt h.1 (ix [] X q) (solTo E n E.piv.length)
  have d2 := ix_ok h.1 hb q
  refine ke_inj h d1.1 d1.2 d2.1 d2.2 ?_
  rw [ke_dot h _ _ (n := n) (by omega), key _ (Nat.le_refl _), ← e1, hbq]
end
/-- What the law on solvable systems asks. -/
structure SolF (f : Fld) (m : Mat) (x : List Int) : Prop where
  err : solE f m (dots f m.rows x) = 0
  len : ((solV f m (dots f m.rows x)).length : Int) = m.cols
  dot : ∀ q : Int, 0 ≤ q → q < m.rows.length → dotF f (ix [] m.rows q) (solV f m (dots f m.rows x)) = ix 0 (dots f m.rows x) q
  sup : ∀ i : Int, 0 ≤ i → ix 0 (solV f m (dots f m.rows x)) i ≠ 0 → i ∈ canP f m
theorem sol_facts {f : Fld} {m : Mat} {x : List Int} (hm : mErr f m = 0) (hx : vecErr f x m.cols = 0) : SolF f m x := by
  have hF := (mErr_zero.1 hm).1
  have hme := (mErr_zero.1 hm).2
  have hsz := mat_size hme
  have hgm := mat_good hme
  have hxv := vecErr_zero.1 hx
  have hc : ((m.cols.toNat : Nat) : Int) = m.cols := by omega
  have hb := out_dots hF.1 m.rows x
  have hA := aug_good hF.1 hgm hb
  have hl := length_augL m.rows (dots f m.rows x)
  have rr := elim_rref hF hA (wide_nil 0) (.inl rfl) m.cols.toNat
  have s1 := elim_span hF hA m.cols.toNat
  have hlx := (length_elim f (augL m.rows (dots f m.rows x)) [] m.cols.toNat).1
  rw [hl] at rr s1
  have hge := good_elim hF.1 (Y := []) hA m.cols.toNat
  have hz : ∀ i, (elim f (augL m.rows (dots f m.rows x)) [] m.cols.toNat).piv.length ≤ i → i < m.rows.length → km hF (elim f (augL m.rows (dots f m.rows x)) [] m.cols.toNat).X i m.cols.toNat = 0 := by
    intro i h1 h2
    rw [aug_fun hF hgm (x := x) (by omega) (s1.1 i h2)]
    exact La.sm_zero fun j hj => by rw [rr.rest i j h1 h2 hj, Fi.zero_mul]
  have hs1 : sErr f m (dots f m.rows x) = 0 := by
    rw [sErr_ok hm]
    exact vecErr_zero.2 ⟨by simp, hb⟩
  have hse : solE f m (dots f m.rows x) = 0 := by
    refine solE_ok hs1 (offR_none fun z z0 z1 => ?_)
    have z1' : z < (elim f (augL m.rows (dots f m.rows x)) [] m.cols.toNat).X.length := z1
    have z0' : ((elim f (augL m.rows (dots f m.rows x)) [] m.cols.toNat).piv.length : Int) ≤ z := z0
    have := hz z.toNat (by omega) (by omega)
    have hr := good_ixlt hF.1 hge (i := z) (by omega) z1' m.cols
    rw [km_ix, show ((z.toNat : Nat) : Int) = z by omega, hc] at this
    exact (ke_eq_zero hF hr.1 hr.2).1 this
  have hsv : solV f m (dots f m.rows x) = solTo (elim f (augL m.rows (dots f m.rows x)) [] m.cols.toNat) ((m.cols.toNat : Nat) : Int) (elim f (augL m.rows (dots f m.rows x)) [] m.cols.toNat).piv.length := by
    rw [solV_ok hse, hc]; rfl
  refine ⟨hse, by rw [hsv, length_solTo]; omega, fun q q0 q1 => ?_, fun i i0 hne => ?_⟩
  · rw [hsv, sol_dot hF hgm hb hz q0 q1, if_pos (by simpa using q1)]
  · rw [hsv] at hne
    obtain ⟨k, k0, k1, k2⟩ := solTo_supp (fun p hp => (piv_rng f _ _ _ p hp).1) _ i (Nat.le_refl _) i0 hne
    have hcp : canP f m = (elim f m.rows [] m.cols.toNat).piv := canP_ok hm
    rw [hcp, ← piv_aug hF hgm hb, ← k2]
    exact ix_mem 0 _ k0 k1
end Go.Cw
namespace Go.Cw
theorem mem_take_step {A : Prop} {l : List Int} {k i : Int} (k0 : 0 ≤ k) (k1 : k < l.length) : ((A ∨ i ∈ l.take k.toNat) ∨ ix 0 l k = i) ↔ (A ∨ i ∈ l.take (k + 1).toNat) := by
  rw [take_succ_ix 0 l k0 k1, List.mem_append, List.mem_singleton]
  constructor
  · rintro ((h | h) | h)
    · exact .inl h
    · exact .inr (.inl h)
    · exact .inr (.inr h.symm)
  · rintro (h | h | h)
    · exact .inl (.inl h)
    · exact .inl (.inr h)
    · exact .inr h.symm
end Go.Cw

