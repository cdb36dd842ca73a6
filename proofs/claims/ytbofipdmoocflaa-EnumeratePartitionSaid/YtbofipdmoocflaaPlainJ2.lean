/-
  Plain facts.
-/
import Derived.Test.YtbofipdmoocflaaPlainJ1
set_option linter.unusedVariables false
set_option linter.unusedSimpArgs false
set_option linter.unusedSectionVars false
namespace Go.Cw
section
variable {α : Type} {g : Int → Int} {p : Int → Bool} {z : Int} {wd : Int → List α} {i : Int}
end
def valD (q : Int) : List Int → Int := fun l => l.foldl (fun a d => a * q + d) 0
theorem valD_snoc (q : Int) (l : List Int) (d : Int) : valD q (l ++ [d]) = valD q l * q + d := by unfold valD; rw [List.foldl_append]; rfl
theorem valD_dgs {q : Int} (hq : 2 ≤ q) : ∀ (n : Nat) (l : List Int), l.length = n → (∀ d ∈ l, 0 ≤ d ∧ d < q) → 0 ≤ valD q l ∧ valD q l < q ^ n ∧ dgs q n (valD q l) = l
  | 0, l, hl, _ => by
    have : l = [] := List.eq_nil_of_length_eq_zero hl
    subst this
    exact ⟨Int.le_refl _, by simp [valD], rfl⟩
  | n + 1, l, hl, h => by
    obtain ⟨l', d, rfl⟩ : ∃ l' d, l = l' ++ [d] := by
      have hne : l ≠ [] := fun e => by rw [e] at hl; cases hl
      exact ⟨l.dropLast, l.getLast hne, (List.dropLast_concat_getLast hne).symm⟩
    have hl' : l'.length = n := by simp at hl; omega
    obtain ⟨h1, h2, h3⟩ := valD_dgs hq n l' hl' fun x hx => h x (List.mem_append_left _ hx)
    have hd := h d (List.mem_append_right _ (List.mem_singleton.2 rfl))
    rw [valD_snoc]
    refine ⟨Int.add_nonneg (Int.mul_nonneg h1 (by omega)) hd.1, ?_, ?_⟩
    · rw [Int.pow_succ]
      have := Int.mul_le_mul_of_nonneg_right (show valD q l' + 1 ≤ q ^ n by omega) (show 0 ≤ q by omega)
      rw [Int.add_mul, Int.one_mul] at this
      omega
    · rw [dgs_next hd.1 hd.2, h3]
noncomputable def lisE (f : Fld) (l : List Int) (n : Int) : Int := if (l.length : Int) ≠ n then 4 else entErr f l
theorem lisE_zero {f : Fld} {l : List Int} {n : Int} : lisE f l n = 0 ↔ (l.length : Int) = n ∧ ¬ outF f l := by
  unfold lisE
  by_cases h : (l.length : Int) ≠ n
  · rw [if_pos h]; exact Iff.intro (fun h => by cases h) (fun h2 => absurd h2.1 h)
  · rw [if_neg h, entErr_zero]; exact ⟨fun h2 => ⟨Classical.not_not.1 h, h2⟩, fun h2 => h2.2⟩
noncomputable def wrdE (c : Cod) (w : List Int) : Int := if codE c = 0 then lisE c.F w c.N else codE c
theorem wrdE_zero {c : Cod} {w : List Int} : wrdE c w = 0 ↔ COk c ∧ (w.length : Int) = c.N ∧ ¬ outF c.F w := by
  unfold wrdE
  by_cases h : codE c = 0
  · rw [if_pos h, lisE_zero, ← codE_zero]; exact ⟨fun h2 => ⟨h, h2⟩, fun h2 => h2.2⟩
  · rw [if_neg h, ← codE_zero]; exact ⟨fun h2 => absurd h2 h, fun h2 => absurd h2.1 h⟩
abbrev Cod.w (c : Cod) (i : Int) : List Int := wdF c.F c.N c.Gen i
abbrev Cod.n (c : Cod) : Nat := (c.F.q ^ c.Gen.length).toNat
noncomputable def neE (c : Cod) (y : List Int) : Int := if wrdE c y = 0 then sizE c else wrdE c y
theorem COk.cn {c : Cod} (h : COk c) : (c.n : Int) = c.F.q ^ c.Gen.length := by
  have := pow_pos_of c.F.q h.q2 c.Gen.length
  exact Int.toNat_of_nonneg (by omega)
end Go.Cw


set_option linter.unusedVariables false
set_option linter.unusedSimpArgs false
set_option linter.unusedSectionVars false
namespace Go.Cw
def smT (h : Int → Int) : Nat → Int
  | 0 => 0
  | k + 1 => smT h k + h k
theorem smT_congr {h h' : Int → Int} : ∀ {k : Nat}, (∀ i : Int, 0 ≤ i → i < k → h i = h' i) → smT h k = smT h' k
  | 0, _ => rfl
  | k + 1, e => by rw [smT, smT, smT_congr fun i h0 h1 => e i h0 (by omega), e k (by omega) (by omega)]
theorem smT_add (g h : Int → Int) : ∀ k : Nat, smT (fun i => g i + h i) k = smT g k + smT h k
  | 0 => rfl
  | k + 1 => by rw [smT, smT, smT, smT_add g h k]; omega
theorem smT_zero {h : Int → Int} {k : Nat} (e : ∀ i : Int, 0 ≤ i → i < k → h i = 0) : smT h k = 0 := by
  induction k with
  | zero => rfl
  | succ k ih => rw [smT, ih fun i h0 h1 => e i h0 (by omega), e k (by omega) (by omega)]; rfl
theorem smT_const (a : Int) : ∀ k : Nat, smT (fun _ => a) k = k * a
  | 0 => by simp [smT]
  | k + 1 => by rw [smT, smT_const a k, show ((k + 1 : Nat) : Int) = (k : Int) + 1 by omega, Int.add_mul, Int.one_mul]
theorem smT_mul (a : Int) (h : Int → Int) : ∀ k : Nat, smT (fun i => a * h i) k = a * smT h k
  | 0 => by simp [smT]
  | k + 1 => by rw [smT, smT, smT_mul a h k, Int.mul_add]
theorem smT_single (a v : Int) : ∀ (k : Nat), 0 ≤ v → smT (fun i => if v = i then a else 0) k = if v < k then a else 0
  | 0, h => by rw [if_neg (by omega)]; rfl
  | k + 1, h => by
    rw [smT, smT_single a v k h]
    by_cases e : v = k
    · rw [if_neg (by omega), if_pos e, if_pos (by omega)]; omega
    · rw [if_neg e]
      by_cases h2 : v < k
      · rw [if_pos h2, if_pos (by omega)]; omega
      · rw [if_neg h2, if_neg (by omega)]; rfl
theorem smT_le_one {h : Int → Int} : ∀ {n : Nat}, (∀ i : Int, 0 ≤ i → i < n → h i ≤ 1) → smT h n ≤ n
  | 0, _ => Int.le_refl _
  | n + 1, e => by
    have : smT h n ≤ n := smT_le_one (n := n) fun i h0 h1 => e i h0 (by omega)
    have h2 := e n (by omega) (by omega)
    rw [smT]; omega
theorem smT_all_one {h : Int → Int} : ∀ {n : Nat}, (∀ i : Int, 0 ≤ i → i < n → h i ≤ 1) → smT h n = n → ∀ i : Int, 0 ≤ i → i < n → h i = 1
  | 0, _, _, i, h0, h1 => by omega
  | n + 1, e, hs, i, h0, h1 => by
    have h2 := e n (by omega) (by omega)
    have h3 : smT h n ≤ n := smT_le_one (n := n) fun i h0 h1 => e i h0 (by omega)
    rw [smT] at hs
    by_cases hi : i = n
    · rw [hi]; omega
    · exact smT_all_one (n := n) (fun i h0 h1 => e i h0 (by omega)) (by omega) i h0 (by omega)
theorem cnt_smT (g : Int → Int) (j : Int) : ∀ k : Nat, cntTo g j k = smT (fun i => if g i = j then 1 else 0) k
  | 0 => rfl
  | k + 1 => by rw [cntTo, smT, cnt_smT g j k]
/-- An order of the first n. -/
structure PermN (p : Int → Int) (n : Nat) : Prop where
  rng : ∀ i : Int, 0 ≤ i → i < n → 0 ≤ p i ∧ p i < n
  inj : ∀ i j : Int, 0 ≤ i → i < n → 0 ≤ j → j < n → p i = p j → i = j
namespace PermN
variable {p : Int → Int} {n : Nat}
theorem le_one (h : PermN p n) (v : Int) : ∀ k : Nat, k ≤ n → cntTo p v k ≤ 1 ∧ (cntTo p v k = 1 → ∃ i : Int, 0 ≤ i ∧ i < k ∧ p i = v)
  | 0, _ => ⟨show (0 : Int) ≤ 1 by decide, fun h => absurd (show (0 : Int) = 1 from h) (by decide)⟩
  | k + 1, hk => by
    obtain ⟨h1, h2⟩ := h.le_one v k (by omega)
    have hb := cntTo_bd p v k
    unfold cntTo
    by_cases e : p k = v
    · rw [if_pos e]
      have h0 : cntTo p v k = 0 := by
        by_cases h3 : cntTo p v k = 1
        · obtain ⟨i, i0, i1, i2⟩ := h2 h3
          have := h.inj i k i0 (by omega) (by omega) (by omega) (by rw [i2, e])
          omega
        · omega
      rw [h0]
      exact ⟨by decide, fun _ => ⟨k, by omega, by omega, e⟩⟩
    · rw [if_neg e, Int.add_zero]
      exact ⟨h1, fun h3 => by obtain ⟨i, i0, i1, i2⟩ := h2 h3; exact ⟨i, i0, by omega, i2⟩⟩
theorem total (h : PermN p n) : ∀ k : Nat, k ≤ n → smT (fun v => cntTo p v k) n = k
  | 0, _ => smT_zero fun _ _ _ => rfl
  | k + 1, hk => by
    have hr := h.rng k (by omega) (by omega)
    show smT (fun v => cntTo p v k + (if p k = v then 1 else 0)) n = _
    rw [smT_add, h.total k (by omega), smT_single 1 (p k) n hr.1, if_pos hr.2]; omega
theorem one (h : PermN p n) : ∀ v : Int, 0 ≤ v → v < n → cntTo p v n = 1 :=
  smT_all_one (fun i _ _ => (h.le_one i n (Nat.le_refl _)).1) (h.total n (Nat.le_refl _))
theorem sum_to (h : PermN p n) (g : Int → Int) : ∀ k : Nat, k ≤ n → smT (fun i => g (p i)) k = smT (fun v => g v * cntTo p v k) n
  | 0, _ => (smT_zero fun _ _ _ => Int.mul_zero _).symm
  | k + 1, hk => by
    have hr := h.rng k (by omega) (by omega)
    have e : smT (fun v => g v * cntTo p v (k + 1)) n = smT (fun v => g v * cntTo p v k + (if p k = v then g (p k) else 0)) n := smT_congr fun v _ _ => by
      show g v * (cntTo p v k + (if p k = v then 1 else 0)) = _
      by_cases e : p k = v
      · rw [if_pos e, if_pos e, Int.mul_add, Int.mul_one, e]
      · rw [if_neg e, if_neg e, Int.add_zero, Int.add_zero]
    rw [e, smT_add, ← h.sum_to g k (by omega), smT_single (g (p k)) (p k) n hr.1, if_pos hr.2]; rfl
theorem sum (h : PermN p n) (g : Int → Int) : smT (fun i => g (p i)) n = smT g n := by
  rw [h.sum_to g n (Nat.le_refl _)]
  exact smT_congr fun v h0 h1 => by rw [h.one v h0 h1, Int.mul_one]
theorem cnt (h : PermN p n) (g : Int → Int) (j : Int) : cntTo (fun i => g (p i)) j n = cntTo g j n := by
  rw [cnt_smT, cnt_smT]
  exact h.sum fun v => if g v = j then 1 else 0
end PermN
theorem his_ext {n : Int} {g g' : Int → Int} {k : Nat} (h : ∀ i : Int, 0 ≤ i → i < k → 0 ≤ g i ∧ g i < n) (h' : ∀ i : Int, 0 ≤ i → i < k → 0 ≤ g' i ∧ g' i < n) (e : ∀ j : Int, 0 ≤ j → j < n → cntTo g j k = cntTo g' j k) : hisTo n g k = hisTo n g' k := by
  refine ext_ix 0 (by simp) fun i i0 i1 => ?_
  rw [length_hisTo] at i1
  rw [ix_hisTo h i0 (by omega), ix_hisTo h' i0 (by omega), e i i0 (by omega)]
def vadd (f : Fld) (a b : List Int) : List Int := mapR (fun i => addF f (ix 0 a i) (ix 0 b i)) a.length
def vneg (f : Fld) (a : List Int) : List Int := mapR (fun i => negF f (ix 0 a i)) a.length
@[simp] theorem length_vadd (f : Fld) (a b : List Int) : (vadd f a b).length = a.length := by unfold vadd; rw [length_mapR]; omega
@[simp] theorem length_vneg (f : Fld) (a : List Int) : (vneg f a).length = a.length := by unfold vneg; rw [length_mapR]; omega
theorem vadd_out {f : Fld} (hS : Shape f) (a b : List Int) : ¬ outF f (vadd f a b) := outF_mapR fun _ _ _ => hS.addF_lt _ _
theorem vneg_out {f : Fld} (hS : Shape f) (a : List Int) : ¬ outF f (vneg f a) := outF_mapR fun _ _ _ => hS.negF_lt _
section
variable {f : Fld} (h : FOk f)
theorem kv_vadd {a b : List Int} (hl : b.length ≤ a.length) (j : Nat) : kv h (vadd f a b) j = kv h a j + kv h b j := by
  by_cases hj : j < a.length
  · rw [kv_ix, kv_ix h a, kv_ix h b]
    unfold vadd
    rw [ix_mapR 0 _ (by omega) (by omega), ke_add]
  · rw [kv_out h (by rw [length_vadd]; omega), kv_out h (v := a) (by omega), kv_out h (v := b) (by omega), Fi.add_zero]
theorem kv_vneg (a : List Int) (j : Nat) : kv h (vneg f a) j = -kv h a j := by
  by_cases hj : j < a.length
  · rw [kv_ix, kv_ix h a]
    unfold vneg
    rw [ix_mapR 0 _ (by omega) (by omega), ke_neg]
  · rw [kv_out h (by rw [length_vneg]; omega), kv_out h (v := a) (by omega)]
    exact (Fi.neg_zero).symm
end
namespace COk
variable {c : Cod}
theorem kvw (h : COk c) {x : List Int} (hx : c.Gen.length ≤ x.length) : kv h.fld (comb c.F x c.Gen c.N) = La.lin (kv h.fld x) (km h.fld c.Gen) c.Gen.length := kv_comb h.fld (fun _ hl => h.wdn hl) hx
theorem comb_neg (h : COk c) {x : List Int} (hx : x.length = c.Gen.length) : comb c.F (vneg c.F x) c.Gen c.N = vneg c.F (comb c.F x c.Gen c.N) := by
  refine kv_ext h.fld (comb_out h.fld.1 _ _ _) (vneg_out h.fld.1 _) (by rw [length_vneg, length_comb, length_comb]) fun j _ => ?_
  rw [kv_vneg h.fld, h.kvw (by simp [hx]), h.kvw (by omega)]
  unfold La.lin
  rw [← La.sm_neg]
  exact La.sm_congr fun i _ => by rw [kv_vneg h.fld, Fi.neg_mul]
end COk
theorem addF_cancel {f : Fld} (h : FOk f) {x y u : Int} (x0 : 0 ≤ x) (x1 : x < f.q) (y0 : 0 ≤ y) (y1 : y < f.q) (e : addF f x u = addF f y u) : x = y := by
  have e2 : ke h x + ke h u = ke h y + ke h u := by rw [← ke_add, ← ke_add, e]
  rw [Fi.add_comm, Fi.add_comm (ke h y)] at e2
  exact ke_inj h x0 x1 y0 y1 (Fi.add_left_cancel e2)
theorem negF_inj {f : Fld} (h : FOk f) {x y : Int} (x0 : 0 ≤ x) (x1 : x < f.q) (y0 : 0 ≤ y) (y1 : y < f.q) (e : negF f x = negF f y) : x = y := by
  have e2 : -ke h x = -ke h y := by rw [← ke_neg, ← ke_neg, e]
  have e3 := congrArg (fun z => -z) e2
  simp only [Fi.neg_neg] at e3
  exact ke_inj h x0 x1 y0 y1 e3
theorem ix_vadd {f : Fld} {a b : List Int} {i : Int} (h0 : 0 ≤ i) (h1 : i < a.length) : ix 0 (vadd f a b) i = addF f (ix 0 a i) (ix 0 b i) := ix_mapR 0 _ h0 h1
theorem ix_vneg {f : Fld} {a : List Int} {i : Int} (h0 : 0 ≤ i) (h1 : i < a.length) : ix 0 (vneg f a) i = negF f (ix 0 a i) := ix_mapR 0 _ h0 h1
theorem dst_vadd {f : Fld} (h : FOk f) {a b u : List Int} (ha : ¬ outF f a) (hb : ¬ outF f b) (hl : a.length = b.length) : dst (vadd f a u) (vadd f b u) = dst a b := by
  unfold dst
  rw [length_vadd, length_vadd]
  refine dstTo_congr _ fun i h0 h1 => ?_
  rw [ix_vadd h0 (by omega), ix_vadd h0 (by omega)]
  have r1 := ix_ok h.1 ha i
  have r2 := ix_ok h.1 hb i
  exact ⟨fun hn e => hn (by rw [e]), fun hn e => hn (addF_cancel h r1.1 r1.2 r2.1 r2.2 e)⟩
theorem dst_vneg {f : Fld} (h : FOk f) {a b : List Int} (ha : ¬ outF f a) (hb : ¬ outF f b) (hl : a.length = b.length) : dst (vneg f a) (vneg f b) = dst a b := by
  unfold dst
  rw [length_vneg, length_vneg]
  refine dstTo_congr _ fun i h0 h1 => ?_
  rw [ix_vneg h0 (by omega), ix_vneg h0 (by omega)]
  have r1 := ix_ok h.1 ha i
  have r2 := ix_ok h.1 hb i
  exact ⟨fun hn e => hn (by rw [e]), fun hn e => hn (negF_inj h r1.1 r1.2 r2.1 r2.2 e)⟩
theorem vneg_cancel {f : Fld} (h : FOk f) {a b : List Int} (ha : ¬ outF f a) (hb : ¬ outF f b) (hl : a.length = b.length) (e : vneg f a = vneg f b) : a = b := by
  refine ext_ix 0 (by omega) fun i i0 i1 => ?_
  have r1 := ix_ok h.1 ha i
  have r2 := ix_ok h.1 hb i
  refine negF_inj h r1.1 r1.2 r2.1 r2.2 ?_
  rw [← ix_vneg i0 i1, ← ix_vneg i0 (by omega), e]
namespace COk
variable {c : Cod}
theorem wl (h : COk c) (i : Int) : (c.w i).length = c.N.toNat := length_wdF _ _ _ _
theorem perm_of (h : COk c) (F : List Int → List Int) (G : List Int → List Int) (hF : ∀ x : List Int, x.length = c.Gen.length → (F x).length = c.Gen.length ∧ ¬ outF c.F (F x) ∧ comb c.F (F x) c.Gen c.N = G (comb c.F x c.Gen c.N))
    (hG : ∀ i j : Int, G (c.w i) = G (c.w j) → c.w i = c.w j) : ∃ p : Int → Int, PermN p c.n ∧ ∀ i : Int, 0 ≤ i → i < c.n → c.w (p i) = G (c.w i) := by
  have key : ∀ i : Int, 0 ≤ valD c.F.q (F (dgs c.F.q c.Gen.length i)) ∧ valD c.F.q (F (dgs c.F.q c.Gen.length i)) < c.F.q ^ c.Gen.length ∧ c.w (valD c.F.q (F (dgs c.F.q c.Gen.length i))) = G (c.w i) := fun i => by
    obtain ⟨l1, l2, l3⟩ := hF (dgs c.F.q c.Gen.length i) (length_dgs _ _ _)
    obtain ⟨h1, h2, h3⟩ := valD_dgs h.q2 c.Gen.length _ l1 fun x hx => outF_no l2 hx
    refine ⟨h1, h2, ?_⟩
    show comb c.F (dgs c.F.q c.Gen.length _) c.Gen c.N = _
    rw [h3, l3]
    rfl
  refine ⟨fun i => valD c.F.q (F (dgs c.F.q c.Gen.length i)), ⟨fun i _ _ => ⟨(key i).1, by rw [h.cn]; exact (key i).2.1⟩, fun i j i0 i1 j0 j1 e => ?_⟩, fun i _ _ => (key i).2.2⟩
  rw [h.cn] at i1 j1
  refine h.wd_inj i0 i1 j0 j1 (hG i j ?_)
  rw [← (key i).2.2, ← (key j).2.2]
  exact congrArg c.w e
theorem perm_neg (h : COk c) : ∃ p : Int → Int, PermN p c.n ∧ ∀ i : Int, 0 ≤ i → i < c.n → c.w (p i) = vneg c.F (c.w i) :=
  h.perm_of (fun x => vneg c.F x) (fun w => vneg c.F w) (fun x hx => ⟨by simp [hx], vneg_out h.fld.1 _, h.comb_neg hx⟩)
    (fun i j e => vneg_cancel h.fld (h.wd_out i) (h.wd_out j) (by rw [h.wl, h.wl]) e)
/-- Distances from y: of -y from the words, of y with a word added, of a word. -/
theorem cnt_neg (h : COk c) {y : List Int} (hl : (y.length : Int) = c.N) (ho : ¬ outF c.F y) (j : Int) : cntTo (fun i => dst (c.w i) (vneg c.F y)) j c.n = cntTo (fun i => dst (c.w i) y) j c.n := by
  obtain ⟨p, hp, hw⟩ := h.perm_neg
  rw [← hp.cnt]
  exact cnt_congr fun i i0 i1 => by rw [hw i i0 i1]; exact dst_vneg h.fld (h.wd_out i) ho (by rw [h.wl]; omega)
end COk
noncomputable def coL (c : Cod) (y : List Int) : List Int := if neE c y = 0 then hisTo (c.N + 1) (fun i => dst (c.w i) y) c.n else []
theorem coL_no {c : Cod} {y : List Int} (h : neE c y ≠ 0) : coL c y = [] := if_neg h
theorem ne_zero {c : Cod} {y : List Int} : neE c y = 0 ↔ wrdE c y = 0 ∧ sizE c = 0 := by
  unfold neE
  by_cases h : wrdE c y = 0
  · rw [if_pos h]; exact ⟨fun h2 => ⟨h, h2⟩, fun h2 => h2.2⟩
  · rw [if_neg h]; exact ⟨fun h2 => absurd h2 h, fun h2 => absurd h2.1 h⟩
theorem dst_rng {c : Cod} (hk : COk c) (y : List Int) (i : Int) : 0 ≤ dst (c.w i) y ∧ dst (c.w i) y < c.N + 1 := by
  have h1 := dst_le (c.w i) y
  have h2 := (dst_bd (c.w i) y).1
  have h3 : ((c.w i).length : Int) = c.N := hk.wdl i
  exact ⟨h2, by omega⟩
theorem co_prog {c : Cod} {y : List Int} (h : neE c y = 0) : hisTo (c.N + 1) (fun i => dst (c.w i) (vneg c.F y)) c.n = coL c y := by
  obtain ⟨hw, hs⟩ := ne_zero.1 h
  obtain ⟨hk, hl, ho⟩ := wrdE_zero.1 hw
  unfold coL
  rw [if_pos h]
  exact his_ext (fun i _ _ => dst_rng hk _ i) (fun i _ _ => dst_rng hk _ i) fun j _ _ => hk.cnt_neg hl ho j
end Go.Cw


set_option linter.unusedVariables false
set_option linter.unusedSimpArgs false
set_option linter.unusedSectionVars false
namespace Go.Cw
def hisOn (L : List Int) (g : Int → Int) (s : Int) : Nat → List Int
  | 0 => L
  | k + 1 => (hisOn L g s k).set (g k).toNat (ix 0 (hisOn L g s k) (g k) + s)
@[simp] theorem length_hisOn (L : List Int) (g : Int → Int) (s : Int) : ∀ k, (hisOn L g s k).length = L.length
  | 0 => rfl
  | k + 1 => by simp [hisOn, length_hisOn L g s k]
theorem ix_set (l : List Int) {i j v : Int} (i0 : 0 ≤ i) (i1 : i < l.length) (j0 : 0 ≤ j) : ix 0 (l.set i.toNat v) j = if i = j then v else ix 0 l j := by
  unfold ix
  rw [List.getD_eq_getElem?_getD, List.getD_eq_getElem?_getD]
  by_cases e : i = j
  · subst e; rw [if_pos rfl, List.getElem?_set_self (by omega)]; rfl
  · rw [if_neg e, List.getElem?_set_ne (by omega)]
/-- Rows of one length. -/
def lens (l : List (List Int)) (n : Int) : Prop := ∀ i : Int, 0 ≤ i → i < l.length → ((ix [] l i).length : Int) = n
def dg (l : List (List Int)) (a : Int) : Int → Int := fun b => dst (ix [] l a) (ix [] l b)
def disR (l : List (List Int)) (n : Int) : Nat → List Int
  | 0 => List.replicate (n + 1).toNat 0
  | k + 1 => hisOn (disR l n k) (dg l k) 1 l.length
def disP (l : List (List Int)) (n : Int) : Nat → List Int
  | 0 => (List.replicate (n + 1).toNat 0).set 0 l.length
  | k + 1 => hisOn (disP l n k) (dg l k) 2 k
@[simp] theorem length_disR (l : List (List Int)) (n : Int) : ∀ k, (disR l n k).length = (n + 1).toNat
  | 0 => by simp [disR]
  | k + 1 => by simp [disR, length_disR l n k]
@[simp] theorem length_disP (l : List (List Int)) (n : Int) : ∀ k, (disP l n k).length = (n + 1).toNat
  | 0 => by simp [disP]
  | k + 1 => by simp [disP, length_disP l n k]
section
variable {l : List (List Int)} {n : Int}
theorem dst_self (a : List Int) : dst a a = 0 := dstTo_zero.2 fun _ _ _ => rfl
/-- Pairs in either order. -/
theorem pairs (l : List (List Int)) (j : Int) : ∀ k : Nat, smT (fun a => cntTo (dg l a) j k) k = (if 0 = j then (k : Int) else 0) + 2 * smT (fun a => cntTo (dg l a) j a.toNat) k
  | 0 => by
    show (0 : Int) = (if 0 = j then ((0 : Nat) : Int) else 0) + 2 * 0
    split <;> rfl
  | k + 1 => by
    have ih := pairs l j k
    have e1 : smT (fun a => cntTo (dg l a) j (k + 1)) k = smT (fun a => cntTo (dg l a) j k) k + cntTo (dg l k) j k := by
      have : smT (fun a => cntTo (dg l a) j (k + 1)) k = smT (fun a => cntTo (dg l a) j k + (if dg l a k = j then 1 else 0)) k := rfl
      rw [this, smT_add, cnt_smT (dg l k)]
      congr 1
      exact smT_congr fun a _ _ => by unfold dg; rw [dst_symm]
    have e2 : cntTo (dg l k) j (k + 1) = cntTo (dg l k) j k + (if 0 = j then 1 else 0) := by
      show cntTo (dg l k) j k + (if dg l k k = j then 1 else 0) = _
      rw [show dg l k k = 0 from dst_self _]
    rw [smT, smT, e1, e2, ih, show ((k : Int)).toNat = k by omega]
    split <;> omega
end
end Go.Cw


set_option linter.unusedVariables false
set_option linter.unusedSimpArgs false
set_option linter.unusedSectionVars false
namespace Go.Cw
/-- A canonical matrix is its own canonical matrix. -/
theorem canR_idem {f : Fld} {n : Nat} {X : List (List Int)} (h : FOk f) (hX : good f n X) : canR (elim f (canR (elim f X [] n)) [] n) = canR (elim f X [] n) := by
  have hg := canR_good h.1 hX n
  have hl := length_canR f X n
  have s1 := elim_span h hX n
  refine (can_uniq h hg hX (fun i hi => ?_) (fun i hi => ?_)).2
  · rw [km_canR h (by omega)]
    exact s1.1 i (by have := piv_le f X [] n; omega)
  · have hm : ix [] X i ∈ X := ix_mem [] X (i := (i : Int)) (by omega) (by omega)
    have e := can_row h hX hm
    have hk : km h X i = kv h (ix [] X i) := by rw [ix_nat]; rfl
    rw [hk, ← e, kv_comb h (fun l hl' => by have := (hg l hl').1; omega) (by simp; omega)]
    exact ⟨_, rfl⟩
def dua (c : Cod) : Cod := ⟨c.F, c.N, nullR c.F c.Gen c.N⟩
namespace COk
variable {c : Cod}
theorem rows_can (hk : COk c) : canR (elim c.F c.Gen [] c.N.toNat) = c.Gen := by
  have := hk.can
  rw [canM_ok hk.mat] at this
  exact this
theorem good (hk : COk c) : good c.F c.N.toNat c.Gen := mat_good hk.gmat
theorem dim_dua (hk : COk c) : ((dua c).Gen.length : Int) + c.Gen.length = c.N := by
  have hd := null_dim hk.fld hk.good
  have hl := length_canR c.F c.Gen c.N.toNat
  have hn := hk.n1
  rw [hk.rows_can] at hl
  show ((nullR c.F c.Gen c.N).length : Int) + _ = _
  rw [show ((c.N.toNat : Nat) : Int) = c.N by omega] at hd
  omega
theorem good_dua (hk : COk c) : Go.Cw.good c.F c.N.toNat (dua c).Gen := canR_good hk.fld.1 (ker_good hk.fld.1 _ _ _ _) _
theorem mat_dua (hk : COk c) : mErr c.F ⟨c.N, (dua c).Gen⟩ = 0 := by
  have hn := hk.n1; have h64 := hk.n64; have hd := hk.dim_dua
  exact mErr_zero.2 ⟨hk.fld, good_mat (by show 0 ≤ c.N; omega) (by show c.N ≤ 256; omega) (by show (dua c).Gen.length ≤ 256; omega) hk.good_dua⟩
theorem dua (hk : COk c) : COk (dua c) where
  fld := hk.fld
  n1 := hk.n1
  n64 := hk.n64
  mat := hk.mat_dua
  can := by
    show (canM c.F ⟨c.N, (Go.Cw.dua c).Gen⟩).rows = (Go.Cw.dua c).Gen
    rw [canM_ok hk.mat_dua]
    exact canR_idem hk.fld (ker_good hk.fld.1 _ _ _ _)
end COk
structure Tly where
  dual : Bool
  count : List Int
end Go.Cw


set_option linter.unusedVariables false
set_option linter.unusedSimpArgs false
set_option linter.unusedSectionVars false
namespace Go.Cw
theorem smT_app (h : Int → Int) (a : Nat) : ∀ b : Nat, smT h (a + b) = smT h a + smT (fun i => h (a + i)) b
  | 0 => by simp [smT]
  | b + 1 => by
    rw [show a + (b + 1) = (a + b) + 1 from rfl, smT, smT, smT_app h a b, show ((a + b : Nat) : Int) = (a : Int) + b by omega]; omega
theorem smT_mulN (h : Int → Int) (b : Nat) : ∀ a : Nat, smT h (a * b) = smT (fun i => smT (fun z => h (i * b + z)) b) a
  | 0 => by rw [Nat.zero_mul]; rfl
  | a + 1 => by
    rw [Nat.succ_mul, smT_app, smT_mulN h b a, smT]
    congr 1
def binT : Nat → Int → Int
  | 0, j => if j = 0 then 1 else 0
  | n + 1, j => binT n j + binT n (j - 1)
theorem binT_neg : ∀ (n : Nat) {j : Int}, j < 0 → binT n j = 0
  | 0, j, h => if_neg (by omega)
  | n + 1, j, h => by rw [binT, binT_neg n h, binT_neg n (by omega)]; rfl
theorem binT_out : ∀ (n : Nat) {j : Int}, n < j → binT n j = 0
  | 0, j, h => if_neg (by omega)
  | n + 1, j, h => by rw [binT, binT_out n (by omega), binT_out n (by omega)]; rfl
theorem binT_zero : ∀ n : Nat, binT n 0 = 1
  | 0 => rfl
  | n + 1 => by rw [binT, binT_zero n, binT_neg n (by omega)]; rfl
theorem binT_bd : ∀ (n : Nat) (j : Int), 0 ≤ binT n j ∧ binT n j ≤ 2 ^ n
  | 0, j => by unfold binT; split <;> decide
  | n + 1, j => by
    have h1 := binT_bd n j
    have h2 := binT_bd n (j - 1)
    rw [binT, Int.pow_succ]; omega
theorem ix_apl {a b : List Int} {j : Int} (h0 : 0 ≤ j) (h1 : j < a.length) : ix 0 (a ++ b) j = ix 0 a j := by
  unfold ix; simp only [List.getD]; rw [List.getElem?_append_left (by omega)]
theorem ix_apr {a b : List Int} : ix 0 (a ++ b) a.length = ix 0 b 0 := by
  unfold ix; simp only [List.getD]; rw [List.getElem?_append_right (by omega), show ((a.length : Int)).toNat - a.length = (0 : Int).toNat by omega]
theorem wt_snoc (l : List Int) (a : Int) : wt (l ++ [a]) = wt l + (if a ≠ 0 then 1 else 0) := by
  unfold wt
  rw [show (l ++ [a]).length = l.length + 1 by simp, dstTo, ix_nilI]
  congr 1
  · refine dstTo_congr _ fun i i0 i1 => ?_
    rw [ix_apl i0 (by omega)]
  · rw [ix_apr]
    rfl
theorem toNat_mul {a b : Int} (ha : 0 ≤ a) (hb : 0 ≤ b) : (a * b).toNat = a.toNat * b.toNat := by
  have : ((a * b).toNat : Int) = ((a.toNat * b.toNat : Nat) : Int) := by
    rw [Int.natCast_mul, Int.toNat_of_nonneg (Int.mul_nonneg ha hb), Int.toNat_of_nonneg ha, Int.toNat_of_nonneg hb]
  omega
theorem cnt_dgs {q : Int} (hq : 2 ≤ q) : ∀ (n : Nat) (j : Int), cntTo (fun v => wt (dgs q n v)) j (q ^ n).toNat = binT n j * (q - 1) ^ j.toNat
  | 0, j => by
    rw [Int.pow_zero]
    show (0 : Int) + (if wt [] = j then 1 else 0) = (if j = 0 then 1 else 0) * _
    have : wt [] = 0 := rfl
    rw [this]
    by_cases h : j = 0
    · rw [if_pos h.symm, if_pos h, h]; simp
    · rw [if_neg (Ne.symm h), if_neg h]; simp
  | n + 1, j => by
    have i1 := cnt_dgs hq n j
    have i2 := cnt_dgs hq n (j - 1)
    rw [cnt_smT] at i1 i2 ⊢
    have hp : 0 ≤ q ^ n := Int.pow_nonneg (by omega)
    rw [Int.pow_succ, toNat_mul hp (by omega), smT_mulN]
    have hin : ∀ v : Int, smT (fun z => if wt (dgs q (n + 1) (v * q.toNat + z)) = j then (1 : Int) else 0) q.toNat = (if wt (dgs q n v) = j then 1 else 0) + (q - 1) * (if wt (dgs q n v) = j - 1 then 1 else 0) := fun v => by
      have e1 : q.toNat = 1 + (q - 1).toNat := by omega
      have e2 : ((q.toNat : Nat) : Int) = q := by omega
      rw [e2]
      rw [e1, smT_app]
      congr 1
      · show (0 : Int) + (if wt (dgs q (n + 1) (v * q + ((0 : Nat) : Int))) = j then 1 else 0) = _
        have e0 : wt (dgs q (n + 1) (v * q + ((0 : Nat) : Int))) = wt (dgs q n v) := by
          rw [dgs_next (by omega) (by omega), wt_snoc]; simp
        rw [e0, Int.zero_add]
      · have : smT (fun i => if wt (dgs q (n + 1) (v * q + (((1 : Nat) : Int) + i))) = j then (1 : Int) else 0) (q - 1).toNat = smT (fun _ => if wt (dgs q n v) = j - 1 then 1 else 0) (q - 1).toNat := smT_congr fun i i0 i1 => by
          have e0 : wt (dgs q (n + 1) (v * q + (((1 : Nat) : Int) + i))) = wt (dgs q n v) + 1 := by
            rw [dgs_next (by omega) (by omega), wt_snoc, if_pos (by omega)]
          rw [e0]
          by_cases h : wt (dgs q n v) = j - 1
          · rw [if_pos h, if_pos (by omega)]
          · rw [if_neg h, if_neg (by omega)]
        rw [this, smT_const, Int.toNat_of_nonneg (by omega)]
    rw [smT_congr fun v _ _ => hin v, smT_add, smT_mul, i1, i2, binT, Int.add_mul]
    congr 1
    by_cases h : 1 ≤ j
    · rw [show j.toNat = (j - 1).toNat + 1 by omega, Int.pow_succ, Int.mul_left_comm, Int.mul_comm ((q - 1) ^ (j - 1).toNat)]
    · rw [binT_neg n (by omega)]; simp
def spK (P : List Int) : Nat → Int
  | 0 => 0
  | i + 1 => if spK P i < P.length ∧ ix 0 P (spK P i) = i then spK P i + 1 else spK P i
def spJ (P : List Int) (R : Int) : Nat → Int
  | 0 => 0
  | i + 1 => if spK P i < P.length ∧ ix 0 P (spK P i) = i then spJ P R i else if spJ P R i < R then spJ P R i + 1 else spJ P R i
def spO (P d : List Int) (n : Int) : Nat → List Int
  | 0 => List.replicate n.toNat 0
  | i + 1 => if spK P i < P.length ∧ ix 0 P (spK P i) = i then spO P d n i else if spJ P d.length i < d.length then (spO P d n i).set i (ix 0 d (spJ P d.length i)) else spO P d n i
def sprd (n : Int) (P d : List Int) : List Int := spO P d n n.toNat
@[simp] theorem length_spO (P d : List Int) (n : Int) : ∀ i : Nat, (spO P d n i).length = n.toNat
  | 0 => List.length_replicate
  | i + 1 => by
    unfold spO
    split
    · exact length_spO P d n i
    · split
      · rw [List.length_set]; exact length_spO P d n i
      · exact length_spO P d n i
theorem spK_bd (P : List Int) : ∀ i : Nat, 0 ≤ spK P i ∧ spK P i ≤ i ∧ spK P i ≤ P.length
  | 0 => by simp [spK]
  | i + 1 => by
    have := spK_bd P i
    unfold spK
    split <;> omega
theorem spJ_bd (P : List Int) {R : Int} (hR : 0 ≤ R) : ∀ i : Nat, 0 ≤ spJ P R i ∧ spJ P R i ≤ i ∧ spJ P R i ≤ R
  | 0 => by simp [spJ]; exact hR
  | i + 1 => by
    have := spJ_bd P hR i
    unfold spJ
    split
    · omega
    · split <;> omega
theorem spJ_eq (P : List Int) {R : Int} (hR : 0 ≤ R) : ∀ i : Nat, spJ P R i = min ((i : Int) - spK P i) R
  | 0 => by show (0 : Int) = min (((0 : Nat) : Int) - 0) R; omega
  | i + 1 => by
    have h1 := spJ_eq P hR i
    have h2 := spK_bd P i
    by_cases hp : spK P i < P.length ∧ ix 0 P (spK P i) = i
    · have e1 : spJ P R (i + 1) = spJ P R i := if_pos hp
      have e2 : spK P (i + 1) = spK P i + 1 := if_pos hp
      omega
    · have e1 : spJ P R (i + 1) = if spJ P R i < R then spJ P R i + 1 else spJ P R i := if_neg hp
      have e2 : spK P (i + 1) = spK P i := if_neg hp
      split at e1 <;> omega
section
variable {P : List Int} (hi : ∀ a b : Int, 0 ≤ a → a < b → b < P.length → ix 0 P a < ix 0 P b) (h0 : ∀ a : Int, 0 ≤ a → a < P.length → 0 ≤ ix 0 P a)
include hi h0
theorem spK_spec : ∀ i : Nat, (∀ a : Int, 0 ≤ a → a < spK P i → ix 0 P a < i) ∧ (∀ a : Int, spK P i ≤ a → a < P.length → (i : Int) ≤ ix 0 P a)
  | 0 => ⟨fun a a0 a1 => by have : a < 0 := a1; omega, fun a a0 a1 => by have : (0 : Int) ≤ a := a0; have := h0 a this a1; omega⟩
  | i + 1 => by
    obtain ⟨g1, g2⟩ := spK_spec i
    have hb := spK_bd P i
    unfold spK
    split
    · rename_i h
      refine ⟨fun a a0 a1 => ?_, fun a a0 a1 => ?_⟩
      · by_cases e : a = spK P i
        · rw [e, h.2]; omega
        · have := g1 a a0 (by omega); omega
      · have := hi (spK P i) a hb.1 (by omega) a1
        rw [h.2] at this; omega
    · rename_i h
      refine ⟨fun a a0 a1 => by have := g1 a a0 a1; omega, fun a a0 a1 => ?_⟩
      have g := g2 a a0 a1
      by_cases e : ix 0 P a = i
      · exfalso
        by_cases ea : a = spK P i
        · exact h ⟨by omega, by rw [← ea]; exact e⟩
        · have := hi (spK P i) a hb.1 (by omega) a1
          have := g2 (spK P i) (Int.le_refl _) (by omega)
          omega
      · omega
theorem spK_piv {a : Int} (a0 : 0 ≤ a) (a1 : a < P.length) : spK P (ix 0 P a).toNat = a := by
  have hp := h0 a a0 a1
  obtain ⟨g1, g2⟩ := spK_spec hi h0 (ix 0 P a).toNat
  have hb := spK_bd P (ix 0 P a).toNat
  have n1 : ¬ a < spK P (ix 0 P a).toNat := fun h => by have := g1 a a0 h; omega
  have n2 : ¬ spK P (ix 0 P a).toNat < a := fun h => by
    have := hi _ a hb.1 h a1
    have := g2 _ (Int.le_refl _) (by omega)
    omega
  omega
theorem spK_all {n : Int} (hn : ∀ a : Int, 0 ≤ a → a < P.length → ix 0 P a < n) : spK P n.toNat = P.length := by
  obtain ⟨g1, g2⟩ := spK_spec hi h0 n.toNat
  have hb := spK_bd P n.toNat
  apply Classical.byContradiction
  intro hne
  have := hn (spK P n.toNat) hb.1 (by omega)
  have := g2 (spK P n.toNat) (Int.le_refl _) (by omega)
  omega
end
theorem ix_spO {P d : List Int} {n : Int} : ∀ (i : Nat) {b : Int}, (i : Int) ≤ n → 0 ≤ b → ix 0 (spO P d n i) b = if b < i ∧ ¬ (spK P b.toNat < P.length ∧ ix 0 P (spK P b.toNat) = b) ∧ spJ P d.length b.toNat < d.length then ix 0 d (spJ P d.length b.toNat) else 0
  | 0, b, hn, b0 => by rw [if_neg (by omega)]; exact ix_zeros _ _
  | i + 1, b, hn, b0 => by
    have ih := ix_spO (P := P) (d := d) (n := n) i (b := b) (by omega) b0
    unfold spO
    by_cases hp : spK P i < P.length ∧ ix 0 P (spK P i) = i
    · rw [if_pos hp, ih]
      by_cases hb : b = i
      · rw [if_neg (by omega), if_neg]
        intro h
        apply h.2.1
        rw [show b.toNat = i by omega, hb]; exact hp
      · congr 1; exact propext ⟨fun h => ⟨by omega, h.2⟩, fun h => ⟨by omega, h.2⟩⟩
    · rw [if_neg hp]
      by_cases hj : spJ P d.length i < d.length
      · rw [if_pos hj]
        have hl := length_spO P d n i
        have := ix_set (spO P d n i) (i := (i : Int)) (j := b) (v := ix 0 d (spJ P d.length i)) (by omega) (by omega) b0
        rw [show ((i : Int)).toNat = i by omega] at this
        rw [this]
        by_cases hb : (i : Int) = b
        · have e : b.toNat = i := by omega
          rw [if_pos hb, e, if_pos ⟨by omega, by rw [← hb]; exact hp, hj⟩]
        · rw [if_neg hb, ih]
          congr 1; exact propext ⟨fun h => ⟨by omega, h.2⟩, fun h => ⟨by omega, h.2⟩⟩
      · rw [if_neg hj, ih]
        by_cases hb : b = i
        · have e : b.toNat = i := by omega
          rw [if_neg (by omega), if_neg (by rw [e]; exact fun h => hj h.2.2)]
        · congr 1; exact propext ⟨fun h => ⟨by omega, h.2⟩, fun h => ⟨by omega, h.2⟩⟩
theorem spJ_sur {P : List Int} {R : Int} : ∀ (i : Nat) {t : Int}, 0 ≤ t → t < spJ P R i → ∃ b : Int, 0 ≤ b ∧ b < i ∧ ¬ (spK P b.toNat < P.length ∧ ix 0 P (spK P b.toNat) = b) ∧ spJ P R b.toNat < R ∧ spJ P R b.toNat = t
  | 0, t, t0, t1 => by have : t < 0 := t1; omega
  | i + 1, t, t0, t1 => by
    have ih := spJ_sur (P := P) (R := R) i (t := t) t0
    unfold spJ at t1
    by_cases hp : spK P i < P.length ∧ ix 0 P (spK P i) = i
    · rw [if_pos hp] at t1
      obtain ⟨b, b0, b1, b2⟩ := ih t1
      exact ⟨b, b0, by omega, b2⟩
    · rw [if_neg hp] at t1
      by_cases hj : spJ P R i < R
      · rw [if_pos hj] at t1
        by_cases ht : t = spJ P R i
        · exact ⟨i, by omega, by omega, by rw [show ((i : Int)).toNat = i by omega]; exact hp, by rw [show ((i : Int)).toNat = i by omega]; exact hj, by rw [show ((i : Int)).toNat = i by omega, ht]⟩
        · obtain ⟨b, b0, b1, b2⟩ := ih (by omega)
          exact ⟨b, b0, by omega, b2⟩
      · rw [if_neg hj] at t1
        obtain ⟨b, b0, b1, b2⟩ := ih t1
        exact ⟨b, b0, by omega, b2⟩
@[simp] theorem length_sprd (n : Int) (P d : List Int) : (sprd n P d).length = n.toNat := length_spO _ _ _ _
theorem sprd_out {f : Fld} (hS : Shape f) {n : Int} (hn : 0 ≤ n) {P d : List Int} (hd : ¬ outF f d) : ¬ outF f (sprd n P d) := by
  have hb := hS.bd
  rintro ⟨x, hx, hne⟩
  obtain ⟨z, z0, z1, rfl⟩ := mem_ix 0 hx
  apply hne
  rw [length_sprd] at z1
  unfold sprd
  rw [ix_spO n.toNat (by omega) z0]
  split
  · exact ix_ok hS hd _
  · omega
theorem sprd_piv {n : Int} {P d : List Int} (hi : ∀ a b : Int, 0 ≤ a → a < b → b < P.length → ix 0 P a < ix 0 P b) (h0 : ∀ a : Int, 0 ≤ a → a < P.length → 0 ≤ ix 0 P a) (hn : 0 ≤ n) {a : Int} (a0 : 0 ≤ a) (a1 : a < P.length) : ix 0 (sprd n P d) (ix 0 P a) = 0 := by
  unfold sprd
  rw [ix_spO n.toNat (by omega) (h0 a a0 a1), if_neg]
  intro h
  apply h.2.1
  rw [spK_piv hi h0 a0 a1]
  exact ⟨a1, rfl⟩
theorem sprd_inj {n : Int} {P d d' : List Int} (hi : ∀ a b : Int, 0 ≤ a → a < b → b < P.length → ix 0 P a < ix 0 P b) (h0 : ∀ a : Int, 0 ≤ a → a < P.length → 0 ≤ ix 0 P a) (hn : ∀ a : Int, 0 ≤ a → a < P.length → ix 0 P a < n)
    (hd : (P.length : Int) + d.length = n) (hl : d.length = d'.length) (e : sprd n P d = sprd n P d') : d = d' := by
  have hall := spK_all hi h0 hn
  have hJ := spJ_eq P (R := (d.length : Int)) (by omega) n.toNat
  refine ext_ix 0 hl fun t t0 t1 => ?_
  obtain ⟨b, b0, b1, b2, b3, b4⟩ := spJ_sur (P := P) (R := (d.length : Int)) n.toNat (t := t) t0 (by omega)
  have e1 := ix_spO (P := P) (d := d) (n := n) n.toNat (b := b) (by omega) b0
  have e2 := ix_spO (P := P) (d := d') (n := n) n.toNat (b := b) (by omega) b0
  rw [if_pos ⟨b1, b2, b3⟩, b4] at e1
  rw [← hl, if_pos ⟨b1, b2, b3⟩, b4] at e2
  rw [← e1, ← e2]
  exact congrArg (fun l => ix 0 l b) e
theorem vadd_vneg {f : Fld} (h : FOk f) (y : List Int) : vadd f y (vneg f y) = List.replicate y.length 0 := by
  refine kv_ext h (vadd_out h.1 _ _) (notOut_zero h.1 _) (by simp) fun j _ => ?_
  rw [kv_vadd h (by simp), kv_vneg, kv_zeros, Fi.add_neg]
theorem wt_vsub {f : Fld} (h : FOk f) {x y : List Int} (hx : ¬ outF f x) (hy : ¬ outF f y) (hl : x.length = y.length) : wt (vadd f x (vneg f y)) = dst x y := by
  rw [← dst_vadd h hx hy hl (u := vneg f y), vadd_vneg h]
  exact (dst_zeros (by simp; omega)).symm
/-- The word that stands for a coset. -/
noncomputable def cosW (c : Cod) (i : Int) : List Int := sprd c.N (canP c.F c.m) (dgs c.F.q (dua c).Gen.length i)
namespace COk
variable {c : Cod}
theorem cosW_len (h : COk c) (i : Int) : ((cosW c i).length : Int) = c.N := by have := h.n1; unfold cosW; rw [length_sprd]; omega
theorem cosW_out (h : COk c) (i : Int) : ¬ outF c.F (cosW c i) := sprd_out h.fld.1 (by have := h.n1; omega) (dgs_out h.fld.1 _ _)
theorem cosW_wrd (h : COk c) (i : Int) : wrdE c (cosW c i) = 0 := wrdE_zero.2 ⟨h, h.cosW_len i, h.cosW_out i⟩
noncomputable def paiW (c : Cod) (t : Int) : List Int := vadd c.F (c.w (t % c.n)) (vneg c.F (cosW c (t / c.n)))
theorem pos_n (h : COk c) : 0 < (c.n : Int) := by
  have := Int.pow_pos (n := c.F.q) (m := c.Gen.length) (by have := h.q2; omega)
  have := h.cn; omega
theorem pai_inj (h : COk c) {t u : Int} (t0 : 0 ≤ t) (t1 : t < c.F.q ^ (Go.Cw.dua c).Gen.length * c.n) (u0 : 0 ≤ u) (u1 : u < c.F.q ^ (Go.Cw.dua c).Gen.length * c.n) (e : paiW c t = paiW c u) : t = u := by
  have hq := h.q2
  have hn := h.pos_n
  have hN := h.n1
  have hcn := h.cn
  have hP := h.plen
  have hdd := h.dim_dua
  have hrng := h.canf.rng
  have hinc := h.canf.inc
  have mt := Int.emod_nonneg t (show (c.n : Int) ≠ 0 by omega)
  have mu := Int.emod_nonneg u (show (c.n : Int) ≠ 0 by omega)
  have lt := Int.emod_lt_of_pos t hn
  have lu := Int.emod_lt_of_pos u hn
  have hw : t % c.n = u % c.n := by
    refine dgs_inj hq c.Gen.length mt (by omega) mu (by omega) (ext_ix 0 (by simp) fun i i0 i1 => ?_)
    rw [length_dgs] at i1
    have hr := hrng i i0 (by omega)
    rw [← h.comb_piv (length_dgs _ _ _) (dgs_out h.fld.1 _ _) i0 i1, ← h.comb_piv (length_dgs _ _ _) (dgs_out h.fld.1 _ _) i0 i1]
    have hz : ∀ v : Int, ix 0 (cosW c v) (ix 0 (canP c.F c.m) i) = 0 := fun v => sprd_piv (fun a b a0 ab b1 => hinc a b a0 ab b1) (fun a a0 a1 => (hrng a a0 a1).1) (by omega) i0 (by omega)
    have hv : ∀ v : Int, ix 0 (paiW c v) (ix 0 (canP c.F c.m) i) = ix 0 (c.w (v % c.n)) (ix 0 (canP c.F c.m) i) := fun v => by
      have r1 := ix_ok h.fld.1 (h.wd_out (v % c.n)) (ix 0 (canP c.F c.m) i)
      have r2 := h.fld.1.addF_lt (ix 0 (c.w (v % c.n)) (ix 0 (canP c.F c.m) i)) (negF c.F 0)
      unfold paiW
      rw [ix_vadd hr.1 (by rw [h.wl]; have := hr.2; show ix 0 (canP c.F c.m) i < (c.N.toNat : Int); have e3 : c.m.cols = c.N := rfl; omega), ix_vneg hr.1 (by have := h.cosW_len (v / c.n); have := hr.2; have e3 : c.m.cols = c.N := rfl; omega), hz (v / c.n)]
      refine ke_inj h.fld r2.1 r2.2 r1.1 r1.2 ?_
      rw [ke_add, ke_neg, ke_zero, Fi.neg_zero, Fi.add_zero]
    have := congrArg (fun l => ix 0 l (ix 0 (canP c.F c.m) i)) e
    simp only [hv] at this
    exact this
  have hs : vneg c.F (cosW c (t / c.n)) = vneg c.F (cosW c (u / c.n)) := by
    have lc : ∀ v : Int, (cosW c v).length = c.N.toNat := fun v => by unfold cosW; exact length_sprd _ _ _
    refine ext_ix 0 (by rw [length_vneg, length_vneg, lc, lc]) fun i i0 i1 => ?_
    rw [length_vneg, lc] at i1
    have r1 := ix_ok h.fld.1 (vneg_out h.fld.1 (cosW c (t / c.n))) i
    have r2 := ix_ok h.fld.1 (vneg_out h.fld.1 (cosW c (u / c.n))) i
    have := congrArg (fun l => ix 0 l i) e
    have li : ∀ v : Int, i < ((c.w v).length : Int) := fun v => by rw [h.wl]; omega
    unfold paiW at this
    simp only [ix_vadd i0 (li _), hw, h.fld.1.addF_comm (ix 0 (c.w (u % c.n)) i)] at this
    exact addF_cancel h.fld r1.1 r1.2 r2.1 r2.2 this
  have hc := vneg_cancel h.fld (h.cosW_out _) (h.cosW_out _) (by have := h.cosW_len (t / c.n); have := h.cosW_len (u / c.n); omega) hs
  have hd := sprd_inj (n := c.N) (fun a b a0 ab b1 => hinc a b a0 ab b1) (fun a a0 a1 => (hrng a a0 a1).1) (fun a a0 a1 => by have := (hrng a a0 a1).2; have e3 : c.m.cols = c.N := rfl; omega) (by rw [length_dgs, hP]; omega) (by simp) hc
  have hi : t / c.n = u / c.n := dgs_inj hq _ (Int.ediv_nonneg t0 (by omega)) ((Int.ediv_lt_iff_lt_mul hn).2 t1) (Int.ediv_nonneg u0 (by omega)) ((Int.ediv_lt_iff_lt_mul hn).2 u1) hd
  rw [← Int.mul_ediv_add_emod t c.n, ← Int.mul_ediv_add_emod u c.n, hw, hi]
theorem tot_n (h : COk c) : (c.F.q ^ (Go.Cw.dua c).Gen.length).toNat * c.n = (c.F.q ^ c.N.toNat).toNat := by
  have hq := h.q2
  have hdd := h.dim_dua
  have hcn := h.cn
  have hp : 0 ≤ c.F.q ^ (Go.Cw.dua c).Gen.length := Int.pow_nonneg (by omega)
  have e : c.n = (c.F.q ^ c.Gen.length).toNat := by omega
  rw [e, ← toNat_mul hp (Int.pow_nonneg (by omega)), ← Int.pow_add, show (Go.Cw.dua c).Gen.length + c.Gen.length = c.N.toNat by omega]
/-- The cosets share out all words. -/
theorem partition (h : COk c) (hs : sizE c = 0) {j : Int} (j0 : 0 ≤ j) (j1 : j < c.N + 1) : smT (fun i => ix 0 (coL c (cosW c i)) j) (c.F.q ^ (Go.Cw.dua c).Gen.length).toNat = binT c.N.toNat j * (c.F.q - 1) ^ j.toNat := by
  have hq := h.q2
  have hn := h.pos_n
  have hN := h.n1
  have htot := h.tot_n
  have hp : 0 ≤ c.F.q ^ (Go.Cw.dua c).Gen.length := Int.pow_nonneg (by omega)
  have e1 : smT (fun i => ix 0 (coL c (cosW c i)) j) (c.F.q ^ (Go.Cw.dua c).Gen.length).toNat = cntTo (fun t => wt (paiW c t)) j (c.F.q ^ c.N.toNat).toNat := by
    rw [cnt_smT, ← htot, smT_mulN]
    refine smT_congr fun i i0 i1 => ?_
    have hne : neE c (cosW c i) = 0 := ne_zero.2 ⟨h.cosW_wrd i, hs⟩
    unfold coL
    rw [if_pos hne, ix_hisTo (fun z _ _ => dst_rng h _ z) j0 j1, cnt_smT]
    refine smT_congr fun z z0 z1 => ?_
    have d1 : (i * c.n + z) % c.n = z := by rw [Int.add_comm, Int.add_mul_emod_self_right, Int.emod_eq_of_lt z0 z1]
    have d2 : (i * c.n + z) / c.n = i := by rw [Int.add_comm, Int.add_mul_ediv_right _ _ (by omega), Int.ediv_eq_zero_of_lt z0 z1, Int.zero_add]
    unfold paiW
    rw [d1, d2, wt_vsub h.fld (h.wd_out z) (h.cosW_out i) (by rw [h.wl]; have := h.cosW_len i; omega)]
  have key : ∀ t : Int, 0 ≤ valD c.F.q (paiW c t) ∧ valD c.F.q (paiW c t) < c.F.q ^ c.N.toNat ∧ dgs c.F.q c.N.toNat (valD c.F.q (paiW c t)) = paiW c t := fun t =>
    valD_dgs hq c.N.toNat _ (by unfold paiW; rw [length_vadd, h.wl]) fun x hx => outF_no (vadd_out h.fld.1 _ _) hx
  have hpN : 0 ≤ c.F.q ^ c.N.toNat := Int.pow_nonneg (by omega)
  have ht2 : ((c.F.q ^ c.N.toNat).toNat : Int) = c.F.q ^ (Go.Cw.dua c).Gen.length * c.n := by
    rw [← htot, Int.natCast_mul, Int.toNat_of_nonneg hp]
  have hperm : PermN (fun t => valD c.F.q (paiW c t)) (c.F.q ^ c.N.toNat).toNat := by
    refine ⟨fun t _ _ => ⟨(key t).1, by have := (key t).2.1; show valD c.F.q (paiW c t) < _; omega⟩, fun t u t0 t1 u0 u1 e => ?_⟩
    refine h.pai_inj t0 (by omega) u0 (by omega) ?_
    rw [← (key t).2.2, ← (key u).2.2]
    exact congrArg (dgs c.F.q c.N.toNat) e
  rw [e1, ← cnt_dgs hq, ← hperm.cnt (fun v => wt (dgs c.F.q c.N.toNat v))]
  exact cnt_congr fun t _ _ => by rw [(key t).2.2]
end COk
end Go.Cw


set_option linter.unusedVariables false
set_option linter.unusedSimpArgs false
set_option linter.unusedSectionVars false
namespace Go.Cw
def ld : List Int → Int
  | [] => 0
  | x :: l => if x = 0 then ld l + 1 else 0
theorem ld_eq : ∀ {l : List Int} {i : Int}, 0 ≤ i → i ≤ l.length → (∀ z : Int, 0 ≤ z → z < i → ix 0 l z = 0) → ¬ (i < l.length ∧ ix 0 l i = 0) → ld l = i
  | [], i, h0, h1, _, _ => by
    have h : i ≤ 0 := h1
    show (0 : Int) = i
    omega
  | x :: l, i, h0, h1, hz, hn => by
    have hs : ∀ z : Int, 0 ≤ z → ix 0 (x :: l) (z + 1) = ix 0 l z := fun z z0 => by
      unfold ix; rw [show (z + 1).toNat = z.toNat + 1 by omega]; rfl
    have hx : ix 0 (x :: l) 0 = x := rfl
    have hl : ((x :: l).length : Int) = l.length + 1 := by simp
    unfold ld
    by_cases hi : i = 0
    · rw [if_neg]
      · exact hi.symm
      · intro e
        apply hn
        rw [hi, hx, hl]
        exact ⟨by omega, e⟩
    · rw [if_pos (by rw [← hx]; exact hz 0 (Int.le_refl 0) (by omega)), ld_eq (l := l) (i := i - 1) (by omega) (by omega) (fun z z0 z1 => by rw [← hs z z0]; exact hz _ (by omega) (by omega)) (fun h => hn ⟨by omega, by have := hs (i - 1) (by omega); rw [show i - 1 + 1 = i by omega] at this; rw [this]; exact h.2⟩)]
      omega
def pvL (X : List (List Int)) : List Int := mapR (fun z => ld (ix [] X z)) X.length
theorem COk.pvL_can {c : Cod} (h : COk c) : pvL c.Gen = canP c.F c.m := by
  have hp := h.plen
  refine ext_ix 0 (by unfold pvL; rw [length_mapR]; omega) fun i i0 i1 => ?_
  have i1' : i < c.Gen.length := by unfold pvL at i1; rw [length_mapR] at i1; omega
  unfold pvL
  rw [ix_mapR 0 _ i0 i1']
  have hr := h.canf.rng i i0 (by omega)
  have hrow := h.row i0 i1'
  have e3 : c.m.cols = c.N := rfl
  have hl := h.canf.lead i
  have he := h.canf.ent i i i0 (by omega) i0 (by omega)
  rw [h.can] at he
  refine ld_eq hr.1 (by omega) (fun z z0 z1 => by have := hl z i0 (by omega) z0 z1; rwa [h.can] at this) (fun hh => ?_)
  rw [he, if_pos rfl] at hh
  exact absurd hh.2 (by decide)
section
variable {P d : List Int} {n R i : Int} (h0 : 0 ≤ i)
include h0
theorem sp_cast : ((i.toNat : Nat) : Int) = i := by omega
theorem spK_yes (h : spK P i.toNat < P.length ∧ ix 0 P (spK P i.toNat) = i) : spK P (i + 1).toNat = spK P i.toNat + 1 := by
  rw [show (i + 1).toNat = i.toNat + 1 by omega, spK, if_pos (by rw [sp_cast h0]; exact h)]
theorem spK_no (h : ¬ (spK P i.toNat < P.length ∧ ix 0 P (spK P i.toNat) = i)) : spK P (i + 1).toNat = spK P i.toNat := by
  rw [show (i + 1).toNat = i.toNat + 1 by omega, spK, if_neg (by rw [sp_cast h0]; exact h)]
theorem spJ_piv (h : spK P i.toNat < P.length ∧ ix 0 P (spK P i.toNat) = i) : spJ P R (i + 1).toNat = spJ P R i.toNat := by
  rw [show (i + 1).toNat = i.toNat + 1 by omega, spJ, if_pos (by rw [sp_cast h0]; exact h)]
theorem spJ_add (h : ¬ (spK P i.toNat < P.length ∧ ix 0 P (spK P i.toNat) = i)) (h2 : spJ P R i.toNat < R) : spJ P R (i + 1).toNat = spJ P R i.toNat + 1 := by
  rw [show (i + 1).toNat = i.toNat + 1 by omega, spJ, if_neg (by rw [sp_cast h0]; exact h), if_pos h2]
theorem spJ_stay (h : ¬ (spK P i.toNat < P.length ∧ ix 0 P (spK P i.toNat) = i)) (h2 : ¬ spJ P R i.toNat < R) : spJ P R (i + 1).toNat = spJ P R i.toNat := by
  rw [show (i + 1).toNat = i.toNat + 1 by omega, spJ, if_neg (by rw [sp_cast h0]; exact h), if_neg h2]
theorem spO_piv (h : spK P i.toNat < P.length ∧ ix 0 P (spK P i.toNat) = i) : spO P d n (i + 1).toNat = spO P d n i.toNat := by
  rw [show (i + 1).toNat = i.toNat + 1 by omega, spO, if_pos (by rw [sp_cast h0]; exact h)]
theorem spO_set (h : ¬ (spK P i.toNat < P.length ∧ ix 0 P (spK P i.toNat) = i)) (h2 : spJ P d.length i.toNat < d.length) : spO P d n (i + 1).toNat = (spO P d n i.toNat).set i.toNat (ix 0 d (spJ P d.length i.toNat)) := by
  rw [show (i + 1).toNat = i.toNat + 1 by omega, spO, if_neg (by rw [sp_cast h0]; exact h), if_pos h2]
theorem spO_stay (h : ¬ (spK P i.toNat < P.length ∧ ix 0 P (spK P i.toNat) = i)) (h2 : ¬ spJ P d.length i.toNat < d.length) : spO P d n (i + 1).toNat = spO P d n i.toNat := by
  rw [show (i + 1).toNat = i.toNat + 1 by omega, spO, if_neg (by rw [sp_cast h0]; exact h), if_neg h2]
end
def bnR (n m : Int) : List Int := mapR (fun z => binT m.toNat z) (n + 1)
def bnL (n m k : Int) : List Int := mapR (fun z => if k < z then binT m.toNat z else binT (m - 1).toNat z) (n + 1)
@[simp] theorem length_bnR (n m : Int) : (bnR n m).length = (n + 1).toNat := length_mapR _ _
@[simp] theorem length_bnL (n m k : Int) : (bnL n m k).length = (n + 1).toNat := length_mapR _ _
theorem binT_step {m : Int} (hm : 1 ≤ m) (z : Int) : binT m.toNat z = binT (m - 1).toNat z + binT (m - 1).toNat (z - 1) := by
  rw [show m.toNat = (m - 1).toNat + 1 by omega]; rfl
theorem bnR_zero {n : Int} (hn : 0 ≤ n) : (List.replicate (n + 1).toNat (0 : Int)).set 0 1 = bnR n 0 := by
  refine ext_ix 0 (by simp) fun i i0 i1 => ?_
  have hl : (List.replicate (n + 1).toNat (0 : Int)).length = (n + 1).toNat := List.length_replicate
  rw [List.length_set, hl] at i1
  have := ix_set (List.replicate (n + 1).toNat (0 : Int)) (i := 0) (j := i) (v := 1) (Int.le_refl 0) (by omega) i0
  rw [show ((0 : Int)).toNat = 0 from rfl] at this
  rw [this]
  unfold bnR
  rw [ix_mapR 0 _ i0 (by omega), ix_zeros]
  show _ = if i = 0 then (1 : Int) else 0
  by_cases h : i = 0
  · rw [if_pos h.symm, if_pos h]
  · rw [if_neg (Ne.symm h), if_neg h]
theorem bnL_top {n m : Int} (hm : 1 ≤ m) : bnR n (m - 1) = bnL n m m := by
  refine ext_ix 0 (by simp) fun i i0 i1 => ?_
  rw [length_bnR] at i1
  unfold bnR bnL
  rw [ix_mapR 0 _ i0 (by omega), ix_mapR 0 _ i0 (by omega)]
  split
  · rw [binT_out _ (by omega), binT_out _ (by omega)]
  · rfl
theorem bnL_end {n m k : Int} (hm : 1 ≤ m) (hk0 : 0 ≤ k) (hk : k < 1) : bnL n m k = bnR n m := by
  refine ext_ix 0 (by simp) fun i i0 i1 => ?_
  rw [length_bnL] at i1
  unfold bnR bnL
  rw [ix_mapR 0 _ i0 (by omega), ix_mapR 0 _ i0 (by omega)]
  split
  · rfl
  · rw [show i = 0 by omega, binT_zero, binT_zero]
theorem ix_bnL {n m k : Int} (hk : 0 ≤ k) (hkn : k ≤ n) : ix 0 (bnL n m k) k = binT (m - 1).toNat k := by
  unfold bnL; rw [ix_mapR 0 _ hk (by omega), if_neg (by omega)]
theorem ix_bnL' {n m k : Int} (hk : 1 ≤ k) (hkn : k ≤ n) : ix 0 (bnL n m k) (k - 1) = binT (m - 1).toNat (k - 1) := by
  unfold bnL; rw [ix_mapR 0 _ (by omega) (by omega), if_neg (by omega)]
theorem bnL_step {n m k : Int} (hm : 1 ≤ m) (hk : 1 ≤ k) (hkn : k ≤ n) : (bnL n m k).set k.toNat (ix 0 (bnL n m k) k + ix 0 (bnL n m k) (k - 1)) = bnL n m (k - 1) := by
  rw [ix_bnL (by omega) hkn, ix_bnL' hk hkn]
  refine ext_ix 0 (by simp) fun i i0 i1 => ?_
  rw [List.length_set, length_bnL] at i1
  rw [ix_set (bnL n m k) (by omega) (by rw [length_bnL]; omega) i0]
  unfold bnL
  rw [ix_mapR 0 _ i0 (by omega), ix_mapR 0 _ i0 (by omega)]
  by_cases h : k = i
  · rw [if_pos h, if_pos (by omega), ← h, binT_step hm]
  · rw [if_neg h]
    by_cases h2 : k < i
    · rw [if_pos h2, if_pos (by omega)]
    · rw [if_neg h2, if_neg (by omega)]
theorem ix_bnR {n m k : Int} (hk : 0 ≤ k) (hkn : k ≤ n) : ix 0 (bnR n m) k = binT m.toNat k := by
  unfold bnR; rw [ix_mapR 0 _ hk (by omega)]
theorem binT_small {m k : Int} (hm : m ≤ 60) : 0 ≤ binT m.toNat k ∧ binT m.toNat k ≤ 1152921504606846976 := by
  have h := binT_bd m.toNat k
  have h2 := pow_mono_of 2 (Int.le_refl 2) (show m.toNat ≤ 60 by omega)
  have h3 : (2 : Int) ^ 60 = 1152921504606846976 := by decide
  omega
noncomputable def totL (c : Cod) (i : Int) : List Int := mapR (fun j => smT (fun t => ix 0 (coL c (cosW c t)) j) i.toNat) (c.N + 1)
@[simp] theorem length_totL (c : Cod) (i : Int) : (totL c i).length = (c.N + 1).toNat := length_mapR _ _
theorem totL_zero (c : Cod) : List.replicate (c.N + 1).toNat (0 : Int) = totL c 0 := by
  refine ext_ix 0 (by simp) fun i i0 i1 => ?_
  have hl : (List.replicate (c.N + 1).toNat (0 : Int)).length = (c.N + 1).toNat := List.length_replicate
  unfold totL
  rw [ix_zeros, ix_mapR 0 _ i0 (by omega)]
  rfl
theorem ix_totL {c : Cod} {i j : Int} (j0 : 0 ≤ j) (j1 : j < c.N + 1) : ix 0 (totL c i) j = smT (fun t => ix 0 (coL c (cosW c t)) j) i.toNat := ix_mapR 0 _ j0 j1
theorem totL_set {c : Cod} {i j : Int} (i0 : 0 ≤ i) (j0 : 0 ≤ j) (j1 : j < c.N + 1) : (mixL (totL c (i + 1)) (totL c i) j).set j.toNat (ix 0 (mixL (totL c (i + 1)) (totL c i) j) j + ix 0 (coL c (cosW c i)) j) = mixL (totL c (i + 1)) (totL c i) (j + 1) := by
  refine mixL_set _ _ j0 (by rw [length_totL]; omega) (by simp) ?_
  rw [ix_mixL _ _ j0 (by rw [length_totL]; omega) (by simp), ix_totL j0 j1, ix_totL j0 j1, show (i + 1).toNat = i.toNat + 1 by omega, smT, show ((i.toNat : Nat) : Int) = i by omega]
theorem coL_facts {c : Cod} {y : List Int} (h : neE c y = 0) : ((coL c y).length : Int) = c.N + 1 ∧ ∀ j : Int, 0 ≤ j → j < c.N + 1 → 0 ≤ ix 0 (coL c y) j ∧ ix 0 (coL c y) j ≤ c.n := by
  obtain ⟨hw, hs⟩ := ne_zero.1 h
  obtain ⟨hk, hl, ho⟩ := wrdE_zero.1 hw
  have hn := hk.n1
  unfold coL
  rw [if_pos h]
  exact ⟨by rw [length_hisTo]; omega, fun j j0 j1 => his_bd (fun z _ _ => dst_rng hk _ z) j0 j1⟩
theorem tot_bd {c : Cod} (hk : COk c) (hs : sizE c = 0) {j : Int} (j0 : 0 ≤ j) (j1 : j < c.N + 1) : ∀ m : Nat, 0 ≤ smT (fun t => ix 0 (coL c (cosW c t)) j) m ∧ smT (fun t => ix 0 (coL c (cosW c t)) j) m ≤ m * c.n
  | 0 => ⟨Int.le_refl 0, by show (0 : Int) ≤ _; simp⟩
  | m + 1 => by
    have ih := tot_bd hk hs j0 j1 m
    have h := (coL_facts (ne_zero.2 ⟨hk.cosW_wrd m, hs⟩)).2 j j0 j1
    rw [smT, show ((m + 1 : Nat) : Int) = (m : Int) + 1 by omega, Int.add_mul, Int.one_mul]
    omega
theorem two_pow_le {q : Int} (hq : 2 ≤ q) : ∀ k : Nat, (2 : Int) ^ k ≤ q ^ k
  | 0 => by simp
  | k + 1 => by
    have h := two_pow_le hq k
    rw [Int.pow_succ, Int.pow_succ]
    exact Int.mul_le_mul h hq (by decide) (Int.pow_nonneg (by omega))
theorem exp_small {q : Int} (hq : 2 ≤ q) {k : Nat} (h : q ^ k ≤ 256) : k ≤ 8 := by
  apply Classical.byContradiction
  intro hn
  have h1 := pow_mono_of q hq (show 9 ≤ k by omega)
  have h2 := two_pow_le hq 9
  have h3 : (2 : Int) ^ 9 = 512 := by decide
  omega
theorem part_bd {q : Int} (hq : 2 ≤ q) (n : Nat) (j : Int) : 0 ≤ binT n j * (q - 1) ^ j.toNat ∧ binT n j * (q - 1) ^ j.toNat ≤ q ^ n := by
  have h := cntTo_bd (fun v => wt (dgs q n v)) j (q ^ n).toNat
  rw [cnt_dgs hq] at h
  have hp : 0 ≤ q ^ n := Int.pow_nonneg (by omega)
  omega
theorem pow_pred_le {q : Int} (hq : 2 ≤ q) : ∀ k : Nat, 0 ≤ (q - 1) ^ k ∧ (q - 1) ^ k ≤ q ^ k
  | 0 => by simp
  | k + 1 => by
    have h := pow_pred_le hq k
    rw [Int.pow_succ, Int.pow_succ]
    exact ⟨Int.mul_nonneg h.1 (by omega), Int.mul_le_mul h.2 (by omega) (by omega) (Int.pow_nonneg (by omega))⟩
/-- What the law on all cosets asks. -/
theorem all_bd {c : Cod} (hk : COk c) (hv : c.F.q ^ c.Gen.length ≤ 256) (hr : c.F.q ^ (dua c).Gen.length ≤ 256) : c.N ≤ 16 ∧ c.F.q ^ c.N.toNat ≤ 65536 := by
  have h1 := exp_small hk.q2 hv
  have h2 := exp_small hk.q2 hr
  have hdd := hk.dim_dua
  refine ⟨by omega, ?_⟩
  rw [show c.N.toNat = (dua c).Gen.length + c.Gen.length by omega, Int.pow_add]
  have := Int.mul_le_mul hr hv (Int.pow_nonneg (by have := hk.q2; omega)) (by decide)
  omega
end Go.Cw

