/-
  Plain facts.
-/
import Derived.Test.YtbofipdmoocflaaPlainJ1
set_option linter.unusedVariables false
set_option linter.unusedSimpArgs false
set_option linter.unusedSectionVars false
namespace Go.Cw
def smT (h : Int → Int) : Nat → Int
  | 0 => 0
  | k + 1 => smT h k + h k
theorem smT_congr {h h' : Int → Int} : ∀ {k : Nat}, (∀ i : Int, 0 ≤ i → i < k → h i = h' i) → smT h k = smT h' k
  | 0, _ => rfl
  | k + 1, e => by rw [smT, smT, smT_congr fun i h0 h1 => e i h0 (by omega), e k (by omega) (by omega)]
theorem smT_add (g h : Int → Int) : ∀ k : Nat, smT (fun i => g i + h i) k = smT g k + smT h k
  | 0 => rfl
  | k + 1 => by rw [smT, smT, smT, smT_add g h k]; omega
theorem smT_zero {h : Int → Int} {k : Nat} (e : ∀ i : Int, 0 ≤ i → i < k → h i = 0) : smT h k = 0 := by
  induction k with
  | zero => rfl
  | succ k ih => rw [smT, ih fun i h0 h1 => e i h0 (by omega), e k (by omega) (by omega)]; rfl
theorem smT_single (a v : Int) : ∀ (k : Nat), 0 ≤ v → smT (fun i => if v = i then a else 0) k = if v < k then a else 0
  | 0, h => by rw [if_neg (by omega)]; rfl
  | k + 1, h => by
    rw [smT, smT_single a v k h]
    by_cases e : v = k
    · rw [if_neg (by omega), if_pos e, if_pos (by omega)]; omega
    · rw [if_neg e]
      by_cases h2 : v < k
      · rw [if_pos h2, if_pos (by omega)]; omega
      · rw [if_neg h2, if_neg (by omega)]; rfl
theorem smT_le_one {h : Int → Int} : ∀ {n : Nat}, (∀ i : Int, 0 ≤ i → i < n → h i ≤ 1) → smT h n ≤ n
  | 0, _ => Int.le_refl _
  | n + 1, e => by
    have : smT h n ≤ n := smT_le_one (n := n) fun i h0 h1 => e i h0 (by omega)
    have h2 := e n (by omega) (by omega)
    rw [smT]; omega
theorem smT_all_one {h : Int → Int} : ∀ {n : Nat}, (∀ i : Int, 0 ≤ i → i < n → h i ≤ 1) → smT h n = n → ∀ i : Int, 0 ≤ i → i < n → h i = 1
  | 0, _, _, i, h0, h1 => by omega
  | n + 1, e, hs, i, h0, h1 => by
    have h2 := e n (by omega) (by omega)
    have h3 : smT h n ≤ n := smT_le_one (n := n) fun i h0 h1 => e i h0 (by omega)
    rw [smT] at hs
    by_cases hi : i = n
    · rw [hi]; omega
    · exact smT_all_one (n := n) (fun i h0 h1 => e i h0 (by omega)) (by omega) i h0 (by omega)
theorem cnt_smT (g : Int → Int) (j : Int) : ∀ k : Nat, cntTo g j k = smT (fun i => if g i = j then 1 else 0) k
  | 0 => rfl
  | k + 1 => by rw [cntTo, smT, cnt_smT g j k]
/-- An order of the first n. -/
structure PermN (p : Int → Int) (n : Nat) : Prop where
  rng : ∀ i : Int, 0 ≤ i → i < n → 0 ≤ p i ∧ p i < n
  inj : ∀ i j : Int, 0 ≤ i → i < n → 0 ≤ j → j < n → p i = p j → i = j
namespace PermN
variable {p : Int → Int} {n : Nat}
theorem le_one (h : PermN p n) (v : Int) : ∀ k : Nat, k ≤ n → cntTo p v k ≤ 1 ∧ (cntTo p v k = 1 → ∃ i : Int, 0 ≤ i ∧ i < k ∧ p i = v)
  | 0, _ => ⟨show (0 : Int) ≤ 1 by decide, fun h => absurd (show (0 : Int) = 1 from h) (by decide)⟩
  | k + 1, hk => by
    obtain ⟨h1, h2⟩ := h.le_one v k (by omega)
    have hb := cntTo_bd p v k
    unfold cntTo
    by_cases e : p k = v
    · rw [if_pos e]
      have h0 : cntTo p v k = 0 := by
        by_cases h3 : cntTo p v k = 1
        · obtain ⟨i, i0, i1, i2⟩ := h2 h3
          have := h.inj i k i0 (by omega) (by omega) (by omega) (by rw [i2, e])
          omega
        · omega
      rw [h0]
      exact ⟨by decide, fun _ => ⟨k, by omega, by omega, e⟩⟩
    · rw [if_neg e, Int.add_zero]
      exact ⟨h1, fun h3 => by obtain ⟨i, i0, i1, i2⟩ := h2 h3; exact ⟨i, i0, by omega, i2⟩⟩
theorem total (h : PermN p n) : ∀ k : Nat, k ≤ n → smT (fun v => cntTo p v k) n = k
  | 0, _ => smT_zero fun _ _ _ => rfl
  | k + 1, hk => by
    have hr := h.rng k (by omega) (by omega)
    show smT (fun v => cntTo p v k + (if p k = v then 1 else 0)) n = _
    rw [smT_add, h.total k (by omega), smT_single 1 (p k) n hr.1, if_pos hr.2]; omega
theorem one (h : PermN p n) : ∀ v : Int, 0 ≤ v → v < n → cntTo p v n = 1 :=
  smT_all_one (fun i _ _ => (h.le_one i n (Nat.le_refl _)).1) (h.total n (Nat.le_refl _))
theorem sum_to (h : PermN p n) (g : Int → Int) : ∀ k : Nat, k ≤ n → smT (fun i => g (p i)) k = smT (fun v => g v * cntTo p v k) n
  | 0, _ => (smT_zero fun _ _ _ => Int.mul_zero _).symm
  | k + 1, hk => by
    have hr := h.rng k (by omega) (by omega)
    have e : smT (fun v => g v * cntTo p v (k + 1)) n = smT (fun v => g v * cntTo p v k + (if p k = v then g (p k) else 0)) n := smT_congr fun v _ _ => by
      show g v * (cntTo p v k + (if p k = v then 1 else 0)) = _
      by_cases e : p k = v
      · rw [if_pos e, if_pos e, Int.mul_add, Int.mul_one, e]
      · rw [if_neg e, if_neg e, Int.add_zero, Int.add_zero]
    rw [e, smT_add, ← h.sum_to g k (by omega), smT_single (g (p k)) (p k) n hr.1, if_pos hr.2]; rfl
theorem sum (h : PermN p n) (g : Int → Int) : smT (fun i => g (p i)) n = smT g n := by
  rw [h.sum_to g n (Nat.le_refl _)]
  exact smT_congr fun v h0 h1 => by rw [h.one v h0 h1, Int.mul_one]
theorem cnt (h : PermN p n) (g : Int → Int) (j : Int) : cntTo (fun i => g (p i)) j n = cntTo g j n := by
  rw [cnt_smT, cnt_smT]
  exact h.sum fun v => if g v = j then 1 else 0
end PermN
theorem his_ext {n : Int} {g g' : Int → Int} {k : Nat} (h : ∀ i : Int, 0 ≤ i → i < k → 0 ≤ g i ∧ g i < n) (h' : ∀ i : Int, 0 ≤ i → i < k → 0 ≤ g' i ∧ g' i < n) (e : ∀ j : Int, 0 ≤ j → j < n → cntTo g j k = cntTo g' j k) : hisTo n g k = hisTo n g' k := by
  refine ext_ix 0 (by simp) fun i i0 i1 => ?_
  rw [length_hisTo] at i1
  rw [ix_hisTo h i0 (by omega), ix_hisTo h' i0 (by omega), e i i0 (by omega)]
def vadd (f : Fld) (a b : List Int) : List Int := mapR (fun i => addF f (ix 0 a i) (ix 0 b i)) a.length
def vneg (f : Fld) (a : List Int) : List Int := mapR (fun i => negF f (ix 0 a i)) a.length
@[simp] theorem length_vadd (f : Fld) (a b : List Int) : (vadd f a b).length = a.length := by unfold vadd; rw [length_mapR]; omega
@[simp] theorem length_vneg (f : Fld) (a : List Int) : (vneg f a).length = a.length := by unfold vneg; rw [length_mapR]; omega
theorem vadd_out {f : Fld} (hS : Shape f) (a b : List Int) : ¬ outF f (vadd f a b) := outF_mapR fun _ _ _ => hS.addF_lt _ _
theorem vneg_out {f : Fld} (hS : Shape f) (a : List Int) : ¬ outF f (vneg f a) := outF_mapR fun _ _ _ => hS.negF_lt _
section
variable {f : Fld} (h : FOk f)
theorem kv_vadd {a b : List Int} (hl : b.length ≤ a.length) (j : Nat) : kv h (vadd f a b) j = kv h a j + kv h b j := by
  by_cases hj : j < a.length
  · rw [kv_ix, kv_ix h a, kv_ix h b]
    unfold vadd
    rw [ix_mapR 0 _ (by omega) (by omega), ke_add]
  · rw [kv_out h (by rw [length_vadd]; omega), kv_out h (v := a) (by omega), kv_out h (v := b) (by omega), Fi.add_zero]
theorem kv_vneg (a : List Int) (j : Nat) : kv h (vneg f a) j = -kv h a j := by
  by_cases hj : j < a.length
  · rw [kv_ix, kv_ix h a]
    unfold vneg
    rw [ix_mapR 0 _ (by omega) (by omega), ke_neg]
  · rw [kv_out h (by rw [length_vneg]; omega), kv_out h (v := a) (by omega)]
    exact (Fi.neg_zero).symm
end
namespace COk
variable {c : Cod}
theorem kvw (h : COk c) {x : List Int} (hx : c.Gen.length ≤ x.length) : kv h.fld (comb c.F x c.Gen c.N) = La.lin (kv h.fld x) (km h.fld c.Gen) c.Gen.length := kv_comb h.fld (fun _ hl => h.wdn hl) hx
theorem comb_add (h : COk c) {x y : List Int} (hx : x.length = c.Gen.length) (hy : y.length = c.Gen.length) : comb c.F (vadd c.F x y) c.Gen c.N = vadd c.F (comb c.F x c.Gen c.N) (comb c.F y c.Gen c.N) := by
  refine kv_ext h.fld (comb_out h.fld.1 _ _ _) (vadd_out h.fld.1 _ _) (by rw [length_vadd, length_comb, length_comb]) fun j _ => ?_
  rw [kv_vadd h.fld (by rw [length_comb, length_comb]; exact Nat.le_refl _), h.kvw (by simp [hx]), h.kvw (by omega), h.kvw (by omega)]
  unfold La.lin
  rw [← La.sm_add]
  exact La.sm_congr fun i _ => by rw [kv_vadd h.fld (by omega), Fi.add_mul]
theorem comb_neg (h : COk c) {x : List Int} (hx : x.length = c.Gen.length) : comb c.F (vneg c.F x) c.Gen c.N = vneg c.F (comb c.F x c.Gen c.N) := by
  refine kv_ext h.fld (comb_out h.fld.1 _ _ _) (vneg_out h.fld.1 _) (by rw [length_vneg, length_comb, length_comb]) fun j _ => ?_
  rw [kv_vneg h.fld, h.kvw (by simp [hx]), h.kvw (by omega)]
  unfold La.lin
  rw [← La.sm_neg]
  exact La.sm_congr fun i _ => by rw [kv_vneg h.fld, Fi.neg_mul]
end COk
theorem addF_cancel {f : Fld} (h : FOk f) {x y u : Int} (x0 : 0 ≤ x) (x1 : x < f.q) (y0 : 0 ≤ y) (y1 : y < f.q) (e : addF f x u = addF f y u) : x = y := by
  have e2 : ke h x + ke h u = ke h y + ke h u := by rw [← ke_add, ← ke_add, e]
  rw [Fi.add_comm, Fi.add_comm (ke h y)] at e2
  exact ke_inj h x0 x1 y0 y1 (Fi.add_left_cancel e2)
theorem negF_inj {f : Fld} (h : FOk f) {x y : Int} (x0 : 0 ≤ x) (x1 : x < f.q) (y0 : 0 ≤ y) (y1 : y < f.q) (e : negF f x = negF f y) : x = y := by
  have e2 : -ke h x = -ke h y := by rw [← ke_neg, ← ke_neg, e]
  have e3 := congrArg (fun z => -z) e2
  simp only [Fi.neg_neg] at e3
  exact ke_inj h x0 x1 y0 y1 e3
theorem ix_vadd {f : Fld} {a b : List Int} {i : Int} (h0 : 0 ≤ i) (h1 : i < a.length) : ix 0 (vadd f a b) i = addF f (ix 0 a i) (ix 0 b i) := ix_mapR 0 _ h0 h1
theorem ix_vneg {f : Fld} {a : List Int} {i : Int} (h0 : 0 ≤ i) (h1 : i < a.length) : ix 0 (vneg f a) i = negF f (ix 0 a i) := ix_mapR 0 _ h0 h1
theorem dst_vadd {f : Fld} (h : FOk f) {a b u : List Int} (ha : ¬ outF f a) (hb : ¬ outF f b) (hl : a.length = b.length) : dst (vadd f a u) (vadd f b u) = dst a b := by
  unfold dst
  rw [length_vadd, length_vadd]
  refine dstTo_congr _ fun i h0 h1 => ?_
  rw [ix_vadd h0 (by omega), ix_vadd h0 (by omega)]
  have r1 := ix_ok h.1 ha i
  have r2 := ix_ok h.1 hb i
  exact ⟨fun hn e => hn (by rw [e]), fun hn e => hn (addF_cancel h r1.1 r1.2 r2.1 r2.2 e)⟩
theorem dst_vneg {f : Fld} (h : FOk f) {a b : List Int} (ha : ¬ outF f a) (hb : ¬ outF f b) (hl : a.length = b.length) : dst (vneg f a) (vneg f b) = dst a b := by
  unfold dst
  rw [length_vneg, length_vneg]
  refine dstTo_congr _ fun i h0 h1 => ?_
  rw [ix_vneg h0 (by omega), ix_vneg h0 (by omega)]
  have r1 := ix_ok h.1 ha i
  have r2 := ix_ok h.1 hb i
  exact ⟨fun hn e => hn (by rw [e]), fun hn e => hn (negF_inj h r1.1 r1.2 r2.1 r2.2 e)⟩
theorem vadd_cancel {f : Fld} (h : FOk f) {a b u : List Int} (ha : ¬ outF f a) (hb : ¬ outF f b) (hl : a.length = b.length) (e : vadd f a u = vadd f b u) : a = b := by
  refine ext_ix 0 (by omega) fun i i0 i1 => ?_
  have r1 := ix_ok h.1 ha i
  have r2 := ix_ok h.1 hb i
  refine addF_cancel h r1.1 r1.2 r2.1 r2.2 (u := ix 0 u i) ?_
  rw [← ix_vadd i0 i1, ← ix_vadd i0 (by omega), e]
theorem vneg_cancel {f : Fld} (h : FOk f) {a b : List Int} (ha : ¬ outF f a) (hb : ¬ outF f b) (hl : a.length = b.length) (e : vneg f a = vneg f b) : a = b := by
  refine ext_ix 0 (by omega) fun i i0 i1 => ?_
  have r1 := ix_ok h.1 ha i
  have r2 := ix_ok h.1 hb i
  refine negF_inj h r1.1 r1.2 r2.1 r2.2 ?_
  rw [← ix_vneg i0 i1, ← ix_vneg i0 (by omega), e]
namespace COk
variable {c : Cod}
theorem wl (h : COk c) (i : Int) : (c.w i).length = c.N.toNat := length_wdF _ _ _ _
theorem perm_of (h : COk c) (F : List Int → List Int) (G : List Int → List Int) (hF : ∀ x : List Int, x.length = c.Gen.length → (F x).length = c.Gen.length ∧ ¬ outF c.F (F x) ∧ comb c.F (F x) c.Gen c.N = G (comb c.F x c.Gen c.N))
    (hG : ∀ i j : Int, G (c.w i) = G (c.w j) → c.w i = c.w j) : ∃ p : Int → Int, PermN p c.n ∧ ∀ i : Int, 0 ≤ i → i < c.n → c.w (p i) = G (c.w i) := by
  have key : ∀ i : Int, 0 ≤ valD c.F.q (F (dgs c.F.q c.Gen.length i)) ∧ valD c.F.q (F (dgs c.F.q c.Gen.length i)) < c.F.q ^ c.Gen.length ∧ c.w (valD c.F.q (F (dgs c.F.q c.Gen.length i))) = G (c.w i) := fun i => by
    obtain ⟨l1, l2, l3⟩ := hF (dgs c.F.q c.Gen.length i) (length_dgs _ _ _)
    obtain ⟨h1, h2, h3⟩ := valD_dgs h.q2 c.Gen.length _ l1 fun x hx => outF_no l2 hx
    refine ⟨h1, h2, ?_⟩
    show comb c.F (dgs c.F.q c.Gen.length _) c.Gen c.N = _
    rw [h3, l3]
    rfl
  refine ⟨fun i => valD c.F.q (F (dgs c.F.q c.Gen.length i)), ⟨fun i _ _ => ⟨(key i).1, by rw [h.cn]; exact (key i).2.1⟩, fun i j i0 i1 j0 j1 e => ?_⟩, fun i _ _ => (key i).2.2⟩
  rw [h.cn] at i1 j1
  refine h.wd_inj i0 i1 j0 j1 (hG i j ?_)
  rw [← (key i).2.2, ← (key j).2.2]
  exact congrArg c.w e
/-- All words, each with a word added. -/
theorem perm_add (h : COk c) (u : Int) : ∃ p : Int → Int, PermN p c.n ∧ ∀ i : Int, 0 ≤ i → i < c.n → c.w (p i) = vadd c.F (c.w i) (c.w u) :=
  h.perm_of (fun x => vadd c.F x (dgs c.F.q c.Gen.length u)) (fun w => vadd c.F w (c.w u)) (fun x hx => ⟨by simp [hx], vadd_out h.fld.1 _ _, h.comb_add hx (length_dgs _ _ _)⟩)
    (fun i j e => vadd_cancel h.fld (h.wd_out i) (h.wd_out j) (by rw [h.wl, h.wl]) e)
theorem perm_neg (h : COk c) : ∃ p : Int → Int, PermN p c.n ∧ ∀ i : Int, 0 ≤ i → i < c.n → c.w (p i) = vneg c.F (c.w i) :=
  h.perm_of (fun x => vneg c.F x) (fun w => vneg c.F w) (fun x hx => ⟨by simp [hx], vneg_out h.fld.1 _, h.comb_neg hx⟩)
    (fun i j e => vneg_cancel h.fld (h.wd_out i) (h.wd_out j) (by rw [h.wl, h.wl]) e)
/-- Distances from y: of -y from the words, of y with a word added, of a word. -/
theorem cnt_neg (h : COk c) {y : List Int} (hl : (y.length : Int) = c.N) (ho : ¬ outF c.F y) (j : Int) : cntTo (fun i => dst (c.w i) (vneg c.F y)) j c.n = cntTo (fun i => dst (c.w i) y) j c.n := by
  obtain ⟨p, hp, hw⟩ := h.perm_neg
  rw [← hp.cnt]
  exact cnt_congr fun i i0 i1 => by rw [hw i i0 i1]; exact dst_vneg h.fld (h.wd_out i) ho (by rw [h.wl]; omega)
theorem cnt_add (h : COk c) {y : List Int} (hl : (y.length : Int) = c.N) (ho : ¬ outF c.F y) (u j : Int) : cntTo (fun i => dst (c.w i) (vadd c.F y (c.w u))) j c.n = cntTo (fun i => dst (c.w i) y) j c.n := by
  obtain ⟨p, hp, hw⟩ := h.perm_add u
  rw [← hp.cnt]
  exact cnt_congr fun i i0 i1 => by rw [hw i i0 i1]; exact dst_vadd h.fld (h.wd_out i) ho (by rw [h.wl]; omega)
end COk
noncomputable def coL (c : Cod) (y : List Int) : List Int := if neE c y = 0 then hisTo (c.N + 1) (fun i => dst (c.w i) y) c.n else []
theorem coL_no {c : Cod} {y : List Int} (h : neE c y ≠ 0) : coL c y = [] := if_neg h
theorem ne_zero {c : Cod} {y : List Int} : neE c y = 0 ↔ wrdE c y = 0 ∧ sizE c = 0 := by
  unfold neE
  by_cases h : wrdE c y = 0
  · rw [if_pos h]; exact ⟨fun h2 => ⟨h, h2⟩, fun h2 => h2.2⟩
  · rw [if_neg h]; exact ⟨fun h2 => absurd h2 h, fun h2 => absurd h2.1 h⟩
theorem dst_rng {c : Cod} (hk : COk c) (y : List Int) (i : Int) : 0 ≤ dst (c.w i) y ∧ dst (c.w i) y < c.N + 1 := by
  have h1 := dst_le (c.w i) y
  have h2 := (dst_bd (c.w i) y).1
  have h3 : ((c.w i).length : Int) = c.N := hk.wdl i
  exact ⟨h2, by omega⟩
theorem co_prog {c : Cod} {y : List Int} (h : neE c y = 0) : hisTo (c.N + 1) (fun i => dst (c.w i) (vneg c.F y)) c.n = coL c y := by
  obtain ⟨hw, hs⟩ := ne_zero.1 h
  obtain ⟨hk, hl, ho⟩ := wrdE_zero.1 hw
  unfold coL
  rw [if_pos h]
  exact his_ext (fun i _ _ => dst_rng hk _ i) (fun i _ _ => dst_rng hk _ i) fun j _ _ => hk.cnt_neg hl ho j
theorem co_ref {c : Cod} {y : List Int} (h : neE c y = 0) : hisTo (y.length + 1) (fun z => dst (ix [] (wds c.F c.N c.Gen) z) y) (wds c.F c.N c.Gen).length = coL c y := by
  obtain ⟨hw, hs⟩ := ne_zero.1 h
  obtain ⟨hk, hl, ho⟩ := wrdE_zero.1 hw
  unfold coL
  rw [if_pos h, his_wds (fun w => dst w y), hl]
theorem co_add {c : Cod} {y m : List Int} (h : neE c y = 0) (hm : encE c m = 0) : neE c (vadd c.F y (encC c m)) = 0 ∧ coL c (vadd c.F y (encC c m)) = coL c y ∧ y.length = (encC c m).length := by
  obtain ⟨hw, hs⟩ := ne_zero.1 h
  obtain ⟨hk, hl, ho⟩ := wrdE_zero.1 hw
  obtain ⟨v, v0, v1, ev⟩ := enc_wt hs hm
  have hN := hk.n1
  rw [ev]
  have e : neE c (vadd c.F y (c.w v)) = 0 := ne_zero.2 ⟨wrdE_zero.2 ⟨hk, by rw [length_vadd]; exact hl, vadd_out hk.fld.1 _ _⟩, hs⟩
  refine ⟨e, ?_, by rw [hk.wl]; omega⟩
  unfold coL
  rw [if_pos e, if_pos h]
  exact his_ext (fun i _ _ => dst_rng hk _ i) (fun i _ _ => dst_rng hk _ i) fun j _ _ => hk.cnt_add hl ho v j
end Go.Cw


set_option linter.unusedVariables false
set_option linter.unusedSimpArgs false
set_option linter.unusedSectionVars false
namespace Go.Cw
def hisOn (L : List Int) (g : Int → Int) (s : Int) : Nat → List Int
  | 0 => L
  | k + 1 => (hisOn L g s k).set (g k).toNat (ix 0 (hisOn L g s k) (g k) + s)
@[simp] theorem length_hisOn (L : List Int) (g : Int → Int) (s : Int) : ∀ k, (hisOn L g s k).length = L.length
  | 0 => rfl
  | k + 1 => by simp [hisOn, length_hisOn L g s k]
/-- Rows of one length. -/
def lens (l : List (List Int)) (n : Int) : Prop := ∀ i : Int, 0 ≤ i → i < l.length → ((ix [] l i).length : Int) = n
def dg (l : List (List Int)) (a : Int) : Int → Int := fun b => dst (ix [] l a) (ix [] l b)
def disR (l : List (List Int)) (n : Int) : Nat → List Int
  | 0 => List.replicate (n + 1).toNat 0
  | k + 1 => hisOn (disR l n k) (dg l k) 1 l.length
def disP (l : List (List Int)) (n : Int) : Nat → List Int
  | 0 => (List.replicate (n + 1).toNat 0).set 0 l.length
  | k + 1 => hisOn (disP l n k) (dg l k) 2 k
@[simp] theorem length_disR (l : List (List Int)) (n : Int) : ∀ k, (disR l n k).length = (n + 1).toNat
  | 0 => by simp [disR]
  | k + 1 => by simp [disR, length_disR l n k]
@[simp] theorem length_disP (l : List (List Int)) (n : Int) : ∀ k, (disP l n k).length = (n + 1).toNat
  | 0 => by simp [disP]
  | k + 1 => by simp [disP, length_disP l n k]
section
variable {l : List (List Int)} {n : Int}
theorem dst_self (a : List Int) : dst a a = 0 := dstTo_zero.2 fun _ _ _ => rfl
/-- Pairs in either order. -/
theorem pairs (l : List (List Int)) (j : Int) : ∀ k : Nat, smT (fun a => cntTo (dg l a) j k) k = (if 0 = j then (k : Int) else 0) + 2 * smT (fun a => cntTo (dg l a) j a.toNat) k
  | 0 => by
    show (0 : Int) = (if 0 = j then ((0 : Nat) : Int) else 0) + 2 * 0
    split <;> rfl
  | k + 1 => by
    have ih := pairs l j k
    have e1 : smT (fun a => cntTo (dg l a) j (k + 1)) k = smT (fun a => cntTo (dg l a) j k) k + cntTo (dg l k) j k := by
      have : smT (fun a => cntTo (dg l a) j (k + 1)) k = smT (fun a => cntTo (dg l a) j k + (if dg l a k = j then 1 else 0)) k := rfl
      rw [this, smT_add, cnt_smT (dg l k)]
      congr 1
      exact smT_congr fun a _ _ => by unfold dg; rw [dst_symm]
    have e2 : cntTo (dg l k) j (k + 1) = cntTo (dg l k) j k + (if 0 = j then 1 else 0) := by
      show cntTo (dg l k) j k + (if dg l k k = j then 1 else 0) = _
      rw [show dg l k k = 0 from dst_self _]
    rw [smT, smT, e1, e2, ih, show ((k : Int)).toNat = k by omega]
    split <;> omega
end
end Go.Cw

