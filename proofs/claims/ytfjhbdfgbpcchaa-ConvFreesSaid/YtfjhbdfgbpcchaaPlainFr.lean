/-
  Least weights of paths; best steps.
-/
import Derived.Test.YtfjhbdfgbpcchaaPlainZ
set_option linter.unusedVariables false
set_option linter.unusedSimpArgs false
set_option linter.unusedSectionVars false
namespace Go.Cw
/-! ### Sums of lists -/
def sumI : List Int → Int
  | [] => 0
  | a :: l => a + sumI l
theorem sumI_nonneg : ∀ l : List Int, (∀ x ∈ l, 0 ≤ x) → 0 ≤ sumI l
  | [], _ => Int.le_refl _
  | a :: l, h => by have := sumI_nonneg l (fun x hx => h x (by simp [hx])); have := h a (by simp); simp only [sumI]; omega
theorem sumI_set : ∀ (l : List Int) (i : Nat) (v : Int), i < l.length → sumI (l.set i v) = sumI l - l.getD i 0 + v
  | [], _, _, h => by simp at h
  | a :: l, 0, v, _ => by simp [sumI]; omega
  | a :: l, i + 1, v, h => by
    have := sumI_set l i v (by simpa using h)
    simp only [List.set_cons_succ, sumI, this, List.getD_cons_succ]; omega
theorem ix_set_ne (l : List Int) {i j : Int} (v : Int) (h0 : 0 ≤ i) (h1 : 0 ≤ j) (hn : i ≠ j) : ix 0 (l.set i.toNat v) j = ix 0 l j := by
  unfold ix
  simp only [List.getD]
  rw [List.getElem?_set_ne (by omega)]
theorem ix_ext {a b : List Int} (hl : a.length = b.length) (h : ∀ i : Int, 0 ≤ i → i < a.length → ix 0 a i = ix 0 b i) : a = b := by
  apply List.ext_getElem hl
  intro i h1 h2
  have := h i (by omega) (by omega)
  unfold ix at this
  simpa [List.getD, h1, h2] using this
namespace Cnv
variable {c : Cnv}
/-! ### The least weights of paths -/
def nN (c : Cnv) (s x : Int) : Int := c.nxt s (c.inp x) c.Gen.length
def wW (c : Cnv) (s x : Int) : Int := wt1 (c.outL s (c.inp x))
theorem nN_lt (hq : 2 ≤ c.F.q) (s x : Int) : 0 ≤ c.nN s x ∧ c.nN s x < c.states := nxt_states hq (inp_good hq x)
theorem wW_le (s x : Int) : 0 ≤ c.wW s x ∧ c.wW s x ≤ c.n := eWt_le
/-- A path from s to the state 0 that weighs w. -/
inductive Rc (c : Cnv) : Int → Int → Prop
  | zero : Rc c 0 0
  | step {s x w : Int} : 0 < s → s < c.states → 0 ≤ x → x < c.ins → Rc c (c.nN s x) w → Rc c s (c.wW s x + w)
def Feas (c : Cnv) (l : List Int) : Prop := ix 0 l 0 = 0 ∧ ∀ s x : Int, 0 < s → s < c.states → 0 ≤ x → x < c.ins → ix 0 l s ≤ c.wW s x + ix 0 l (c.nN s x)
theorem feas_le {l : List Int} (h : c.Feas l) {s w : Int} (r : c.Rc s w) : ix 0 l s ≤ w := by
  induction r with
  | zero => rw [h.1]; exact Int.le_refl _
  | step h1 h2 h3 h4 _ ih => have := h.2 _ _ h1 h2 h3 h4; omega
structure PotOk (c : Cnv) (H : Int) (l : List Int) : Prop where
  len : (l.length : Int) = c.states
  z : ix 0 l 0 = 0
  lo : ∀ s, 0 ≤ ix 0 l s
  hi : ∀ s, ix 0 l s ≤ H
  rc : ∀ s, 0 ≤ s → s < c.states → ix 0 l s = H ∨ ∃ w, w ≤ ix 0 l s ∧ c.Rc s w
theorem PotOk.relax {H : Int} {l : List Int} (hq : 2 ≤ c.F.q) (h : c.PotOk H l) {s x : Int} (s0 : 0 < s) (s1 : s < c.states) (x0 : 0 ≤ x) (x1 : x < c.ins) (hv : c.wW s x + ix 0 l (c.nN s x) < ix 0 l s) :
    c.PotOk H (l.set s.toNat (c.wW s x + ix 0 l (c.nN s x))) := by
  have hw := wW_le (c := c) s x
  have hn := nN_lt hq s x
  have hl := h.len
  have hlo := h.lo (c.nN s x)
  have hself := ix_set_self l (c.wW s x + ix 0 l (c.nN s x)) (i := s) (by omega) (by omega)
  have hcase : ∀ t, 0 ≤ t → t ≠ s → ix 0 (l.set s.toNat (c.wW s x + ix 0 l (c.nN s x))) t = ix 0 l t := fun t t0 ht => ix_set_ne l _ (by omega) t0 (fun e => ht e.symm)
  have hneg : ∀ t, t < 0 → ix 0 (l.set s.toNat (c.wW s x + ix 0 l (c.nN s x))) t = ix 0 l 0 := fun t ht => by
    have : ix 0 (l.set s.toNat (c.wW s x + ix 0 l (c.nN s x))) t = ix 0 (l.set s.toNat (c.wW s x + ix 0 l (c.nN s x))) 0 := by unfold ix; rw [show t.toNat = (0 : Int).toNat by omega]
    rw [this]; exact hcase 0 (Int.le_refl _) (by omega)
  have hhi := h.hi s
  refine ⟨by rw [List.length_set]; exact hl, by rw [hcase 0 (Int.le_refl _) (by omega)]; exact h.z, fun t => ?_, fun t => ?_, fun t t0 t1 => ?_⟩
  · by_cases ht : t < 0
    · rw [hneg t ht, h.z]; exact Int.le_refl _
    · by_cases hts : t = s
      · rw [hts, hself]; omega
      · rw [hcase t (by omega) hts]; exact h.lo t
  · by_cases ht : t < 0
    · rw [hneg t ht]; exact h.hi 0
    · by_cases hts : t = s
      · rw [hts, hself]; omega
      · rw [hcase t (by omega) hts]; exact h.hi t
  · by_cases hts : t = s
    · subst hts
      rw [hself]
      right
      rcases h.rc (c.nN t x) hn.1 hn.2 with g | ⟨w, g1, g2⟩
      · omega
      · exact ⟨c.wW t x + w, by omega, .step s0 s1 x0 x1 g2⟩
    · rw [hcase t t0 hts]; exact h.rc t t0 t1
/-- The first potentials. -/
def pot0 (H S : Int) : List Int := mapR (fun s => if s = 0 then 0 else H) S
theorem PotOk.first {H : Int} (hH : 0 ≤ H) (hq : 2 ≤ c.F.q) : c.PotOk H (pot0 H c.states) := by
  have hs := states_ge (c := c) hq
  have hl : ((pot0 H c.states).length : Int) = c.states := by unfold pot0; rw [length_mapR]; omega
  have hix : ∀ s, 0 ≤ s → s < c.states → ix 0 (pot0 H c.states) s = if s = 0 then 0 else H := fun s h0 h1 => ix_mapR 0 _ h0 h1
  have hout : ∀ s, c.states ≤ s → ix 0 (pot0 H c.states) s = 0 := fun s h => ix_ge _ (by omega)
  have hneg : ∀ s, s < 0 → ix 0 (pot0 H c.states) s = 0 := fun s h => by
    have : ix 0 (pot0 H c.states) s = ix 0 (pot0 H c.states) 0 := by unfold ix; rw [show s.toNat = (0 : Int).toNat by omega]
    rw [this, hix 0 (Int.le_refl _) (by omega), if_pos rfl]
  refine ⟨hl, by rw [hix 0 (Int.le_refl _) (by omega), if_pos rfl], fun s => ?_, fun s => ?_, fun s h0 h1 => ?_⟩
  · by_cases h1 : s < 0
    · rw [hneg s h1]; exact Int.le_refl _
    · by_cases h2 : s < c.states
      · rw [hix s (by omega) h2]; split <;> omega
      · rw [hout s (by omega)]; exact Int.le_refl _
  · by_cases h1 : s < 0
    · rw [hneg s h1]; exact hH
    · by_cases h2 : s < c.states
      · rw [hix s (by omega) h2]; split <;> omega
      · rw [hout s (by omega)]; exact hH
  · rw [hix s h0 h1]
    by_cases hz : s = 0
    · subst hz; rw [if_pos rfl]; exact .inr ⟨0, Int.le_refl _, .zero⟩
    · rw [if_neg hz]; exact .inl rfl
/-- Zeros lead to the state 0. -/
def zr (c : Cnv) (s : Int) : Nat → Int
  | 0 => s
  | t + 1 => c.nN (zr c s t) 0
theorem inp_zero : c.inp 0 = c.zrow := by unfold inp zrow; exact Rg.digS_zero _ _
theorem zr_lt (hq : 2 ≤ c.F.q) {s : Int} (h0 : 0 ≤ s) (h1 : s < c.states) : ∀ t, 0 ≤ c.zr s t ∧ c.zr s t < c.states
  | 0 => ⟨h0, h1⟩
  | t + 1 => nN_lt hq _ _
theorem dg_zr (hq : 2 ≤ c.F.q) (s : Int) {i : Int} (i0 : 0 ≤ i) (i1 : i < c.Gen.length) : ∀ (t : Nat) (d : Int), 0 ≤ d → d < t → d < c.deg i → c.dg (c.zr s t) i d = 0
  | 0, d, h0, h1, _ => by omega
  | t + 1, d, h0, h1, h2 => by
    have hg : c.GoodIn (c.inp 0) := inp_good hq 0
    show c.dg (c.nxt (c.zr s t) (c.inp 0) c.Gen.length) i d = 0
    rw [dg_nxt hq hg i0 h0 h2 c.Gen.length i1 (Nat.le_refl _)]
    by_cases hd : d = 0
    · subst hd; rw [ix_line_zero, inp_zero]; unfold zrow; exact ix_replicate0 _ _
    · obtain ⟨g, rfl⟩ : ∃ g, d = g + 1 := ⟨d - 1, by omega⟩
      rw [dg_line hq (by omega) (by omega)]
      exact dg_zr hq s i0 i1 t g (by omega) (by omega) (by omega)
theorem zr_zero (hq : 2 ≤ c.F.q) (s : Int) (t : Nat) (ht : c.mem ≤ (t : Int) + 1) : c.zr s (t + 1) = 0 := by
  show c.nxt (c.zr s t) (c.inp 0) c.Gen.length = 0
  refine nxt_zero _ fun i d i0 i1 d0 d1 => ?_
  have hm := deg_le_mem i0 i1
  by_cases hd : d = 0
  · subst hd; rw [ix_line_zero, inp_zero]; unfold zrow; exact ix_replicate0 _ _
  · obtain ⟨g, rfl⟩ : ∃ g, d = g + 1 := ⟨d - 1, by omega⟩
    rw [dg_line hq (by omega) (by omega)]
    exact dg_zr hq s i0 i1 t g (by omega) (by omega) (by omega)
theorem rc_zr (hq : 2 ≤ c.F.q) {s : Int} (h0 : 0 ≤ s) (h1 : s < c.states) : ∀ (k t : Nat), c.mem ≤ (t + k : Nat) → 1 ≤ t + k → ∃ w, w ≤ c.n * k ∧ c.Rc (c.zr s t) w
  | 0, t, hm, h => by
    have : c.zr s t = 0 := by
      obtain ⟨g, rfl⟩ : ∃ g, t = g + 1 := ⟨t - 1, by omega⟩
      exact zr_zero hq s g (by omega)
    rw [this]; exact ⟨0, by simp, .zero⟩
  | k + 1, t, hm, h => by
    obtain ⟨w, hw, hr⟩ := rc_zr hq h0 h1 k (t + 1) (by omega) (by omega)
    have hn := c.nn_pos
    have hb := zr_lt hq h0 h1 t
    have hi := ins_pos (c := c) hq
    by_cases hz : c.zr s t = 0
    · rw [hz]
      refine ⟨0, Int.mul_nonneg hn (by omega), .zero⟩
    · have h2 := wW_le (c := c) (c.zr s t) 0
      refine ⟨c.wW (c.zr s t) 0 + w, ?_, .step (by omega) hb.2 (Int.le_refl _) (by omega) hr⟩
      rw [show ((k + 1 : Nat) : Int) = (k : Int) + 1 by omega, Int.mul_add, Int.mul_one]; omega
theorem rc_all (hOk : c.Ok) (hFew : c.Few) {s : Int} (h0 : 0 ≤ s) (h1 : s < c.states) : ∃ w, w ≤ 2624 ∧ c.Rc s w := by
  have hq := hOk.fld.1.bd.2.2.2.2.2.1
  have hm := hFew.mem_le
  have hm0 : 0 ≤ c.mem := c.maxD_nonneg c.Gen.length
  obtain ⟨w, hw, hr⟩ := rc_zr hq h0 h1 (c.mem.toNat + 1) 0 (by omega) (by omega)
  have hn := hOk.len
  have hnn := c.nn_pos
  have : c.n * ((c.mem.toNat + 1 : Nat) : Int) ≤ 64 * 41 := Int.mul_le_mul hn (by omega) (by omega) (by omega)
  exact ⟨w, by omega, hr⟩
theorem feas_small (hOk : c.Ok) (hFew : c.Few) {l : List Int} (h : c.Feas l) {s : Int} (h0 : 0 ≤ s) (h1 : s < c.states) : ix 0 l s ≤ 2624 := by
  obtain ⟨w, hw, hr⟩ := rc_all hOk hFew h0 h1
  have := feas_le h hr; omega
/-- All rounds end with the same potentials. -/
theorem pot_unique (hOk : c.Ok) (hFew : c.Few) {H H' : Int} {l l' : List Int} (hH : 2624 < H) (hH' : 2624 < H') (h : c.PotOk H l) (h' : c.PotOk H' l') (f : c.Feas l) (f' : c.Feas l') : l = l' := by
  have hl := h.len
  have hl' := h'.len
  refine ix_ext (by omega) fun s s0 s1 => ?_
  have e1 := feas_small hOk hFew f (s := s) s0 (by omega)
  have e2 := feas_small hOk hFew f' (s := s) s0 (by omega)
  rcases h.rc s s0 (by omega) with g | ⟨w, g1, g2⟩
  · omega
  · rcases h'.rc s s0 (by omega) with g' | ⟨w', g1', g2'⟩
    · omega
    · have := feas_le f g2'
      have := feas_le f' g2
      omega
/-- A round, as far as the pairs before (s, x). -/
def Chk (c : Cnv) (l : List Int) (s x : Int) : Prop := ∀ t y : Int, 0 < t → t < c.states → 0 ≤ y → y < c.ins → (t < s ∨ (t = s ∧ y < x)) → ix 0 l t ≤ c.wW t y + ix 0 l (c.nN t y)
theorem Chk.first (l : List Int) : c.Chk l 1 0 := fun t y t0 _ y0 _ h => by omega
theorem Chk.succ {l : List Int} {s x : Int} (h : c.Chk l s x) (hn : ¬ c.wW s x + ix 0 l (c.nN s x) < ix 0 l s) : c.Chk l s (x + 1) := fun t y t0 t1 y0 y1 hy => by
  by_cases he : t = s ∧ y = x
  · rw [he.1, he.2]; omega
  · exact h t y t0 t1 y0 y1 (by omega)
theorem Chk.next {l : List Int} {s x : Int} (h : c.Chk l s x) (hx : c.ins ≤ x) : c.Chk l (s + 1) 0 := fun t y t0 t1 y0 y1 hy => h t y t0 t1 y0 y1 (by omega)
theorem Chk.all {l : List Int} {s : Int} (h : c.Chk l s 0) (hs : c.states ≤ s) (hz : ix 0 l 0 = 0) : c.Feas l := ⟨hz, fun t y t0 t1 y0 y1 => h t y t0 t1 y0 y1 (by omega)⟩
/-! ### The best steps -/
inductive BpN (c : Cnv) (b : List Int) : Int → Nat → Prop
  | zero : BpN c b 0 0
  | step {s : Int} {n : Nat} : s ≠ 0 → BpN c b (c.nN s (ix 0 b s)) n → BpN c b s (n + 1)
structure BstOk (c : Cnv) (H : Int) (l b : List Int) : Prop where
  len : (b.length : Int) = c.states
  rng : ∀ s, 0 ≤ ix 0 b s ∧ ix 0 b s < c.ins
  tight : ∀ s, 0 < s → s < c.states → ix 0 l s < H → c.wW s (ix 0 b s) + ix 0 l (c.nN s (ix 0 b s)) ≤ ix 0 l s
  bp : ∀ s, 0 < s → s < c.states → ix 0 l s < H → ∃ n, c.BpN b s n
theorem BstOk.first {H : Int} (hq : 2 ≤ c.F.q) : c.BstOk H (pot0 H c.states) (List.replicate c.states.toNat 0) := by
  have hs := states_ge (c := c) hq
  have hi := ins_pos (c := c) hq
  have hno : ∀ s, 0 < s → s < c.states → ¬ ix 0 (pot0 H c.states) s < H := fun s h0 h1 => by
    have : ix 0 (pot0 H c.states) s = if s = 0 then 0 else H := ix_mapR 0 _ (by omega) h1
    rw [this, if_neg (by omega)]; omega
  exact ⟨by simp; omega, fun s => by rw [ix_replicate0]; omega, fun s h0 h1 h2 => absurd h2 (hno s h0 h1), fun s h0 h1 h2 => absurd h2 (hno s h0 h1)⟩
theorem BstOk.relax {H : Int} {l b : List Int} (hq : 2 ≤ c.F.q) (hp : c.PotOk H l) (h : c.BstOk H l b) {s x : Int} (s0 : 0 < s) (s1 : s < c.states) (x0 : 0 ≤ x) (x1 : x < c.ins) (hv : c.wW s x + ix 0 l (c.nN s x) < ix 0 l s) :
    c.BstOk H (l.set s.toNat (c.wW s x + ix 0 l (c.nN s x))) (b.set s.toNat x) := by
  have hw := wW_le (c := c) s x
  have hn := nN_lt hq s x
  have hl := hp.len
  have hbl := h.len
  have hselfl := ix_set_self l (c.wW s x + ix 0 l (c.nN s x)) (i := s) (by omega) (by omega)
  have hselfb := ix_set_self b x (i := s) (by omega) (by omega)
  have hnel : ∀ t, 0 ≤ t → t ≠ s → ix 0 (l.set s.toNat (c.wW s x + ix 0 l (c.nN s x))) t = ix 0 l t := fun t t0 ht => ix_set_ne l _ (by omega) t0 (fun e => ht e.symm)
  have hneb : ∀ t, 0 ≤ t → t ≠ s → ix 0 (b.set s.toNat x) t = ix 0 b t := fun t t0 ht => ix_set_ne b _ (by omega) t0 (fun e => ht e.symm)
  have hle : ∀ t, 0 ≤ t → ix 0 (l.set s.toNat (c.wW s x + ix 0 l (c.nN s x))) t ≤ ix 0 l t := fun t t0 => by
    by_cases ht : t = s
    · rw [ht, hselfl]; omega
    · rw [hnel t t0 ht]; exact Int.le_refl _
  have hts : c.nN s x ≠ s := fun e => by rw [e] at hv; omega
  -- paths from states of less potential than s stay as they are
  have low : ∀ n u, c.BpN b u n → 0 ≤ u → u < c.states → ix 0 l u < ix 0 l s → c.BpN (b.set s.toNat x) u n := by
    intro n u hb
    induction hb with
    | zero => intro _ _ _; exact .zero
    | @step u n hu hbp ih =>
      intro u0 u1 hlt
      have hus : u ≠ s := fun e => by rw [e] at hlt; omega
      have hhi := hp.hi s
      have ht := h.tight u (by omega) u1 (by omega)
      have hnn := nN_lt hq u (ix 0 b u)
      have hww := wW_le (c := c) u (ix 0 b u)
      refine .step hu ?_
      rw [hneb u u0 hus]
      exact ih hnn.1 hnn.2 (by omega)
  have hlt : ix 0 l (c.nN s x) < ix 0 l s := by omega
  have hhis := hp.hi s
  have hbs : ∃ n, c.BpN (b.set s.toNat x) s n := by
    have hbt : ∃ n, c.BpN b (c.nN s x) n := by
      by_cases hz : c.nN s x = 0
      · rw [hz]; exact ⟨0, .zero⟩
      · exact h.bp _ (by omega) hn.2 (by omega)
    obtain ⟨n, hbt⟩ := hbt
    refine ⟨n + 1, .step (by omega) ?_⟩
    rw [hselfb]
    exact low n _ hbt hn.1 hn.2 hlt
  have all : ∀ n u, c.BpN b u n → 0 ≤ u → ∃ m, c.BpN (b.set s.toNat x) u m := by
    intro n u hb
    induction hb with
    | zero => intro _; exact ⟨0, .zero⟩
    | @step u n hu hbp ih =>
      intro u0
      by_cases hus : u = s
      · rw [hus]; exact hbs
      · obtain ⟨m, hm⟩ := ih (nN_lt hq u (ix 0 b u)).1
        refine ⟨m + 1, .step hu ?_⟩
        rw [hneb u u0 hus]; exact hm
  refine ⟨by rw [List.length_set]; exact hbl, fun t => ?_, fun t t0 t1 ht => ?_, fun t t0 t1 ht => ?_⟩
  · by_cases ht : t.toNat = s.toNat
    · have : ix 0 (b.set s.toNat x) t = ix 0 (b.set s.toNat x) s := by unfold ix; rw [ht]
      rw [this, hselfb]; exact ⟨x0, x1⟩
    · have : ix 0 (b.set s.toNat x) t = ix 0 b t := by
        unfold ix; simp only [List.getD]; rw [List.getElem?_set_ne (by omega)]
      rw [this]; exact h.rng t
  · by_cases hte : t = s
    · subst hte
      rw [hselfb, hselfl, hnel _ hn.1 hts]; exact Int.le_refl _
    · rw [hneb t (by omega) hte]
      rw [hnel t (by omega) hte] at ht ⊢
      have := h.tight t t0 t1 ht
      have := hle (c.nN t (ix 0 b t)) (nN_lt hq _ _).1
      omega
  · by_cases hte : t = s
    · rw [hte]; exact hbs
    · rw [hnel t (by omega) hte] at ht
      obtain ⟨n, hb⟩ := h.bp t t0 t1 ht
      exact all n t hb (by omega)
theorem BpN.setZero {b : List Int} (hq : 2 ≤ c.F.q) (x : Int) : ∀ {n : Nat} {s : Int}, c.BpN b s n → 0 ≤ s → c.BpN (b.set (0 : Int).toNat x) s n := by
  intro n s h
  induction h with
  | zero => intro _; exact .zero
  | @step s n hs hbp ih =>
    intro s0
    refine .step hs ?_
    rw [ix_set_ne b x (Int.le_refl 0) s0 (fun e => hs e.symm)]
    exact ih (nN_lt hq _ _).1
/-! ### The distance -/
/-- The least weight of a path from 0 to 0 by one of the first n inputs other than 0. -/
def fdTo (c : Cnv) (l : List Int) (B : Int) : Nat → Int
  | 0 => B
  | n + 1 => min (fdTo c l B n) (c.wW 0 ((n : Int) + 1) + ix 0 l (c.nN 0 ((n : Int) + 1)))
theorem fdTo_succ (l : List Int) (B : Int) {x : Int} (h : 1 ≤ x) : c.fdTo l B x.toNat = min (c.fdTo l B (x - 1).toNat) (c.wW 0 x + ix 0 l (c.nN 0 x)) := by
  rw [show x.toNat = (x - 1).toNat + 1 by omega, fdTo, show (((x - 1).toNat : Nat) : Int) + 1 = x by omega]
theorem fdTo_le (l : List Int) (B : Int) : ∀ (n : Nat) (x : Int), 1 ≤ x → x ≤ n → c.fdTo l B n ≤ c.wW 0 x + ix 0 l (c.nN 0 x)
  | 0, x, h0, h1 => by omega
  | n + 1, x, h0, h1 => by
    rw [fdTo]
    by_cases hx : x = (n : Int) + 1
    · rw [hx]; omega
    · have := fdTo_le l B n x h0 (by omega); omega
theorem fdTo_indep (l : List Int) {B B' : Int} (h1 : c.wW 0 1 + ix 0 l (c.nN 0 1) ≤ B) (h2 : c.wW 0 1 + ix 0 l (c.nN 0 1) ≤ B') : ∀ n : Nat, c.fdTo l B (n + 1) = c.fdTo l B' (n + 1)
  | 0 => by rw [fdTo, fdTo, fdTo, fdTo, show ((0 : Nat) : Int) + 1 = 1 from rfl]; omega
  | n + 1 => by rw [fdTo, fdTo_indep l h1 h2 n, ← fdTo]
def fdist (c : Cnv) (l : List Int) (B : Int) : Int := c.fdTo l B (c.ins - 1).toNat
theorem ins_two (hOk : c.Ok) : 2 ≤ c.ins := by
  have hq := hOk.fld.1.bd.2.2.2.2.2.1
  have hk := hOk.kn
  have := pow_mono_of c.F.q hq (show 1 ≤ c.Gen.length by unfold k at hk; omega)
  rw [Int.pow_one] at this
  unfold ins; omega
theorem fdist_indep (hOk : c.Ok) (hFew : c.Few) {l : List Int} (f : c.Feas l) {B B' : Int} (hB : 2688 ≤ B) (hB' : 2688 ≤ B') : c.fdist l B = c.fdist l B' := by
  have hq := hOk.fld.1.bd.2.2.2.2.2.1
  have h2 := ins_two hOk
  have hn := hOk.len
  have hnn := nN_lt hq 0 1
  have hs := feas_small hOk hFew f hnn.1 hnn.2
  have hw := wW_le (c := c) 0 1
  unfold fdist
  rw [show (c.ins - 1).toNat = (c.ins - 2).toNat + 1 by omega]
  exact fdTo_indep l (by omega) (by omega) _
/-! ### The path -/
def pst (c : Cnv) (b : List Int) : Nat → Int
  | 0 => 0
  | t + 1 => c.nN (pst c b t) (ix 0 b (pst c b t))
theorem pst_succ (b : List Int) {j : Int} (h : 0 ≤ j) : c.pst b (j + 1).toNat = c.nN (c.pst b j.toNat) (ix 0 b (c.pst b j.toNat)) := by rw [show (j + 1).toNat = j.toNat + 1 by omega, pst]
theorem pst_lt (hq : 2 ≤ c.F.q) (b : List Int) : ∀ t, 0 ≤ c.pst b t ∧ c.pst b t < c.states
  | 0 => by have := states_ge (c := c) hq; simp only [pst]; omega
  | t + 1 => nN_lt hq _ _
theorem BpN.inv0 {b : List Int} {s : Int} (h : c.BpN b s 0) : s = 0 := by cases h; rfl
theorem BpN.inv1 {b : List Int} {s : Int} {n : Nat} (h : c.BpN b s (n + 1)) : s ≠ 0 ∧ c.BpN b (c.nN s (ix 0 b s)) n := by cases h with | step h1 h2 => exact ⟨h1, h2⟩
theorem bpn_pst {b : List Int} : ∀ (n t : Nat), c.BpN b (c.pst b (t + 1)) n → c.pst b (t + 1 + n) = 0 ∧ ∀ i, 1 + t ≤ i → i < 1 + t + n → c.pst b i ≠ 0
  | 0, t, h => ⟨h.inv0, fun i h1 h2 => by omega⟩
  | n + 1, t, h => by
    have hz := h.inv1
    have ih := bpn_pst n (t + 1) hz.2
    refine ⟨by rw [show t + 1 + (n + 1) = t + 1 + 1 + n by omega]; exact ih.1, fun i h1 h2 => ?_⟩
    by_cases hi : i = t + 1
    · rw [hi]; exact hz.1
    · exact ih.2 i (by omega) (by omega)
/-- What the search has found. -/
structure Found (c : Cnv) (l b : List Int) (D : Int) (n : Nat) : Prop where
  feas : c.Feas l
  len : (l.length : Int) = c.states
  lo : ∀ s, 0 ≤ ix 0 l s
  x0 : 1 ≤ ix 0 b 0
  rng : ∀ s, 0 ≤ ix 0 b s ∧ ix 0 b s < c.ins
  dist : D = c.wW 0 (ix 0 b 0) + ix 0 l (c.nN 0 (ix 0 b 0))
  least : ∀ x, 1 ≤ x → x < c.ins → D ≤ c.wW 0 x + ix 0 l (c.nN 0 x)
  tight : ∀ s, 0 < s → s < c.states → c.wW s (ix 0 b s) + ix 0 l (c.nN s (ix 0 b s)) = ix 0 l s
  pos : 1 ≤ n
  fin : c.pst b n = 0
  mid : ∀ i, 1 ≤ i → i < n → c.pst b i ≠ 0
theorem found {H B : Int} {l b : List Int} {x : Int} (hOk : c.Ok) (hFew : c.Few) (hH : 2624 < H) (hp : c.PotOk H l) (hb : c.BstOk H l b) (f : c.Feas l) (x0 : 1 ≤ x) (x1 : x < c.ins) (hd : c.fdist l B = c.wW 0 x + ix 0 l (c.nN 0 x)) :
    ∃ n, c.Found l (b.set (0 : Int).toNat x) (c.fdist l B) n := by
  have hq := hOk.fld.1.bd.2.2.2.2.2.1
  have hs := states_ge (c := c) hq
  have hbl := hb.len
  have hself := ix_set_self b x (i := 0) (Int.le_refl _) (by omega)
  have hne : ∀ s, 0 < s → ix 0 (b.set (0 : Int).toNat x) s = ix 0 b s := fun s h => ix_set_ne b x (Int.le_refl _) (by omega) (by omega)
  have hn := nN_lt hq 0 x
  have hsm : ∀ s, 0 ≤ s → s < c.states → ix 0 l s ≤ 2624 := fun s h0 h1 => feas_small hOk hFew f h0 h1
  have hex : ∃ n, 1 ≤ n ∧ c.pst (b.set (0 : Int).toNat x) n = 0 ∧ ∀ i, 1 ≤ i → i < n → c.pst (b.set (0 : Int).toNat x) i ≠ 0 := by
    have h1 : c.pst (b.set (0 : Int).toNat x) 1 = c.nN 0 x := by rw [pst, pst, hself]
    by_cases hz : c.nN 0 x = 0
    · exact ⟨1, Nat.le_refl _, by rw [h1, hz], fun i g1 g2 => by omega⟩
    · obtain ⟨m, hm⟩ := hb.bp (c.nN 0 x) (by omega) hn.2 (by have := hsm _ hn.1 hn.2; omega)
      have hm2 := hm.setZero hq x hn.1
      rw [← h1] at hm2
      have := bpn_pst m 0 hm2
      exact ⟨0 + 1 + m, by omega, this.1, fun i g1 g2 => this.2 i (by omega) (by omega)⟩
  obtain ⟨n, n1, n2, n3⟩ := hex
  refine ⟨n, f, hp.len, hp.lo, by rw [hself]; exact x0, fun s => ?_, by rw [hself]; exact hd, fun y y0 y1 => ?_, fun s s0 s1 => ?_, n1, n2, n3⟩
  · by_cases hs0 : s.toNat = 0
    · have : ix 0 (b.set (0 : Int).toNat x) s = ix 0 (b.set (0 : Int).toNat x) 0 := by unfold ix; rw [hs0]; rfl
      rw [this, hself]; omega
    · rw [hne s (by omega)]; exact hb.rng s
  · exact fdTo_le l B _ y y0 (by omega)
  · rw [hne s s0]
    have h1 := hb.tight s s0 s1 (by have := hsm s (by omega) s1; omega)
    have h2 := f.2 s (ix 0 b s) s0 s1 (hb.rng s).1 (hb.rng s).2
    omega
theorem pst_shift {b : List Int} {i j : Nat} (h : c.pst b i = c.pst b j) : ∀ k, c.pst b (i + k) = c.pst b (j + k)
  | 0 => h
  | k + 1 => by
    have := pst_shift h k
    show c.nN (c.pst b (i + k)) (ix 0 b (c.pst b (i + k))) = c.nN (c.pst b (j + k)) (ix 0 b (c.pst b (j + k)))
    rw [this]
theorem Found.short {l b : List Int} {D : Int} {n : Nat} (hq : 2 ≤ c.F.q) (h : c.Found l b D n) : (n : Int) ≤ c.states + 1 := by
  have hs := states_ge (c := c) hq
  have hnd : ((List.range (n - 1)).map fun i => c.pst b (i + 1)).Nodup := by
    rw [List.nodup_iff_pairwise_ne, List.pairwise_iff_getElem]
    intro i j hi hj hij
    simp only [List.length_map, List.length_range] at hi hj
    simp only [List.getElem_map, List.getElem_range]
    intro e
    have h2 := pst_shift e (n - (j + 1))
    rw [show j + 1 + (n - (j + 1)) = n by omega, h.fin] at h2
    exact h.mid _ (by omega) (by omega) h2
  have := nodup_lt_length c.states.toNat _ hnd (fun x hx => by
    obtain ⟨i, _, rfl⟩ := List.mem_map.1 hx
    have := pst_lt hq b (i + 1)
    omega)
  simp only [List.length_map, List.length_range] at this
  omega
/-- The inputs of a path. -/
def msgR (c : Cnv) (b : List Int) (n : Int) : List (List Int) := mapR (fun t => c.inp (ix 0 b (c.pst b t.toNat))) n
theorem ix_msgR (b : List Int) {n t : Int} (h0 : 0 ≤ t) (h1 : t < n) : ix [] (c.msgR b n) t = c.inp (ix 0 b (c.pst b t.toNat)) := ix_mapR [] _ h0 h1
theorem msgR_good (hq : 2 ≤ c.F.q) (b : List Int) (n : Int) : c.GoodU (c.msgR b n) := by
  intro u hu
  unfold msgR mapR at hu
  obtain ⟨t, _, rfl⟩ := List.mem_map.1 hu
  exact inp_good hq _
theorem length_msgR (b : List Int) (n : Nat) : (c.msgR b n).length = n := by unfold msgR; rw [length_mapR]; omega
theorem ix_term_lo (us : List (List Int)) {t : Int} (h0 : 0 ≤ t) (h1 : t < us.length) : ix [] (c.term us) t = ix [] us t := by
  unfold ix term termTo
  simp only [List.getD]
  rw [List.getElem?_append_left (by omega)]
theorem encS_path (b : List Int) (n : Nat) : ∀ t : Nat, t ≤ n → c.encS (c.term (c.msgR b n)) t = c.pst b t
  | 0, _ => rfl
  | t + 1, h => by
    rw [encS, encS_path b n t (by omega), ix_term_lo _ (by omega) (by rw [length_msgR]; omega), ix_msgR b (by omega) (by omega), pst]
    rfl
theorem inp_pos (hq : 2 ≤ c.F.q) {x : Int} (h0 : 1 ≤ x) (h1 : x < c.ins) : wt1 (c.inp x) ≠ 0 := by
  intro h
  have h2 := (wt1_zero_iff _).1 h
  have h3 := valS_digS c.F.q hq c.Gen.length x (by omega) h1
  have h4 := valS_zero c.F.q (c.inp x) h2
  unfold inp at h4
  omega
theorem wtTo_path {l b : List Int} {D : Int} {n : Nat} (hq : 2 ≤ c.F.q) (h : c.Found l b D n) : ∀ t : Nat, t + 1 ≤ n → wtTo (c.encL (c.term (c.msgR b n))) (t + 1) = D - ix 0 l (c.pst b (t + 1))
  | 0, ht => by
    have hlt : (c.term (c.msgR b n)).length = (c.msgR b n).length + c.mem.toNat := length_termTo _ c.mem
    have hlm := length_msgR (c := c) b n
    rw [wtTo_step (by omega)]
    have ho : c.encO (c.term (c.msgR b n)) ((0 : Nat) : Int) = c.outL 0 (c.inp (ix 0 b 0)) := by
      unfold encO
      rw [show (((0 : Nat) : Int)).toNat = 0 from rfl, encS_path b n 0 (by omega), ix_term_lo _ (by omega) (by omega), ix_msgR b (by omega) (by omega)]
      rfl
    rw [ho, h.dist]
    show wtTo _ 0 + c.wW 0 (ix 0 b 0) = _
    rw [show c.pst b (0 + 1) = c.nN 0 (ix 0 b 0) from rfl, wtTo]; omega
  | t + 1, ht => by
    have hlt : (c.term (c.msgR b n)).length = (c.msgR b n).length + c.mem.toNat := length_termTo _ c.mem
    have hlm := length_msgR (c := c) b n
    rw [wtTo_step (by omega), wtTo_path hq h t (by omega)]
    have ho : c.encO (c.term (c.msgR b n)) ((t + 1 : Nat) : Int) = c.outL (c.pst b (t + 1)) (c.inp (ix 0 b (c.pst b (t + 1)))) := by
      unfold encO
      rw [show (((t + 1 : Nat) : Int)).toNat = t + 1 by omega, encS_path b n (t + 1) (by omega), ix_term_lo _ (by omega) (by omega), ix_msgR b (by omega) (by omega)]
      rw [show (((t + 1 : Nat) : Int)).toNat = t + 1 by omega]
    have hp := pst_lt hq b (t + 1)
    have hm := h.mid (t + 1) (by omega) (by omega)
    have hti := h.tight (c.pst b (t + 1)) (by omega) hp.2
    rw [ho]
    show _ + c.wW (c.pst b (t + 1)) (ix 0 b (c.pst b (t + 1))) = D - ix 0 l (c.nN (c.pst b (t + 1)) (ix 0 b (c.pst b (t + 1))))
    omega
theorem path_weight {l b : List Int} {D : Int} {n : Nat} (hS : Shape c.F) (h : c.Found l b D n) : wtL (c.encL (c.term (c.msgR b n))) = D := by
  have hq := hS.bd.2.2.2.2.2.1
  have hlt : (c.term (c.msgR b n)).length = (c.msgR b n).length + c.mem.toNat := length_termTo _ c.mem
  have hlm := length_msgR (c := c) b n
  have hpos := h.pos
  have key : ∀ k : Nat, n + k ≤ (c.term (c.msgR b n)).length → c.encS (c.term (c.msgR b n)) (n + k) = 0 ∧ wtTo (c.encL (c.term (c.msgR b n))) (n + k) = D := by
    intro k
    induction k with
    | zero =>
      intro _
      refine ⟨by rw [Nat.add_zero, encS_path b n n (Nat.le_refl _)]; exact h.fin, ?_⟩
      have := wtTo_path hq h (n - 1) (by omega)
      rw [show n - 1 + 1 = n by omega, h.fin, h.feas.1] at this
      rw [Nat.add_zero, this]; omega
    | succ k ih =>
      intro hk
      obtain ⟨i1, i2⟩ := ih (by omega)
      have hz : ix [] (c.term (c.msgR b n)) ((n + k : Nat) : Int) = c.zrow := by
        unfold ix term termTo
        simp only [List.getD]
        rw [List.getElem?_append_right (by omega), List.getElem?_replicate, if_pos (by omega)]; rfl
      refine ⟨?_, ?_⟩
      · show c.nxt (c.encS (c.term (c.msgR b n)) (n + k)) (ix [] (c.term (c.msgR b n)) ((n + k : Nat) : Int)) c.Gen.length = 0
        rw [i1, hz]
        exact nxt_zero _ fun i d i0 i1 d0 d1 => line_zero hq i0 i1 d0 (by omega)
      · show wtTo _ (n + k + 1) = D
        rw [wtTo_step (by omega), i2]
        have ho : c.encO (c.term (c.msgR b n)) ((n + k : Nat) : Int) = c.outL 0 c.zrow := by
          unfold encO
          rw [show (((n + k : Nat) : Int)).toNat = n + k by omega, i1, hz]
        rw [ho, outL_zero hS, wt1_replicate]; omega
  have := (key c.mem.toNat (by omega)).2
  unfold wtL
  rw [length_encL, hlt, hlm]
  exact this
theorem found_acc {l b : List Int} {D : Int} {n : Nat} (hOk : c.Ok) (hFew : c.Few) (h : c.Found l b D n) : c.Acc ⟨D, c.msgR b n, l⟩ := by
  have hS := hOk.fld.1
  have hq := hS.bd.2.2.2.2.2.1
  refine ⟨⟨msgR_good hq b n, ?_, path_weight hS h⟩, ⟨h.len, h.feas.1⟩, ?_, fun s x s0 s1 x0 x1 => ?_⟩
  · refine (wtL_pos_iff _).2 ⟨ix [] (c.msgR b n) 0, ix_mem [] _ (Int.le_refl _) (by rw [length_msgR]; have := h.pos; omega), ?_⟩
    rw [ix_msgR b (Int.le_refl _) (by have := h.pos; omega)]
    have h1 := inp_pos hq h.x0 (h.rng 0).2
    have h2 := (wt1To_le (c.inp (ix 0 b 0)) (c.inp (ix 0 b 0)).length).1
    show 0 < wt1 (c.inp (ix 0 b 0))
    unfold wt1 at h1 ⊢; omega
  · rintro ⟨v, hv, hb⟩
    obtain ⟨j, hj1, hj2, rfl⟩ := mem_take_getD 0 l l.length v (by simpa using hv)
    have h1 := h.lo j
    have h2 := feas_small hOk hFew h.feas (s := (j : Int)) (by omega) (by have := h.len; omega)
    omega
  · unfold bad
    rintro (⟨g1, g2⟩ | ⟨⟨g1, g2⟩, g3⟩)
    · have := h.feas.2 s x g1 s1 x0 x1
      unfold wW nN at this
      dsimp only at g2
      omega
    · subst g1
      have := h.least x (by omega) x1
      unfold wW nN at this
      dsimp only at g3
      omega
end Cnv
end Go.Cw
namespace Go.Cw
theorem fill_first {f : Int → Int} (h : f 0 = 0) {n : Int} (hn : 1 ≤ n) : fillR f 0 n 1 = List.replicate n.toNat 0 := by
  unfold fillR mapR
  rw [show n.toNat = (n - 1).toNat + 1 by omega, List.replicate_succ, show (1 : Int).toNat = 1 from rfl]
  simp [h]
namespace Cnv
variable {c : Cnv}
/-- The least weights. -/
noncomputable def leastL (c : Cnv) : List Int := open Classical in if h : ∃ l, c.PotOk 1073741824 l ∧ c.Feas l then h.choose else []
theorem least_eq (hOk : c.Ok) (hFew : c.Few) (hex : ∃ l, c.PotOk 1073741824 l ∧ c.Feas l) {H : Int} (hH : 2624 < H) {l : List Int} (hp : c.PotOk H l) (f : c.Feas l) : l = c.leastL := by
  have : c.PotOk 1073741824 c.leastL ∧ c.Feas c.leastL := by unfold leastL; rw [dif_pos hex]; exact hex.choose_spec
  exact pot_unique hOk hFew hH (by omega) hp this.1 f this.2
def sumB (b : Bool) : Nat := if b then 1 else 0
/-- What Free must return. -/
def FreeOk (c : Cnv) (p : Fp) : Prop := c.Acc p ∧ c.PotOk 2147483648 p.Pot ∧ c.Feas p.Pot ∧ p.D = c.fdist p.Pot 4294967296 ∧ (p.Msg.length : Int) ≤ c.states + 1
theorem found_ok {l b : List Int} {n : Nat} (hOk : c.Ok) (hFew : c.Few) (hp : c.PotOk 2147483648 l) (h : c.Found l b (c.fdist l 4294967296) n) : c.FreeOk ⟨c.fdist l 4294967296, c.msgR b n, l⟩ :=
  ⟨found_acc hOk hFew h, hp, h.feas, rfl, by show ((c.msgR b n).length : Int) ≤ _; rw [length_msgR]; exact h.short hOk.fld.1.bd.2.2.2.2.2.1⟩
end Cnv
end Go.Cw
namespace Go.Cw
namespace Cnv
variable {c : Cnv}
theorem PotOk.any {H H' : Int} {l : List Int} (hOk : c.Ok) (hFew : c.Few) (hH : 2624 < H) (hH' : 2624 ≤ H') (h : c.PotOk H l) (f : c.Feas l) : c.PotOk H' l := by
  have hb : ∀ s, ix 0 l s ≤ 2624 := fun s => by
    have hl := h.len
    by_cases h0 : 0 ≤ s ∧ s < c.states
    · exact feas_small hOk hFew f h0.1 h0.2
    · by_cases h1 : s < 0
      · have : ix 0 l s = ix 0 l 0 := by unfold ix; rw [show s.toNat = (0 : Int).toNat by omega]
        rw [this, f.1]; omega
      · rw [ix_ge l (by omega)]; omega
  refine ⟨h.len, h.z, h.lo, fun s => by have := hb s; omega, fun s s0 s1 => ?_⟩
  rcases h.rc s s0 s1 with g | g
  · have := hb s; omega
  · exact .inr g
theorem free_least {p : Fp} (hOk : c.Ok) (hFew : c.Few) (h : c.FreeOk p) : c.PotOk 1073741824 c.leastL ∧ p.D = c.fdist c.leastL 1073741824 ∧ c.Acc p := by
  obtain ⟨h1, h2, h3, h4, _⟩ := h
  have h5 := PotOk.any (H' := 1073741824) hOk hFew (by omega) (by omega) h2 h3
  have h6 := least_eq hOk hFew ⟨_, h5, h3⟩ (by omega) h2 h3
  refine ⟨by rw [← h6]; exact h5, ?_, h1⟩
  rw [h4, ← h6]
  exact fdist_indep hOk hFew h3 (by omega) (by omega)
/-- The best first input, as far as the inputs below x tell. -/
def Best (c : Cnv) (l b b3 : List Int) (B x : Int) : Prop := (x = 1 ∧ b3 = b) ∨ ∃ y, 1 ≤ y ∧ y < x ∧ b3 = b.set (0 : Int).toNat y ∧ c.fdTo l B (x - 1).toNat = c.wW 0 y + ix 0 l (c.nN 0 y)
theorem Best.take {l b b3 : List Int} {B x : Int} (x0 : 1 ≤ x) (h : c.Best l b b3 B x) (hv : c.wW 0 x + ix 0 l (c.nN 0 x) < c.fdTo l B (x - 1).toNat) : c.Best l b (b3.set (0 : Int).toNat x) B (x + 1) := by
  refine .inr ⟨x, x0, by omega, ?_, ?_⟩
  · rcases h with ⟨_, rfl⟩ | ⟨y, _, _, rfl, _⟩
    · rfl
    · rw [List.set_set]
  · rw [show x + 1 - 1 = x by omega, fdTo_succ _ _ x0]; omega
theorem Best.skip {l b b3 : List Int} {B x : Int} (x0 : 1 ≤ x) (h : c.Best l b b3 B x) (hv : ¬ c.wW 0 x + ix 0 l (c.nN 0 x) < c.fdTo l B (x - 1).toNat) (hB : c.wW 0 1 + ix 0 l (c.nN 0 1) < B) : c.Best l b b3 B (x + 1) := by
  rcases h with ⟨rfl, rfl⟩ | ⟨y, y0, y1, rfl, hy⟩
  · exact absurd (by rw [show (1 - 1 : Int).toNat = 0 from rfl, fdTo]; exact hB) hv
  · refine .inr ⟨y, y0, by omega, rfl, ?_⟩
    rw [show x + 1 - 1 = x by omega, fdTo_succ _ _ x0, ← hy]; omega
end Cnv
end Go.Cw
