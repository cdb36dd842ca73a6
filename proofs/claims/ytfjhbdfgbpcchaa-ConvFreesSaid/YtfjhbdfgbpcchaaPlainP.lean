/-
  Messages: states, outputs, and the products of the reference.
-/
import Derived.Test.YtfjhbdfgbpcchaaPlainO
set_option linter.unusedVariables false
set_option linter.unusedSimpArgs false
set_option linter.unusedSectionVars false
namespace Go.Cw
namespace Cnv
variable {c : Cnv} {s : Int} {inn : List Int}
/-! ### The digits of the next state -/
/-- Digit d of row i of a state. -/
def dg (c : Cnv) (s i d : Int) : Int := s / c.fst i / c.F.q ^ d.toNat % c.F.q
theorem take_line (c : Cnv) (s : Int) (inn : List Int) (i : Int) (n : Nat) (h : (n : Int) ≤ c.deg i) : ((c.line s inn i).take (n + 1)) = (c.line s inn i).take n ++ [ix 0 (c.line s inn i) n] := by
  have := take_succ_ix 0 (c.line s inn i) (i := (n : Int)) (by omega) (by have := c.length_line s inn i; omega)
  simpa [show ((n : Int) + 1).toNat = n + 1 by omega] using this
theorem valS_snoc (q : Int) : ∀ (l : List Int) (a : Int), valS q (l ++ [a]) = valS q l + a * q ^ l.length
  | [], a => by simp [valS]
  | b :: l, a => by
    rw [List.cons_append, valS, valS_snoc q l a, List.length_cons, Int.pow_succ, valS]
    rw [Int.add_mul, Int.mul_assoc]; omega
theorem nxE_val (c : Cnv) (s : Int) (inn : List Int) (i : Int) : ∀ n : Nat, (n : Int) ≤ c.deg i → c.nxE s inn i n = c.fst i * valS c.F.q ((c.line s inn i).take n)
  | 0, _ => by simp [nxE, valS]
  | n + 1, h => by
    have ih := nxE_val c s inn i n (by omega)
    have hl := c.length_line s inn i
    rw [nxE, ih, take_line c s inn i n (by omega), valS_snoc, List.length_take, Nat.min_eq_left (by omega), Int.mul_add]
    rw [← Int.mul_assoc, ← Int.mul_assoc, Int.mul_comm (ix 0 _ _) (c.fst i)]
theorem fst_mul (c : Cnv) {i m : Int} (h0 : 0 ≤ i) (h1 : i < m) (d : Int) (d0 : 0 ≤ d) (d1 : d < c.deg i) : ∃ y, c.fst m = c.fst i * c.F.q ^ d.toNat * (c.F.q * y) := by
  obtain ⟨k, hk⟩ : ∃ k : Nat, m.toNat = (i.toNat + 1) + k := ⟨m.toNat - (i.toNat + 1), by omega⟩
  have hs := c.sumD_mono (i.toNat + 1) k
  have h2 : c.sumD (i.toNat + 1) = c.sumD i.toNat + c.deg i := by have := c.sumD_succ h0; rwa [show (i + 1).toNat = i.toNat + 1 by omega] at this
  have hn := c.sumD_nonneg i.toNat
  refine ⟨c.F.q ^ ((c.sumD m.toNat).toNat - ((c.sumD i.toNat).toNat + d.toNat + 1)), ?_⟩
  unfold fst
  rw [← Int.pow_succ', ← Int.pow_add, ← Int.pow_add]
  congr 1
  rw [hk]; omega
theorem div_drop {a X q : Int} (hX : 0 < X) (hq : 0 < q) (y : Int) : (a + X * (q * y)) / X % q = a / X % q := by
  rw [Int.add_mul_ediv_left _ _ (by omega), Int.add_mul_emod_self_left]
theorem nxE_dvd (c : Cnv) (s : Int) (inn : List Int) (i : Int) : ∀ n : Nat, ∃ z, c.nxE s inn i n = c.fst i * z
  | 0 => ⟨0, by simp [nxE]⟩
  | n + 1 => by
    obtain ⟨z, hz⟩ := nxE_dvd c s inn i n
    refine ⟨z + ix 0 (c.line s inn i) n * c.F.q ^ n, ?_⟩
    rw [nxE, hz, Int.mul_add]
    congr 1
    rw [← Int.mul_assoc, ← Int.mul_assoc, Int.mul_comm (ix 0 _ _) (c.fst i)]
/-- The digits of the next state are the inputs of one step less ago. -/
theorem dg_nxt {c : Cnv} {s : Int} {inn : List Int} (hq : 2 ≤ c.F.q) (hg : c.GoodIn inn) {i d : Int} (h0 : 0 ≤ i) (d0 : 0 ≤ d) (d1 : d < c.deg i) : ∀ m : Nat, i < m → m ≤ c.Gen.length → c.dg (c.nxt s inn m) i d = ix 0 (c.line s inn i) d := by
  have hfp := c.fst_pos hq i
  have hpq := pow_pos_of c.F.q hq d.toNat
  have hX : 0 < c.fst i * c.F.q ^ d.toNat := by have := Int.mul_pos (show 0 < c.fst i by omega) (show 0 < c.F.q ^ d.toNat by omega); omega
  intro m
  induction m with
  | zero => intro h; omega
  | succ m ih =>
    intro him hm
    by_cases hlt : i < m
    · have hi := ih hlt (by omega)
      unfold dg at hi ⊢
      rw [Int.ediv_ediv_of_nonneg (by omega)] at hi ⊢
      obtain ⟨z, hz⟩ := nxE_dvd c s inn m (c.deg m).toNat
      obtain ⟨y, hy⟩ := fst_mul c h0 hlt d d0 d1
      rw [nxt, hz, hy, show c.fst i * c.F.q ^ d.toNat * (c.F.q * y) * z = c.fst i * c.F.q ^ d.toNat * (c.F.q * (y * z)) by rw [Int.mul_assoc, Int.mul_assoc c.F.q y z], div_drop hX (by omega)]
      exact hi
    · have him' : i = (m : Int) := by omega
      have hlow := nxt_lt (s := s) hq hg m (by omega)
      rw [← him'] at hlow
      have hl := c.length_line s inn i
      have hdn := c.deg_nonneg i
      unfold dg
      rw [nxt, ← him', nxE_val c s inn i _ (by omega)]
      rw [Int.add_mul_ediv_left _ _ (by omega), Int.ediv_eq_zero_of_lt hlow.1 hlow.2, Int.zero_add]
      have hlen : ((c.line s inn i).take (c.deg i).toNat).length = (c.deg i).toNat := by rw [List.length_take]; omega
      have hv := digS_valS c.F.q hq ((c.line s inn i).take (c.deg i).toNat) (fun x hx => by
        obtain ⟨j, hj1, hj2, hj3⟩ := mem_take_getD 0 _ _ _ hx
        rw [← hj3]
        exact line_lt (s := s) hq hg h0 (by omega) (by omega) (by omega))
      rw [hlen] at hv
      have hd := ix_digS c.F.q (by omega) (c.deg i).toNat (valS c.F.q ((c.line s inn i).take (c.deg i).toNat)) d.toNat (by omega)
      rw [← hd, hv, show ((d.toNat : Nat) : Int) = d by omega]
      exact ix_take _ d0 (by omega)
theorem dg_line (hq : 2 ≤ c.F.q) {i d : Int} (d0 : 0 ≤ d) (d1 : d < c.deg i) : ix 0 (c.line s inn i) (d + 1) = c.dg s i d := c.ix_line_succ s inn hq d0 d1
/-! ### Messages -/
/-- All steps are inputs. -/
def GoodU (c : Cnv) (us : List (List Int)) : Prop := ∀ u ∈ us, c.GoodIn u
/-- The first error of a message. -/
noncomputable def stepsErr (c : Cnv) : List (List Int) → Int
  | [] => 0
  | u :: us => if c.inErr u = 0 then stepsErr c us else c.inErr u
theorem stepsErr_zero {c : Cnv} : ∀ {us : List (List Int)}, c.stepsErr us = 0 ↔ c.GoodU us
  | [] => ⟨fun _ u h => absurd h (by simp), fun _ => rfl⟩
  | u :: us => by
    unfold stepsErr
    by_cases h : c.inErr u = 0
    · rw [if_pos h, stepsErr_zero]
      constructor
      · intro g v hv
        rcases List.mem_cons.1 hv with rfl | hv
        · exact inErr_zero.1 h
        · exact g v hv
      · exact fun g v hv => g v (List.mem_cons_of_mem _ hv)
    · rw [if_neg h]
      exact ⟨fun g => absurd g h, fun g => absurd (inErr_zero.2 (g u (by simp))) h⟩
theorem stepsErr_at : ∀ (us : List (List Int)) (t : Nat), (∀ u ∈ us.take t, c.inErr u = 0) → t < us.length → c.inErr (us.getD t []) ≠ 0 → c.stepsErr us = c.inErr (us.getD t [])
  | [], t, _, h, _ => by simp at h
  | u :: us, 0, _, _, h => by
    unfold stepsErr
    simp at h ⊢
    exact fun g => absurd g h
  | u :: us, t + 1, hg, h, hn => by
    unfold stepsErr
    rw [if_pos (hg u (by simp))]
    simpa using stepsErr_at us t (fun v hv => hg v (by simp [hv])) (by simpa using h) (by simpa using hn)
/-- The first steps are good. -/
def OkTo (c : Cnv) (us : List (List Int)) (t : Int) : Prop := ∀ u ∈ us.take t.toNat, c.inErr u = 0
theorem OkTo.zero (c : Cnv) (us : List (List Int)) : c.OkTo us 0 := by intro u h; simp at h
theorem OkTo.succ {us : List (List Int)} {t : Int} (h : c.OkTo us t) (h0 : 0 ≤ t) (h1 : t < us.length) (h2 : c.inErr (ix [] us t) = 0) : c.OkTo us (t + 1) := by
  intro u hu
  rw [take_succ_ix [] us h0 h1] at hu
  rcases List.mem_append.1 hu with hu | hu
  · exact h u hu
  · rw [List.mem_singleton] at hu; rw [hu]; exact h2
theorem OkTo.all {us : List (List Int)} {t : Int} (h : c.OkTo us t) (h1 : us.length ≤ t) : c.stepsErr us = 0 := by
  refine stepsErr_zero.2 fun u hu => inErr_zero.1 (h u ?_)
  rw [List.take_of_length_le (by omega)]; exact hu
theorem OkTo.bad {us : List (List Int)} {t : Int} (h : c.OkTo us t) (h0 : 0 ≤ t) (h1 : t < us.length) (h2 : c.inErr (ix [] us t) ≠ 0) : c.stepsErr us = c.inErr (ix [] us t) :=
  stepsErr_at us t.toNat h (by omega) h2
/-- The state before step t. -/
def encS (c : Cnv) (us : List (List Int)) : Nat → Int
  | 0 => 0
  | t + 1 => c.nxt (encS c us t) (ix [] us t) c.Gen.length
theorem encS_succ (c : Cnv) (us : List (List Int)) {t : Int} (h : 0 ≤ t) : c.encS us (t + 1).toNat = c.nxt (c.encS us t.toNat) (ix [] us t) c.Gen.length := by
  rw [show (t + 1).toNat = t.toNat + 1 by omega, encS, show ((t.toNat : Nat) : Int) = t by omega]
def encO (c : Cnv) (us : List (List Int)) (t : Int) : List Int := c.outL (c.encS us t.toNat) (ix [] us t)
/-- The outputs. -/
def encL (c : Cnv) (us : List (List Int)) : List (List Int) := mapR (c.encO us) us.length
theorem GoodU.at {us : List (List Int)} (h : c.GoodU us) {t : Int} (h0 : 0 ≤ t) (h1 : t < us.length) : c.GoodIn (ix [] us t) := h _ (ix_mem [] us h0 h1)
theorem encS_lt {us : List (List Int)} (hq : 2 ≤ c.F.q) (h : c.GoodU us) : ∀ t : Nat, t ≤ us.length → 0 ≤ c.encS us t ∧ c.encS us t < c.states
  | 0, _ => by
    have := pow_pos_of c.F.q hq (c.sumD c.Gen.length).toNat
    unfold states encS; omega
  | t + 1, ht => by
    have := nxt_lt (s := c.encS us t) hq (h.at (t := (t : Int)) (by omega) (by omega)) c.Gen.length (Nat.le_refl _)
    rw [encS]
    simpa [fst, states] using this
/-- The input of row i, d steps before t. -/
def hist (us : List (List Int)) (i t d : Int) : Int := if d ≤ t then ix 0 (ix [] us (t - d)) i else 0
/-- A state knows the inputs of the last steps. -/
theorem dg_encS {us : List (List Int)} (hq : 2 ≤ c.F.q) (h : c.GoodU us) {i : Int} (h0 : 0 ≤ i) (h1 : i < c.Gen.length) : ∀ (t : Nat), t ≤ us.length → ∀ d : Int, 0 ≤ d → d < c.deg i → c.dg (c.encS us t) i d = hist us i t (d + 1)
  | 0, _, d, d0, d1 => by
    unfold hist dg encS
    rw [if_neg (by simp; omega)]
    simp
  | t + 1, ht, d, d0, d1 => by
    have hgi := h.at (t := (t : Int)) (by omega) (by omega)
    rw [encS, dg_nxt hq hgi h0 d0 d1 c.Gen.length h1 (Nat.le_refl _)]
    by_cases hd : d = 0
    · subst hd
      unfold hist
      rw [if_pos (by omega), ix_line_zero, show ((t + 1 : Nat) : Int) - (0 + 1) = (t : Int) by omega]
    · obtain ⟨g, rfl⟩ : ∃ g, d = g + 1 := ⟨d - 1, by omega⟩
      rw [dg_line hq (by omega) (by omega), dg_encS hq h h0 h1 t (by omega) g (by omega) (by omega)]
      unfold hist
      by_cases hgt : g + 1 ≤ (t : Int)
      · rw [if_pos hgt, if_pos (by omega), show ((t + 1 : Nat) : Int) - (g + 1 + 1) = (t : Int) - (g + 1) by omega]
      · rw [if_neg hgt, if_neg (by omega)]
theorem line_encS {us : List (List Int)} (hq : 2 ≤ c.F.q) (h : c.GoodU us) {i t : Int} (h0 : 0 ≤ i) (h1 : i < c.Gen.length) (t0 : 0 ≤ t) (t1 : t < us.length) {d : Int} (d0 : 0 ≤ d) (d1 : d ≤ c.deg i) :
    ix 0 (c.line (c.encS us t.toNat) (ix [] us t) i) d = hist us i t d := by
  by_cases hd : d = 0
  · subst hd
    rw [ix_line_zero]; unfold hist; rw [if_pos t0, Int.sub_zero]
  · obtain ⟨g, rfl⟩ : ∃ g, d = g + 1 := ⟨d - 1, by omega⟩
    rw [dg_line hq (by omega) (by omega), dg_encS hq h h0 h1 t.toNat (by omega) g (by omega) (by omega), show ((t.toNat : Nat) : Int) = t by omega]
/-! ### The products of the reference -/
/-- The inputs of row i up to step t, the last first. -/
def back (us : List (List Int)) (i t : Int) : List Int := mapR (fun d => ix 0 (ix [] us (t - d)) i) (t + 1)
theorem ix_back (us : List (List Int)) {i t d : Int} (d0 : 0 ≤ d) (d1 : d ≤ t) : ix 0 (back us i t) d = ix 0 (ix [] us (t - d)) i := ix_mapR 0 _ d0 (by omega)
theorem length_back (us : List (List Int)) {i t : Int} (t0 : 0 ≤ t) : ((back us i t).length : Int) = t + 1 := by unfold back; rw [length_mapR]; omega
/-- Output j of step t, as far as the first rows tell. -/
def refTo (c : Cnv) (us : List (List Int)) (t j : Int) : Nat → Int
  | 0 => 0
  | i + 1 => accF c.F (refTo c us t j i) (ix [] (ix [] c.Gen i) j) (back us i t) (min (t + 1) ((ix [] (ix [] c.Gen i) j).length : Int)).toNat
theorem refTo_succ (c : Cnv) (us : List (List Int)) (t j : Int) {i : Int} (h : 0 ≤ i) : c.refTo us t j (i + 1).toNat = accF c.F (c.refTo us t j i.toNat) (ix [] (ix [] c.Gen i) j) (back us i t) (min (t + 1) ((ix [] (ix [] c.Gen i) j).length : Int)).toNat := by
  rw [show (i + 1).toNat = i.toNat + 1 by omega, refTo, show ((i.toNat : Nat) : Int) = i by omega]
theorem refTo_lt (h : Shape c.F) (us : List (List Int)) (t j : Int) : ∀ i, 0 ≤ c.refTo us t j i ∧ c.refTo us t j i < c.F.q
  | 0 => by have := h.bd; simp only [refTo]; omega
  | i + 1 => by rw [refTo]; exact accF_lt h (refTo_lt h us t j i).1 (refTo_lt h us t j i).2 _ _ _
def refR (c : Cnv) (us : List (List Int)) (t : Int) : List Int := mapR (fun jj => c.refTo us t jj c.Gen.length) c.n
def refL (c : Cnv) (us : List (List Int)) : List (List Int) := mapR (c.refR us) us.length
theorem dotTo_congr2 {f : Fld} {a b a' b' : List Int} : ∀ n : Nat, (∀ k : Nat, k < n → mulF f (ix 0 a k) (ix 0 b k) = mulF f (ix 0 a' k) (ix 0 b' k)) → dotTo f a b n = dotTo f a' b' n
  | 0, _ => rfl
  | n + 1, h => by simp only [dotTo]; rw [dotTo_congr2 n (fun k hk => h k (by omega)), h n (by omega)]
theorem ix_ge (l : List Int) {i : Int} (h : (l.length : Int) ≤ i) : ix 0 l i = 0 := by unfold ix; simp [List.getD]; rw [List.getElem?_eq_none (by omega)]; rfl
theorem dotTo_up {f : Fld} (h : Shape f) {l p : List Int} {n m : Nat} (hnm : n ≤ m) (hz : ∀ k : Nat, n ≤ k → ix 0 l k = 0 ∨ ix 0 p k = 0) : dotTo f l p n = dotTo f l p m := by
  have hb := h.bd
  have := dotTo_end h (l := l) (p := p) (n := n) (fun k hk => (hz k hk).imp (fun g => by rw [g]; exact inF_id (by omega) (by omega)) (fun g => by rw [g]; exact inF_id (by omega) (by omega))) (m - n)
  rw [show n + (m - n) = m by omega] at this
  exact this.symm
theorem mulF_comm' {f : Fld} (h : Shape f) (x y : Int) : mulF f x y = mulF f y x := by
  have h1 := h.mulF_lt x y
  have h2 := h.mulF_lt y x
  refine Shape.e_inj h h1.1 h1.2 h2.1 h2.2 ?_
  rw [Shape.e_mul h, Shape.e_mul h]; exact Rg.mul_comm f.R (Rg.elt_el f.R _) (Rg.elt_el f.R _)
theorem mulF_0 {f : Fld} (h : Shape f) (x : Int) : mulF f x 0 = 0 := mulF_zero h (.inr (by have := h.bd; exact inF_id (by omega) (by omega)))
theorem mulF_0' {f : Fld} (h : Shape f) (x : Int) : mulF f 0 x = 0 := mulF_zero h (.inl (by have := h.bd; exact inF_id (by omega) (by omega)))
theorem row_eq {us : List (List Int)} (hS : Shape c.F) (h : c.GoodU us) {i j t : Int} (h0 : 0 ≤ i) (h1 : i < c.Gen.length) (j0 : 0 ≤ j) (j1 : j < (ix [] c.Gen i).length) (t0 : 0 ≤ t) (t1 : t < us.length) :
    dotTo c.F (c.line (c.encS us t.toNat) (ix [] us t) i) (ix [] (ix [] c.Gen i) j) ((c.deg i).toNat + 1) = dotTo c.F (ix [] (ix [] c.Gen i) j) (back us i t) (min (t + 1) ((ix [] (ix [] c.Gen i) j).length : Int)).toNat := by
  have hq := hS.bd
  have hd := c.deg_nonneg i
  have hll := c.length_line (c.encS us t.toNat) (ix [] us t) i
  have hbl := length_back us (i := i) t0
  generalize hp : ix [] (ix [] c.Gen i) j = p
  have hpz : ∀ d : Int, c.deg i < d → ix 0 p d = 0 := fun d hd => by rw [← hp]; exact c.gen_zero j0 j1 hd
  let N := (c.deg i).toNat + 1 + p.length + us.length + 1
  have e1 := dotTo_up hS (l := c.line (c.encS us t.toNat) (ix [] us t) i) (p := p) (n := (c.deg i).toNat + 1) (m := N) (by omega) (fun k hk => .inr (hpz k (by omega)))
  have e2 := dotTo_up hS (l := p) (p := back us i t) (n := (min (t + 1) (p.length : Int)).toNat) (m := N) (by omega) (fun k hk => by
    by_cases g : (p.length : Int) ≤ k
    · exact .inl (ix_ge p g)
    · exact .inr (ix_ge _ (by omega)))
  rw [e1, e2]
  refine dotTo_congr2 N fun k _ => ?_
  by_cases hk : (k : Int) ≤ c.deg i
  · rw [line_encS hq.2.2.2.2.2.1 h h0 h1 t0 t1 (by omega) hk, mulF_comm' hS]
    unfold hist
    by_cases hkt : (k : Int) ≤ t
    · rw [if_pos hkt, ix_back us (by omega) hkt]
    · rw [if_neg hkt, ix_ge _ (by omega : ((back us i t).length : Int) ≤ k)]
  · rw [hpz k (by omega), mulF_0 hS, mulF_0' hS]
theorem out_eq {us : List (List Int)} (hOk : c.Ok) (h : c.GoodU us) {j t : Int} (j0 : 0 ≤ j) (j1 : j < c.n) (t0 : 0 ≤ t) (t1 : t < us.length) : ∀ i : Nat, i ≤ c.Gen.length → c.outTo (c.encS us t.toNat) (ix [] us t) j i = c.refTo us t j i
  | 0, _ => rfl
  | i + 1, hi => by
    have hS := hOk.fld.1
    have hr := hOk.row (i := (i : Int)) (by omega) (by omega)
    rw [outTo, refTo, out_eq hOk h j0 j1 t0 t1 i (by omega)]
    rw [accF_dot hS (refTo_lt hS us t j i).1 (refTo_lt hS us t j i).2, accF_dot hS (refTo_lt hS us t j i).1 (refTo_lt hS us t j i).2]
    rw [row_eq hS h (by omega) (by omega) j0 (by omega) t0 t1]
theorem encL_eq {us : List (List Int)} (hOk : c.Ok) (h : c.GoodU us) : c.encL us = c.refL us := by
  unfold encL refL
  refine mapR_congr fun t t0 t1 => ?_
  unfold encO outL refR
  exact mapR_congr fun j j0 j1 => out_eq hOk h j0 j1 t0 t1 _ (Nat.le_refl _)
/-- The error of Encode. -/
noncomputable def encErr (c : Cnv) (us : List (List Int)) : Int := if c.err = 0 then c.stepsErr us else c.err
noncomputable def encE (c : Cnv) (us : List (List Int)) : List (List Int) := if c.encErr us = 0 then c.encL us else []
theorem encErr_zero {us : List (List Int)} : c.encErr us = 0 ↔ c.Ok ∧ c.GoodU us := by
  unfold encErr
  by_cases h : c.err = 0
  · rw [if_pos h, stepsErr_zero]; exact ⟨fun g => ⟨err_zero.1 h, g⟩, fun g => g.2⟩
  · rw [if_neg h]; exact ⟨fun g => absurd g h, fun g => absurd (err_zero.2 g.1) h⟩
end Cnv
end Go.Cw
namespace Go.Cw
theorem ix_set_self (l : List Int) {i : Int} (v : Int) (h0 : 0 ≤ i) (h1 : i < l.length) : ix 0 (l.set i.toNat v) i = v := by
  have hi : i.toNat < l.length := by omega
  unfold ix; simp [List.getD, hi]
theorem set_fill0 (F : Int → Int) {n v : Int} (h0 : 0 ≤ v) (h1 : v < n) : (fillR F 0 n v).set v.toNat 0 = fillR F 0 n v := by
  unfold fillR
  have hl : (mapR F v).length = v.toNat := length_mapR F v
  rw [List.set_append_right _ _ (by omega), hl, Nat.sub_self]
  congr 1
  rw [show (n - v).toNat = (n - v).toNat - 1 + 1 by omega, List.replicate_succ, List.set_cons_zero]
namespace Cnv
theorem encS_lt_to {c : Cnv} {us : List (List Int)} (hq : 2 ≤ c.F.q) : ∀ t : Nat, t ≤ us.length → c.OkTo us t → 0 ≤ c.encS us t ∧ c.encS us t < c.states
  | 0, _, _ => by
    have := pow_pos_of c.F.q hq (c.sumD c.Gen.length).toNat
    unfold states encS; omega
  | t + 1, ht, h => by
    have hg : c.GoodIn (ix [] us t) := inErr_zero.1 (h _ (by
      have := take_succ_ix [] us (i := (t : Int)) (by omega) (by omega)
      rw [show ((t + 1 : Nat) : Int) = (t : Int) + 1 by omega, this]; simp))
    have := nxt_lt (s := c.encS us t) hq hg c.Gen.length (Nat.le_refl _)
    rw [encS]
    simpa [fst, states] using this
noncomputable def encB (c : Cnv) (us : List (List Int)) : List (List Int) := if c.stepsErr us = 0 then c.encL us else []
end Cnv
end Go.Cw
