/-
  All steps of a machine.
-/
import Derived.Test.YtfjhbdfgbpcchaaPlainW
set_option linter.unusedVariables false
set_option linter.unusedSimpArgs false
set_option linter.unusedSectionVars false
namespace Go.Cw
namespace Cnv
variable {c : Cnv}
/-! ### All steps of a machine -/
/-- The number of inputs of a step. -/
def ins (c : Cnv) : Int := c.F.q ^ c.Gen.length
/-- The inputs with the index x. -/
def inp (c : Cnv) (x : Int) : List Int := digS c.F.q c.Gen.length x
theorem length_inp (x : Int) : (c.inp x).length = c.Gen.length := length_digS _ _ _
theorem inp_good (hq : 2 ≤ c.F.q) (x : Int) : c.GoodIn (c.inp x) := by
  refine ⟨by unfold k; rw [length_inp], ?_⟩
  rintro ⟨y, hy, hb⟩
  exact hb (digS_mem c.F.q hq _ _ y hy)
theorem ins_pos (hq : 2 ≤ c.F.q) : 1 ≤ c.ins := pow_pos_of c.F.q hq _
theorem states_ins (hq : 2 ≤ c.F.q) (hb : ¬ c.big) : c.states * c.ins ≤ 65536 := by
  have h0 := c.sumD_nonneg c.Gen.length
  have : c.states * c.ins = c.F.q ^ c.total.toNat := by
    unfold states ins total k
    rw [← Int.pow_add]; congr 1; omega
  rw [this]; unfold big at hb; omega
theorem states_ge (hq : 2 ≤ c.F.q) : 1 ≤ c.states := pow_pos_of c.F.q hq _
theorem ins_le (hq : 2 ≤ c.F.q) (hb : ¬ c.big) : c.ins ≤ 65536 := by
  have h1 := states_ins hq hb
  have h2 := states_ge (c := c) hq
  have h3 := ins_pos (c := c) hq
  have := Int.mul_le_mul_of_nonneg_right h2 (show 0 ≤ c.ins by omega)
  omega
/-- The line of a state and inputs is the sum of those of the state and of the inputs. -/
theorem line_add (hq : 2 ≤ c.F.q) (s : Int) (inn : List Int) {i d : Int} (d0 : 0 ≤ d) (d1 : d ≤ c.deg i) : ix 0 (c.line s inn i) d = ix 0 (c.line s c.zrow i) d + ix 0 (c.line 0 inn i) d ∧ (ix 0 (c.line s c.zrow i) d = 0 ∨ ix 0 (c.line 0 inn i) d = 0) := by
  by_cases hd : d = 0
  · subst hd
    rw [ix_line_zero, ix_line_zero, ix_line_zero]
    have : ix 0 c.zrow i = 0 := by unfold zrow; exact ix_replicate0 _ _
    rw [this]; simp
  · obtain ⟨g, rfl⟩ : ∃ g, d = g + 1 := ⟨d - 1, by omega⟩
    rw [dg_line hq (by omega) (by omega), dg_line hq (by omega) (by omega), dg_line hq (by omega) (by omega)]
    have : c.dg 0 i g = 0 := by unfold dg; simp
    rw [this]; simp
theorem nxE_add (hq : 2 ≤ c.F.q) (s : Int) (inn : List Int) (i : Int) : ∀ n : Nat, (n : Int) ≤ c.deg i → c.nxE s inn i n = c.nxE s c.zrow i n + c.nxE 0 inn i n
  | 0, _ => rfl
  | n + 1, h => by
    rw [nxE, nxE, nxE, nxE_add hq s inn i n (by omega), (line_add hq s inn (i := i) (d := (n : Int)) (by omega) (by omega)).1, Int.add_mul]; omega
theorem nxt_add (hq : 2 ≤ c.F.q) (s : Int) (inn : List Int) : ∀ n : Nat, c.nxt s inn n = c.nxt s c.zrow n + c.nxt 0 inn n
  | 0 => rfl
  | n + 1 => by
    have := c.deg_nonneg (n : Int)
    rw [nxt, nxt, nxt, nxt_add hq s inn n, nxE_add hq s inn n _ (by omega)]; omega
theorem ke_acc2 {f : Fld} (h : FOk f) {b b1 b2 : Int} {g l l1 l2 : List Int} (hb : ke h b = ke h b1 + ke h b2) : ∀ n : Nat, (∀ k : Nat, k < n → ke h (ix 0 l k) = ke h (ix 0 l1 k) + ke h (ix 0 l2 k)) →
    ke h (accF f b l g n) = ke h (accF f b1 l1 g n) + ke h (accF f b2 l2 g n)
  | 0, _ => hb
  | n + 1, hk => by
    have ih := ke_acc2 (g := g) h hb n (fun k hkn => hk k (by omega))
    simp only [accF]
    rw [ke_add, ke_add, ke_add, ke_mul, ke_mul, ke_mul, ih, hk n (by omega), Fi.add_mul]
    simp only [Fi.add_assoc]
    ac_rfl
theorem ke_outTo (h : FOk c.F) (s : Int) (inn : List Int) (j : Int) : ∀ n : Nat, ke h (c.outTo s inn j n) = ke h (c.outTo s c.zrow j n) + ke h (c.outTo 0 inn j n)
  | 0 => by simp only [outTo]; rw [ke_zero, Fi.add_zero]
  | n + 1 => by
    have hd := c.deg_nonneg (n : Int)
    have hq := h.1.bd
    simp only [outTo]
    refine ke_acc2 h (ke_outTo h s inn j n) _ fun k hk => ?_
    have := line_add hq.2.2.2.2.2.1 s inn (i := (n : Int)) (d := (k : Int)) (by omega) (by omega)
    rcases this.2 with h0 | h0
    · rw [this.1, h0, Int.zero_add, ke_zero, Fi.zero_add]
    · rw [this.1, h0, Int.add_zero, ke_zero, Fi.add_zero]
theorem outTo_add (h : FOk c.F) (s : Int) (inn : List Int) (j : Int) (n : Nat) : addF c.F (c.outTo s c.zrow j n) (c.outTo 0 inn j n) = c.outTo s inn j n := by
  have h1 := h.1.addF_lt (c.outTo s c.zrow j n) (c.outTo 0 inn j n)
  have h2 := outTo_lt h.1 s inn j n
  exact ke_inj h h1.1 h1.2 h2.1 h2.2 (by rw [ke_add, ke_outTo h s inn])
theorem length_outL (s : Int) (inn : List Int) : ((c.outL s inn).length : Int) = c.n := by have := c.nn_pos; unfold outL; rw [length_mapR]; omega
theorem ix_outL (s : Int) (inn : List Int) {j : Int} (h0 : 0 ≤ j) (h1 : j < c.n) : ix 0 (c.outL s inn) j = c.outTo s inn j c.Gen.length := ix_mapR 0 _ h0 h1
theorem out_add (h : FOk c.F) (s : Int) (inn : List Int) {j : Int} (h0 : 0 ≤ j) (h1 : j < c.n) : addF c.F (ix 0 (c.outL s c.zrow) j) (ix 0 (c.outL 0 inn) j) = ix 0 (c.outL s inn) j := by
  rw [ix_outL _ _ h0 h1, ix_outL _ _ h0 h1, ix_outL _ _ h0 h1, outTo_add h]
/-- The step with number at. -/
def eNx (c : Cnv) (at_ : Int) : Int := c.nxt (at_ / c.ins) (c.inp (at_ % c.ins)) c.Gen.length
def eWt (c : Cnv) (at_ : Int) : Int := wt1 (c.outL (at_ / c.ins) (c.inp (at_ % c.ins)))
def eNxs (c : Cnv) : List Int := mapR c.eNx (c.states * c.ins)
def eWts (c : Cnv) : List Int := mapR c.eWt (c.states * c.ins)
theorem at_div (hi : 1 ≤ c.ins) {s x : Int} (h0 : 0 ≤ x) (h1 : x < c.ins) : (s * c.ins + x) / c.ins = s ∧ (s * c.ins + x) % c.ins = x := by
  have hx : x / c.ins = 0 := Int.ediv_eq_zero_of_lt h0 h1
  have hy : x % c.ins = x := Int.emod_eq_of_lt h0 h1
  constructor
  · rw [Int.add_comm, Int.add_mul_ediv_right _ _ (by omega), hx, Int.zero_add]
  · rw [Int.add_comm, Int.add_mul_emod_self_right, hy]
theorem eNx_at (hi : 1 ≤ c.ins) {s x : Int} (h0 : 0 ≤ x) (h1 : x < c.ins) : c.eNx (s * c.ins + x) = c.nxt s (c.inp x) c.Gen.length := by
  have := at_div hi (s := s) h0 h1
  unfold eNx; rw [this.1, this.2]
theorem eWt_at (hi : 1 ≤ c.ins) {s x : Int} (h0 : 0 ≤ x) (h1 : x < c.ins) : c.eWt (s * c.ins + x) = wt1 (c.outL s (c.inp x)) := by
  have := at_div hi (s := s) h0 h1
  unfold eWt; rw [this.1, this.2]
theorem nxt_states {s : Int} {inn : List Int} (hq : 2 ≤ c.F.q) (hg : c.GoodIn inn) : 0 ≤ c.nxt s inn c.Gen.length ∧ c.nxt s inn c.Gen.length < c.states := by
  have := nxt_lt (s := s) hq hg c.Gen.length (Nat.le_refl _)
  simpa [fst, states] using this
theorem eWt_le {s : Int} {inn : List Int} : 0 ≤ wt1 (c.outL s inn) ∧ wt1 (c.outL s inn) ≤ c.n := by
  have h1 := wt1To_le (c.outL s inn) (c.outL s inn).length
  have h2 := length_outL (c := c) s inn
  unfold wt1; omega
/-! ### Proofs of the free distance -/
structure Fp where
  D : Int
  Msg : List (List Int)
  Pot : List Int
/-- A step that is too light. -/
def bad (c : Cnv) (p : Fp) (s x : Int) : Prop :=
  (0 < s ∧ wt1 (c.outL s (c.inp x)) + ix 0 p.Pot (c.nxt s (c.inp x) c.Gen.length) < ix 0 p.Pot s) ∨ ((s = 0 ∧ 0 < x) ∧ wt1 (c.outL s (c.inp x)) + ix 0 p.Pot (c.nxt s (c.inp x) c.Gen.length) < p.D)
instance (c : Cnv) (p : Fp) (s x : Int) : Decidable (c.bad p s x) := by unfold bad; infer_instance
def potBad (p : Fp) : Prop := ∃ v ∈ p.Pot, v < 0 ∨ 2147483648 < v
/-- The message reaches the distance. -/
def Rch (c : Cnv) (p : Fp) : Prop := c.GoodU p.Msg ∧ wtL p.Msg ≠ 0 ∧ wtL (c.encL (c.term p.Msg)) = p.D
def Acc (c : Cnv) (p : Fp) : Prop := c.Rch p ∧ ((p.Pot.length : Int) = c.states ∧ ix 0 p.Pot 0 = 0) ∧ ¬ potBad p ∧ ∀ s x : Int, 0 ≤ s → s < c.states → 0 ≤ x → x < c.ins → ¬ c.bad p s x
open Classical in
noncomputable instance (c : Cnv) (p : Fp) : Decidable (c.Rch p) := Classical.propDecidable _
open Classical in
noncomputable instance (c : Cnv) (p : Fp) : Decidable (c.Acc p) := Classical.propDecidable _
noncomputable def accErr (c : Cnv) (p : Fp) : Int := if c.err = 0 then (if c.Acc p then 0 else 13) else c.err
def potTo (p : Fp) (i : Int) : Prop := ∀ v ∈ p.Pot.take i.toNat, ¬ (v < 0 ∨ 2147483648 < v)
theorem potTo.zero (p : Fp) : potTo p 0 := by intro v h; simp at h
theorem potTo.succ {p : Fp} {i : Int} (h : potTo p i) (h0 : 0 ≤ i) (h1 : i < p.Pot.length) (h2 : ¬ (ix 0 p.Pot i < 0 ∨ 2147483648 < ix 0 p.Pot i)) : potTo p (i + 1) := by
  intro v hv
  rw [take_succ_ix 0 p.Pot h0 h1] at hv
  rcases List.mem_append.1 hv with hv | hv
  · exact h v hv
  · rw [List.mem_singleton] at hv; rw [hv]; exact h2
theorem potTo.all {p : Fp} {i : Int} (h : potTo p i) (h1 : p.Pot.length ≤ i) : ¬ potBad p := by
  rintro ⟨v, hv, hb⟩
  refine h v ?_ hb
  rw [List.take_of_length_le (by omega)]; exact hv
theorem potBad_at {p : Fp} {i : Int} (h0 : 0 ≤ i) (h1 : i < p.Pot.length) (h2 : ix 0 p.Pot i < 0 ∨ 2147483648 < ix 0 p.Pot i) : potBad p := ⟨_, ix_mem 0 p.Pot h0 h1, h2⟩
theorem pot_ok {p : Fp} (h : ¬ potBad p) (i : Int) : 0 ≤ ix 0 p.Pot i ∧ ix 0 p.Pot i ≤ 2147483648 := by
  by_cases g : i.toNat < p.Pot.length
  · have hm : ix 0 p.Pot i ∈ p.Pot := by unfold ix; simp [List.getD, g]
    by_cases hb : ix 0 p.Pot i < 0 ∨ 2147483648 < ix 0 p.Pot i
    · exact absurd ⟨_, hm, hb⟩ h
    · omega
  · have : ix 0 p.Pot i = 0 := by unfold ix; simp [List.getD]; rw [List.getElem?_eq_none (by omega)]; rfl
    rw [this]; omega
/-- No step of the first numbers is too light. -/
def GoodTo (c : Cnv) (p : Fp) (a : Int) : Prop := ∀ s x : Int, 0 ≤ s → 0 ≤ x → x < c.ins → s * c.ins + x < a → ¬ c.bad p s x
theorem GoodTo.zero (hi : 1 ≤ c.ins) (p : Fp) : c.GoodTo p 0 := by
  intro s x h0 h1 h2 h3
  have := Int.mul_nonneg h0 (show 0 ≤ c.ins by omega)
  omega
theorem GoodTo.succ {p : Fp} {a : Int} (hi : 1 ≤ c.ins) (h : c.GoodTo p a) (h2 : ¬ c.bad p (a / c.ins) (a % c.ins)) : c.GoodTo p (a + 1) := by
  intro s x g0 g1 g2 g3
  by_cases he : s * c.ins + x = a
  · have := at_div hi (s := s) g1 g2
    rw [he] at this
    rw [this.1, this.2] at h2; exact h2
  · exact h s x g0 g1 g2 (by omega)
theorem GoodTo.all {p : Fp} {a : Int} (hi : 1 ≤ c.ins) (h : c.GoodTo p a) (ha : c.states * c.ins ≤ a) : ∀ s x : Int, 0 ≤ s → s < c.states → 0 ≤ x → x < c.ins → ¬ c.bad p s x := by
  intro s x g0 g1 g2 g3
  refine h s x g0 g2 g3 ?_
  have := Int.mul_le_mul_of_nonneg_right (show s + 1 ≤ c.states by omega) (show 0 ≤ c.ins by omega)
  rw [Int.add_mul, Int.one_mul] at this
  omega
end Cnv
theorem wtL_pos_iff (rows : List (List Int)) : wtL rows ≠ 0 ↔ ∃ r ∈ rows, 0 < wt1 r := by
  have key : ∀ n : Nat, n ≤ rows.length → (wtTo rows n ≠ 0 ↔ ∃ r ∈ rows.take n, 0 < wt1 r) := by
    intro n
    induction n with
    | zero => intro _; simp [wtTo]
    | succ n ih =>
      intro hn
      have ih := ih (by omega)
      have h0 := wtTo_nonneg rows n
      have h1 : 0 ≤ wt1 (ix [] rows (n : Int)) := (wt1To_le _ _).1
      have h2 := take_succ_ix [] rows (i := (n : Int)) (by omega) (by omega)
      rw [show ((n : Int) + 1).toNat = n + 1 by omega, show (n : Int).toNat = n by omega] at h2
      rw [h2, wtTo]
      constructor
      · intro h
        by_cases g : wtTo rows n = 0
        · exact ⟨ix [] rows (n : Int), List.mem_append_right _ (by simp), by omega⟩
        · obtain ⟨r, hr, hw⟩ := ih.1 g
          exact ⟨r, List.mem_append_left _ hr, hw⟩
      · rintro ⟨r, hr, hw⟩
        rcases List.mem_append.1 hr with hr | hr
        · have := ih.2 ⟨r, hr, hw⟩; omega
        · rw [List.mem_singleton] at hr; rw [hr] at hw; omega
  have := key rows.length (Nat.le_refl _)
  rw [List.take_length] at this
  exact this
/-- A weight is the number of nonzero entries; entries that agree have one weight. -/
theorem wt1To_congr {a b : List Int} : ∀ n : Nat, (∀ k : Nat, k < n → ix 0 a k = ix 0 b k) → wt1To a n = wt1To b n
  | 0, _ => rfl
  | n + 1, h => by rw [wt1To, wt1To, wt1To_congr n (fun k hk => h k (by omega)), h n (by omega)]
end Go.Cw
