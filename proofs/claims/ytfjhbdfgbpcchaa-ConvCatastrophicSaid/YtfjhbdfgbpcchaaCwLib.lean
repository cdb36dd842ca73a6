/-
  Rules of a calculus for walks.
-/
import Derived.WalkKit
import Derived.ChangeKeysEq
import Derived.Deep.Quiet
import Derived.StillTail
import Derived.Laws.AppendOwn
import Derived.Laws.MakeOwn
import Derived.ProofKit
import Derived.OpenShut
import Derived.Carry
import Derived.Deep.Slices
namespace Go.Cw
universe u
set_option linter.unusedSimpArgs false
set_option linter.unnecessarySimpa false
abbrev Heap := Array Obj
structure AV where
 holds : Heap → (Nat → Prop) → Value → Prop
 mono : ∀ (h h' : Heap) (O O' : Nat → Prop) (v : Value), holds h O v → h.size ≤ h'.size →
  (∀ b, b < h.size → ¬ O b → h'[b]? = h[b]?) → (∀ b, b < h.size → O' b → O b) → holds h' O' v
structure Own where
 has : Nat → Prop
 holds : Heap → (Nat → Prop) → Prop
 mono : ∀ (h h' : Heap) (O O' : Nat → Prop), holds h O → h.size ≤ h'.size →
  (∀ b, b < h.size → (¬ O b ∨ has b) → h'[b]? = h[b]?) → (∀ b, b < h.size → O' b → O b) → holds h' O'
 lt : ∀ (h : Heap) (O : Nat → Prop) (b : Nat), holds h O → has b → b < h.size
def aEx (v : Value) : AV := ⟨fun _ _ u => u = v, fun _ _ _ _ _ h _ _ _ => h⟩
abbrev aInt (n : Int) : AV := aEx (.int .i64 n)
abbrev aBool (b : Bool) : AV := aEx (.bool b)
def aAny : AV := ⟨fun _ _ _ => True, fun _ _ _ _ _ _ _ _ _ => trivial⟩
structure St where
 slots : List (Nat × AV)
 own : List Own
def look : List (Nat × AV) → Nat → Option AV
 | [], _ => none
 | (j, A) :: r, i => bif Nat.beq j i then some A else look r i
def St.set (st : St) (d : Nat) (A : AV) : St := ⟨(d, A) :: st.slots, st.own⟩
def opd (s : List (Nat × AV)) : Operand → Option AV
 | .tmp t => look s t
 | .const v => some (aEx v)
 | .func f => some (aEx (.func (.func f) #[] #[]))
 | .global g => some (aEx (.pointer (some ⟨g, 0, none⟩)))
structure Keeps (M : Nat → Prop) (w w' : World) : Prop where
 os : w'.os = w.os
 tape : w'.tape = w.tape
 output : w'.output = w.output
 size : w.heap.size ≤ w'.heap.size
 block : ∀ b, b < w.heap.size → ¬ M b → w'.heap[b]? = w.heap[b]?
theorem Keeps.refl (M : Nat → Prop) (w : World) : Keeps M w w := ⟨rfl, rfl, rfl, Nat.le_refl _, fun _ _ _ => rfl⟩
structure Env where
 w0 : World
 X : Nat → Prop
 M : Nat → Prop
 n : Nat
 ds : List Deferred
def OO (E : Env) (own : List Own) : Nat → Prop := fun b => E.X b ∨ ∃ o ∈ own, o.has b
abbrev St.O (E : Env) (st : St) : Nat → Prop := OO E st.own
structure RepW (E : Env) (ow : List Own) (w : World) : Prop where
 own : ∀ o ∈ ow, o.holds w.heap (OO E ow)
 apart : ow.Pairwise (fun o o' => ∀ b, o.has b → ¬ o'.has b)
 free : ∀ o ∈ ow, ∀ b, o.has b → ¬ E.X b ∧ (E.w0.heap.size ≤ b ∨ E.M b)
 xold : ∀ b, E.X b → b < E.w0.heap.size
 keep : Keeps E.M E.w0 w
structure Rep (E : Env) (st : St) (a : Act) (w : World) : Prop where
 size : a.tmps.size = E.n
 defers : a.defers = E.ds
 slots : ∀ i A, look st.slots i = some A → ∃ v, a.tmps[i]? = some v ∧ A.holds w.heap (st.O E) v
 own : ∀ o ∈ st.own, o.holds w.heap (st.O E)
 apart : st.own.Pairwise (fun o o' => ∀ b, o.has b → ¬ o'.has b)
 free : ∀ o ∈ st.own, ∀ b, o.has b → ¬ E.X b ∧ (E.w0.heap.size ≤ b ∨ E.M b)
 xold : ∀ b, E.X b → b < E.w0.heap.size
 keep : Keeps E.M E.w0 w
def Ent (E : Env) (st : St) (K : Act → World → Prop) : Prop := ∀ a w, Rep E st a w → K a w
theorem Ent.mono {E : Env} {st : St} {K K' : Act → World → Prop} (h : Ent E st K) (hk : ∀ a w, K a w → K' a w) : Ent E st K' :=
 fun a w r => hk a w (h a w r)
structure Grow (w w' : World) : Prop where
 os : w'.os = w.os
 tape : w'.tape = w.tape
 output : w'.output = w.output
 size : w.heap.size ≤ w'.heap.size
 block : ∀ b, b < w.heap.size → w'.heap[b]? = w.heap[b]?
theorem Grow.refl (w : World) : Grow w w := ⟨rfl, rfl, rfl, Nat.le_refl _, fun _ _ => rfl⟩
theorem Grow.drew (w : World) : Grow w w.drew := ⟨rfl, rfl, rfl, Nat.le_refl _, fun _ _ => rfl⟩
theorem Grow.alloc (w : World) (o : Obj) : Grow w (w.alloc o) :=
 ⟨rfl, rfl, rfl, by simp, fun b hb => by show (w.heap.push o)[b]? = _; rw [Array.getElem?_push, if_neg (by omega)]⟩
theorem Grow.trans {a b c : World} (h : Grow a b) (k : Grow b c) : Grow a c :=
 ⟨k.os.trans h.os, k.tape.trans h.tape, k.output.trans h.output, Nat.le_trans h.size k.size,
  fun i hi => (k.block i (Nat.lt_of_lt_of_le hi h.size)).trans (h.block i hi)⟩
theorem Keeps.grow {M : Nat → Prop} {w w' w'' : World} (h : Keeps M w w') (g : Grow w' w'') : Keeps M w w'' :=
 ⟨g.os.trans h.os, g.tape.trans h.tape, g.output.trans h.output, Nat.le_trans h.size g.size,
  fun b hb hm => (g.block b (Nat.lt_of_lt_of_le hb h.size)).trans (h.block b hb hm)⟩
theorem Rep.grow {E : Env} {st : St} {a : Act} {w w' : World} (r : Rep E st a w) (g : Grow w w') : Rep E st a w' where
 size := r.size
 defers := r.defers
 slots := fun i A h => let ⟨v, h1, h2⟩ := r.slots i A h; ⟨v, h1, A.mono _ _ _ _ _ h2 g.size (fun b hb _ => g.block b hb) (fun _ _ h => h)⟩
 own := fun o ho => o.mono _ _ _ _ (r.own o ho) g.size (fun b hb _ => g.block b hb) (fun _ _ h => h)
 apart := r.apart
 free := r.free
 xold := r.xold
 keep := r.keep.grow g
theorem look_set (st : St) (d : Nat) (A : AV) (i : Nat) : look (st.set d A).slots i = if d = i then some A else look st.slots i := by
 show (bif Nat.beq d i then some A else look st.slots i) = _
 by_cases h : d = i
 ·subst h; simp
 ·have hb : Nat.beq d i = false := by
   cases hb : Nat.beq d i with
   | false => rfl
   | true => exact absurd (Nat.eq_of_beq_eq_true hb) h
  simp [h, hb]
theorem Rep.put {E : Env} {st : St} {a : Act} {w : World} (r : Rep E st a w) {d : Nat} (hd : d < E.n) {A : AV} {v : Value} (hv : A.holds w.heap (st.O E) v) :
  Rep E (st.set d A) (a.put (some d) v) w where
 size := by simp [Act.put, r.size]
 defers := by simpa [Act.put] using r.defers
 slots := fun i B h => by
  rw [look_set] at h
  by_cases hi : d = i
  ·subst hi
   rw [if_pos rfl] at h
   cases h
   refine ⟨v, ?_, hv⟩
   simp only [Act.put]
   rw [Array.getElem?_setIfInBounds_self, if_pos (by rw [r.size]; exact hd)]
  ·rw [if_neg hi] at h
   obtain ⟨u, h1, h2⟩ := r.slots i B h
   refine ⟨u, ?_, h2⟩
   simp only [Act.put]
   rw [Array.getElem?_setIfInBounds_ne hi]
   exact h1
 own := r.own
 apart := r.apart
 free := r.free
 xold := r.xold
 keep := r.keep
theorem Rep.eval {E : Env} {st : St} {a : Act} {w : World} (r : Rep E st a w) {x : Operand} {A : AV} (h : opd st.slots x = some A) : A.holds w.heap (st.O E) (a.eval x) := by
 cases x with
 | tmp t =>
  obtain ⟨v, h1, h2⟩ := r.slots t A h
  show A.holds _ _ (a.tmps.getD t undef)
  rw [Array.getD_eq_getD_getElem?, h1]
  exact h2
 | const v => simp only [opd, Option.some.injEq] at h; subst h; rfl
 | global g => simp only [opd, Option.some.injEq] at h; subst h; rfl
 | func f => simp only [opd, Option.some.injEq] at h; subst h; rfl
theorem Rep.evalEx {E : Env} {st : St} {a : Act} {w : World} (r : Rep E st a w) {x : Operand} {v : Value} (h : opd st.slots x = some (aEx v)) : a.eval x = v := r.eval h
section
variable {P : Program} {E : Env} {st : St} {Q : Exit → Act → World → Prop}
theorem ent_seq {x y : Code} (h : ∀ K : Act → World → Prop, (∀ a w, y.wp P Q a w → K a w) → Ent E st (x.wp P (Exit.then K Q))) : Ent E st ((Code.seq x y).wp P Q) :=
 fun a w r => wp_seq_k fun K hK => h K hK a w r
theorem ent_k {y : Code} {K : Act → World → Prop} (hK : ∀ a w, y.wp P Q a w → K a w) (h : Ent E st (y.wp P Q)) : Ent E st K := h.mono hK
theorem ent_cond {c : Operand} {x y : Code} {t : Bool} (hc : opd st.slots c = some (aBool t)) (ht : t = true → Ent E st (x.wp P Q)) (hf : t = false → Ent E st (y.wp P Q)) :
  Ent E st ((Code.cond c x y).wp P Q) :=
 fun a w r => wp_cond_split (r.evalEx hc) (fun h => ht h a w r) (fun h => hf h a w r)
theorem ent_block {id : Nat} {c : Code} (h : Ent E st (c.wp P (Exit.inBlock id Q))) : Ent E st ((Code.block id c).wp P Q) :=
 fun a w r => wp_block (h a w r)
theorem ent_skip (h : Ent E st (Q .normal)) : Ent E st (Code.skip.wp P Q) := fun a w r => wp_skip (h a w r)
theorem ent_exit {id : Nat} (h : Ent E st (Q (.exit id))) : Ent E st ((Code.exit id).wp P Q) := fun a w r => wp_exit (h a w r)
theorem ent_ret (h : Ent E st (Q .ret)) : Ent E st (Code.ret.wp P Q) := fun a w r => wp_ret (h a w r)
theorem ent_region {id : Nat} {l : List Oper} (h : Ent E st (wpList P l.toArray Q l)) : Ent E st ((Code.region id l.toArray false).wp P Q) :=
 fun a w r => wp_region_lit (h a w r)
theorem ent_nil {ops : Array Oper} (h : Ent E st (Q .normal)) : Ent E st (wpList P ops Q []) := h
theorem wp_loop_g {c : Code} {a : Act} {w : World} (R : Nat → Act → World → Prop) (n : Nat) (h₀ : R n a w)
  (round : ∀ n a w, R n a w → c.wp P (Exit.then (fun a' w' => ∃ n', n' < n ∧ R n' a' w') Q) a w) : (Code.loop c).wp P Q a w := by
 intro b k cs
 have key : ∀ n a w, R n a w →
   ∃ e a' w', Q e a' w' ∧ Arrives P (lone (b.at a (.code c :: .inLoop c :: k)) cs w) b k cs e a' w' := by
  intro n
  induction n using Nat.strongRecOn with
  | _ n ih =>
   intro a w hI
   obtain ⟨e, a₁, w₁, hq, harr⟩ := round n a w hI b (.inLoop c :: k) cs
   cases e with
   | normal =>
    obtain ⟨n', hlt, hI₁⟩ := hq
    obtain ⟨e₂, a₂, w₂, hq₂, harr₂⟩ := ih n' hlt a₁ w₁ hI₁
    exact ⟨e₂, a₂, w₂, hq₂, .of_steps (Steps.trans harr (.one step_inLoop)) harr₂⟩
   | exit id => exact ⟨_, a₁, w₁, hq, .pass (x := .inLoop c) rfl (fun _ _ => .inl (by simp)) harr⟩
   | goto l => exact ⟨_, a₁, w₁, hq, .pass (x := .inLoop c) rfl (fun _ _ => .inl (by simp)) harr⟩
   | ret => exact ⟨_, a₁, w₁, hq, .pass (x := .inLoop c) rfl (fun _ _ => .inl (by simp)) harr⟩
   | panic ch => exact ⟨_, a₁, w₁, hq, .pass (x := .inLoop c) rfl (fun _ _ => .inl (by simp)) harr⟩
   | outgrown => exact ⟨_, a₁, w₁, hq, .pass (x := .inLoop c) rfl (fun _ _ => .inl (by simp)) harr⟩
 obtain ⟨e, a', w', hq, harr⟩ := key n a w h₀
 exact ⟨e, a', w', hq, .of_steps (.one step_loop) harr⟩
theorem ent_loop {σ : Type u} {c : Code} (I : σ → St) (J : σ → Prop) (m : σ → Nat) (s0 : σ) (hJ : J s0) (h0 : Ent E st (Rep E (I s0)))
  (round : ∀ s, J s → Ent E (I s) (c.wp P (Exit.then (fun a w => ∃ s', (J s' ∧ m s' < m s) ∧ Rep E (I s') a w) Q))) : Ent E st ((Code.loop c).wp P Q) := by
 intro a w r
 refine wp_loop_g (fun n a w => ∃ s, J s ∧ m s = n ∧ Rep E (I s) a w) (m s0) ⟨s0, hJ, rfl, h0 a w r⟩ ?_
 rintro n a w ⟨s, hs, rfl, hr⟩
 refine Code.wp_mono ?_ (round s hs a w hr)
 intro e a w hq
 cases e with
 | normal => obtain ⟨s', ⟨h1, h2⟩, h3⟩ := hq; exact ⟨m s', h2, s', h1, rfl, h3⟩
 | exit id => exact hq
 | goto l => exact hq
 | ret => exact hq
 | panic ch => exact hq
 | outgrown => exact hq
theorem ent_again {σ : Type u} {I : σ → St} {J : σ → Prop} {m : σ → Nat} {s : σ} (s' : σ) (hJ : J s') (hm : m s' < m s) (h : Ent E st (Rep E (I s'))) :
  Ent E st (fun a w => ∃ s', (J s' ∧ m s' < m s) ∧ Rep E (I s') a w) := fun a w r => ⟨s', ⟨hJ, hm⟩, h a w r⟩
end
section
variable {P : Program} {E : Env} {s : List (Nat × AV)} {own : List Own}
theorem Rep.w {st : St} {a : Act} {w : World} (r : Rep E st a w) : RepW E st.own w := ⟨r.own, r.apart, r.free, r.xold, r.keep⟩
theorem RepW.grow {w w' : World} (r : RepW E own w) (g : Grow w w') : RepW E own w' :=
 ⟨fun o ho => o.mono _ _ _ _ (r.own o ho) g.size (fun b hb _ => g.block b hb) (fun _ _ h => h), r.apart, r.free, r.xold, r.keep.grow g⟩
structure OpR (E : Env) (s : List (Nat × AV)) (own : List Own) (o : Oper) (a : Act) (w : World) : Prop where
 world : RepW E own w
 ev : ∀ x ∈ o.op.operands, ∀ B, opd s x = some B → B.holds w.heap (OO E own) (a.eval x)
theorem OpR.ex {o : Oper} {a : Act} {w : World} (r : OpR E s own o a w) {x : Operand} {v : Value} (hx : opd s x = some (aEx v)) (hm : x ∈ o.op.operands) : a.eval x = v := r.ev x hm _ hx
def OpOK (P : Program) (E : Env) (s : List (Nat × AV)) (own : List Own) (o : Oper) (A : AV) : Prop :=
 ∀ a w, OpR E s own o a w → ∀ (K : Act → World → Prop) (Q : Exit → Act → World → Prop), (∀ v w', Grow w w' → A.holds w'.heap (OO E own) v → K (a.put o.dst v) w') → o.wp P a w K Q
theorem ok_val {o : Oper} {A : AV} (hrun : ∀ a w, OpR E s own o a w → ∃ v, (execOp a.eval o).run P w = .ok (.value v) w ∧ A.holds w.heap (OO E own) v) : OpOK P E s own o A := by
 intro a w r K Q hK
 obtain ⟨v, h1, h2⟩ := hrun a w r
 unfold Oper.wp
 rw [h1, Oper.upon_value]
 exact hK v w (Grow.refl w) h2
theorem OpOK.as {o : Oper} {A B : AV} (h : OpOK P E s own o A) (hAB : ∀ h O v, A.holds h O v → B.holds h O v) : OpOK P E s own o B :=
 fun a w r K Q hK => h a w r K Q fun v w' g hv => hK v w' g (hAB _ _ _ hv)
theorem Rep.opR {st : St} {a : Act} {w : World} (r : Rep E st a w) (o : Oper) : OpR E st.slots st.own o a w := ⟨r.w, fun _ _ _ hB => r.eval hB⟩
theorem ent_o {st : St} {Q : Exit → Act → World → Prop} {ops : Array Oper} {rest : List Oper} {d : Nat} {op : Op} {ty : TypeId} {pos : String} {af : Array Edge} {A : AV} (hd : Nat.ble (d + 1) E.n = true)
  (ok : OpOK P E st.slots st.own ⟨some d, op, ty, pos, af, none⟩ A) (k : Ent E (st.set d A) (wpList P ops Q rest)) : Ent E st (wpList P ops Q (⟨some d, op, ty, pos, af, none⟩ :: rest)) := by
 intro a w r
 refine wpList_plain rfl fun K hK => ?_
 refine ok a w (r.opR _) K Q fun v w' g hv => hK _ _ (k _ _ ?_)
 exact (r.grow g).put (Nat.le_of_ble_eq_true hd) hv
section
variable {d : Nat} {ty : TypeId} {pos : String} {af : Array Edge} {g : Option (Nat × Bool)}
theorem ok_move {x : Operand} {A : AV} (hx : opd s x = some A) : OpOK P E s own ⟨some d, .move x, ty, pos, af, g⟩ A :=
 ok_val (fun a _ r => ⟨a.eval x, rfl, r.ev _ (by simp [Op.operands, Call.operands]) _ hx⟩)
theorem ok_assign {x : Operand} {A : AV} (hx : opd s x = some A) :
  OpOK P E s own ⟨some d, .assign x, ty, pos, af, g⟩ A :=
 ok_val (fun a _ r => ⟨a.eval x, rfl, r.ev _ (by simp [Op.operands, Call.operands]) _ hx⟩)
theorem ok_pick_true {c x y : Operand} {A : AV} (hc : opd s c = some (aBool true)) (hx : opd s x = some A) :
  OpOK P E s own ⟨some d, .pick c x y, ty, pos, af, g⟩ A :=
 ok_val (fun a w r => ⟨a.eval x, by simp [execOp, r.ex hc (by simp [Op.operands, Call.operands]), asBool], r.ev _ (by simp [Op.operands, Call.operands]) _ hx⟩)
theorem ok_pick_false {c x y : Operand} {A : AV} (hc : opd s c = some (aBool false)) (hy : opd s y = some A) :
  OpOK P E s own ⟨some d, .pick c x y, ty, pos, af, g⟩ A :=
 ok_val (fun a w r => ⟨a.eval y, by simp [execOp, r.ex hc (by simp [Op.operands, Call.operands]), asBool], r.ev _ (by simp [Op.operands, Call.operands]) _ hy⟩)
theorem wrap_in {z : Int} (h1 : -9223372036854775808 ≤ z) (h2 : z ≤ 9223372036854775807) : IntKind.i64.wrap z = z := IntWalk.i64_in z ⟨h1, h2⟩
theorem ok_add {x y : Operand} {tx ty' : TypeId} {m n : Int} (hx : opd s x = some (aInt m)) (hy : opd s y = some (aInt n))
  (h1 : -9223372036854775808 ≤ m + n) (h2 : m + n ≤ 9223372036854775807) :
  OpOK P E s own ⟨some d, .binOp .add tx x y ty', ty, pos, af, g⟩ (aInt (m + n)) :=
 ok_val (fun a w r => ⟨_, by simp [execOp, r.ex hx (by simp [Op.operands, Call.operands]), r.ex hy (by simp [Op.operands, Call.operands]), binOp, eqGuard, Op.intArith, wrap_in h1 h2], rfl⟩)
theorem ok_sub {x y : Operand} {tx ty' : TypeId} {m n : Int} (hx : opd s x = some (aInt m)) (hy : opd s y = some (aInt n))
  (h1 : -9223372036854775808 ≤ m - n) (h2 : m - n ≤ 9223372036854775807) :
  OpOK P E s own ⟨some d, .binOp .sub tx x y ty', ty, pos, af, g⟩ (aInt (m - n)) :=
 ok_val (fun a w r => ⟨_, by simp [execOp, r.ex hx (by simp [Op.operands, Call.operands]), r.ex hy (by simp [Op.operands, Call.operands]), binOp, eqGuard, Op.intArith, wrap_in h1 h2], rfl⟩)
theorem ok_mul {x y : Operand} {tx ty' : TypeId} {m n : Int} (hx : opd s x = some (aInt m)) (hy : opd s y = some (aInt n))
  (h1 : -9223372036854775808 ≤ m * n) (h2 : m * n ≤ 9223372036854775807) :
  OpOK P E s own ⟨some d, .binOp .mul tx x y ty', ty, pos, af, g⟩ (aInt (m * n)) :=
 ok_val (fun a w r => ⟨_, by simp [execOp, r.ex hx (by simp [Op.operands, Call.operands]), r.ex hy (by simp [Op.operands, Call.operands]), binOp, eqGuard, Op.intArith, wrap_in h1 h2], rfl⟩)
theorem tdiv_in {m n : Int} (h0 : 0 ≤ m) (h1 : m ≤ 9223372036854775807) (hn : 1 ≤ n) : IntKind.i64.wrap (m.tdiv n) = m / n := by
 rw [Int.tdiv_eq_ediv_of_nonneg h0]
 have h3 : 0 ≤ m / n := Int.ediv_nonneg h0 (by omega)
 have h4 : m / n ≤ m := Int.ediv_le_self n h0
 exact wrap_in (by omega) (by omega)
theorem ok_quo {x y : Operand} {tx ty' : TypeId} {m n : Int} (hx : opd s x = some (aInt m)) (hy : opd s y = some (aInt n))
  (h0 : 0 ≤ m) (h1 : m ≤ 9223372036854775807) (hn : 1 ≤ n) :
  OpOK P E s own ⟨some d, .binOp .quo tx x y ty', ty, pos, af, g⟩ (aInt (m / n)) :=
 ok_val (fun a w r => ⟨_, by
  have hne : ¬ n = 0 := by omega
  simp [execOp, r.ex hx (by simp [Op.operands, Call.operands]), r.ex hy (by simp [Op.operands, Call.operands]), binOp, eqGuard, Op.intDiv, tdiv_in h0 h1 hn, hne], rfl⟩)
theorem ok_rem {x y : Operand} {tx ty' : TypeId} {m n : Int} (hx : opd s x = some (aInt m)) (hy : opd s y = some (aInt n))
  (h0 : 0 ≤ m) (hn : 1 ≤ n) :
  OpOK P E s own ⟨some d, .binOp .rem tx x y ty', ty, pos, af, g⟩ (aInt (m % n)) :=
 ok_val (fun a w r => ⟨_, by
  have hne : ¬ n = 0 := by omega
  simp [execOp, r.ex hx (by simp [Op.operands, Call.operands]), r.ex hy (by simp [Op.operands, Call.operands]), binOp, eqGuard, Op.intDiv, Int.tmod_eq_emod_of_nonneg h0, hne], rfl⟩)
theorem ok_lss {x y : Operand} {tx ty' : TypeId} {m n : Int} (hx : opd s x = some (aInt m)) (hy : opd s y = some (aInt n)) :
  OpOK P E s own ⟨some d, .binOp .lss tx x y ty', ty, pos, af, g⟩ (aBool (decide (m < n))) :=
 ok_val (fun a w r => ⟨_, by simp [execOp, r.ex hx (by simp [Op.operands, Call.operands]), r.ex hy (by simp [Op.operands, Call.operands]), binOp, eqGuard, Op.intCmp], rfl⟩)
theorem ok_leq {x y : Operand} {tx ty' : TypeId} {m n : Int} (hx : opd s x = some (aInt m)) (hy : opd s y = some (aInt n)) :
  OpOK P E s own ⟨some d, .binOp .leq tx x y ty', ty, pos, af, g⟩ (aBool (decide (m ≤ n))) :=
 ok_val (fun a w r => ⟨_, by simp [execOp, r.ex hx (by simp [Op.operands, Call.operands]), r.ex hy (by simp [Op.operands, Call.operands]), binOp, eqGuard, Op.intCmp], rfl⟩)
theorem ok_gtr {x y : Operand} {tx ty' : TypeId} {m n : Int} (hx : opd s x = some (aInt m)) (hy : opd s y = some (aInt n)) :
  OpOK P E s own ⟨some d, .binOp .gtr tx x y ty', ty, pos, af, g⟩ (aBool (decide (n < m))) :=
 ok_val (fun a w r => ⟨_, by simp [execOp, r.ex hx (by simp [Op.operands, Call.operands]), r.ex hy (by simp [Op.operands, Call.operands]), binOp, eqGuard, Op.intCmp], rfl⟩)
theorem ok_geq {x y : Operand} {tx ty' : TypeId} {m n : Int} (hx : opd s x = some (aInt m)) (hy : opd s y = some (aInt n)) :
  OpOK P E s own ⟨some d, .binOp .geq tx x y ty', ty, pos, af, g⟩ (aBool (decide (n ≤ m))) :=
 ok_val (fun a w r => ⟨_, by simp [execOp, r.ex hx (by simp [Op.operands, Call.operands]), r.ex hy (by simp [Op.operands, Call.operands]), binOp, eqGuard, Op.intCmp], rfl⟩)
theorem ok_eql {x y : Operand} {tx ty' : TypeId} {m n : Int} (hx : opd s x = some (aInt m)) (hy : opd s y = some (aInt n)) :
  OpOK P E s own ⟨some d, .binOp .eql tx x y ty', ty, pos, af, g⟩ (aBool (decide (m = n))) :=
 ok_val (fun a w r => ⟨.bool (m == n), by simp [execOp, r.ex hx (by simp [Op.operands, Call.operands]), r.ex hy (by simp [Op.operands, Call.operands]), binOp, eqGuard, Op.intCmp], by
  show Value.bool (m == n) = Value.bool (decide (m = n)); congr 1⟩)
theorem ok_neq {x y : Operand} {tx ty' : TypeId} {m n : Int} (hx : opd s x = some (aInt m)) (hy : opd s y = some (aInt n)) :
  OpOK P E s own ⟨some d, .binOp .neq tx x y ty', ty, pos, af, g⟩ (aBool (decide (m ≠ n))) :=
 ok_val (fun a w r => ⟨.bool (m != n), by simp [execOp, r.ex hx (by simp [Op.operands, Call.operands]), r.ex hy (by simp [Op.operands, Call.operands]), binOp, eqGuard, Op.intCmp], by
  show Value.bool (m != n) = Value.bool (decide (m ≠ n)); congr 1; by_cases h : m = n <;> simp [h]⟩)
theorem ok_eqlB {x y : Operand} {tx ty' : TypeId} {m n : Bool} (hu : P.underlying tx = some .bool) (hx : opd s x = some (aBool m)) (hy : opd s y = some (aBool n)) :
  OpOK P E s own ⟨some d, .binOp .eql tx x y ty', ty, pos, af, g⟩ (aBool (m == n)) :=
 ok_val (fun a w r => ⟨.bool (m == n), by
  simp only [execOp, r.ex hx (by simp [Op.operands, Call.operands]), r.ex hy (by simp [Op.operands, Call.operands]), binOp]
  simp [eqGuard, run_equal_bool w tx m n hu], rfl⟩)
theorem ok_not {x : Operand} {tx : TypeId} {m : Bool} (hx : opd s x = some (aBool m)) :
  OpOK P E s own ⟨some d, .unOp .not tx x, ty, pos, af, g⟩ (aBool (!m)) :=
 ok_val (fun a w r => ⟨_, by simp [execOp, r.ex hx (by simp [Op.operands, Call.operands]), Op.unary], rfl⟩)
theorem ok_max {x y : Operand} {tys : Array TypeId} {m n : Int} (hx : opd s x = some (aInt m)) (hy : opd s y = some (aInt n)) :
  OpOK P E s own ⟨some d, .call { callee := .builtin .max, args := #[x, y], argTypes := tys }, ty, pos, af, g⟩ (aInt (max m n)) :=
 ok_val (fun a w r => ⟨.int .i64 (if m < n then n else m), by
  simp [execOp, resolve, invoke, builtin, r.ex hx (by simp [Op.operands, Call.operands]), r.ex hy (by simp [Op.operands, Call.operands]), Builtin.max_, Builtin.max2], by
  show Value.int .i64 _ = Value.int .i64 _; congr 1; by_cases h : m < n <;> simp [h] <;> omega⟩)
end
end
def CellsAt (h : Heap) (O : Nat → Prop) (b off : Nat) (us : List Value) : Prop :=
 ¬ O b ∧ ∃ c T fz, h[b]? = some (.cells c T fz) ∧ ∀ j u, us[j]? = some u → c[off + j]? = some u
theorem CellsAt.mono {h h' : Heap} {O O' : Nat → Prop} {b off : Nat} {us : List Value} (hc : CellsAt h O b off us)
  (hb : ∀ b, b < h.size → ¬ O b → h'[b]? = h[b]?) (ho : ∀ b, b < h.size → O' b → O b) : CellsAt h' O' b off us := by
 obtain ⟨h1, c, T, fz, h2, h3⟩ := hc
 have hlt : b < h.size := (Array.getElem?_eq_some_iff.1 h2).1
 exact ⟨fun h => h1 (ho b hlt h), c, T, fz, (hb b hlt h1).trans h2, h3⟩
theorem CellsAt.cell {w : World} {O : Nat → Prop} {b off : Nat} {us : List Value} (hc : CellsAt w.heap O b off us) {j : Nat} {u : Value} (hu : us[j]? = some u) : w.cell? ⟨b, off + j, none⟩ = some u := by
 obtain ⟨_, c, T, fz, h2, h3⟩ := hc
 simp [World.cell?, h2, h3 j u hu]
def mkV (agg : Bool) (us : List Value) : Value := if agg then .agg us.toArray else us.headD undef
def aAt (sz : Nat) (agg : Bool) (A : AV) : AV where
 holds h O v := ∃ b off us, v = .pointer (some ⟨b, off, none⟩) ∧ us.length = sz ∧ (agg = false → sz = 1) ∧ CellsAt h O b off us ∧ A.holds h O (mkV agg us)
 mono := by
  rintro h h' O O' v ⟨b, off, us, h1, h2, h3, h4, h5⟩ hs hb ho
  exact ⟨b, off, us, h1, h2, h3, h4.mono hb ho, A.mono _ _ _ _ _ h5 hs hb ho⟩
def aSl {α : Type} (sz : Nat) (agg : Bool) (enc : α → AV) (xs : List α) : AV where
 holds h O v := ∃ p cap, v = .slice p xs.length cap ∧ xs.length ≤ cap ∧ cap ≤ maxLen ∧ (agg = false → sz = 1) ∧
  ∀ i x, xs[i]? = some x → ∃ b off us, p = some ⟨b, off, none⟩ ∧ us.length = sz ∧ CellsAt h O b (off + i * sz) us ∧ (enc x).holds h O (mkV agg us)
 mono := by
  rintro h h' O O' v ⟨p, cap, h1, h2, h4, h5, h7⟩ hs hb ho
  refine ⟨p, cap, h1, h2, h4, h5, fun i x hx => ?_⟩
  obtain ⟨b, off, us, g1, g2, g3, g4⟩ := h7 i x hx
  exact ⟨b, off, us, g1, g2, g3.mono hb ho, (enc x).mono _ _ _ _ _ g4 hs hb ho⟩
abbrev aInts (xs : List Int) : AV := aSl 1 false aInt xs
abbrev aRows (xs : List (List Int)) : AV := aSl 1 false aInts xs
def aAgg (As : List AV) : AV where
 holds h O v := ∃ cs : List Value, v = .agg cs.toArray ∧ cs.length = As.length ∧ ∀ (i : Nat) (A : AV) (c : Value), As[i]? = some A → cs[i]? = some c → A.holds h O c
 mono := fun _ _ _ _ _ ⟨cs, h1, h2, h3⟩ hs hb ho => ⟨cs, h1, h2, fun i A c ha hc => A.mono _ _ _ _ _ (h3 i A c ha hc) hs hb ho⟩
def aTup (As : List AV) : AV where
 holds h O v := ∃ cs : List Value, v = .tuple cs.toArray ∧ cs.length = As.length ∧ ∀ (i : Nat) (A : AV) (c : Value), As[i]? = some A → cs[i]? = some c → A.holds h O c
 mono := fun _ _ _ _ _ ⟨cs, h1, h2, h3⟩ hs hb ho => ⟨cs, h1, h2, fun i A c ha hc => A.mono _ _ _ _ _ (h3 i A c ha hc) hs hb ho⟩
def ix {α : Type} (d : α) (xs : List α) (n : Int) : α := xs.getD n.toNat d
abbrev gr (xs : List (List Int)) (n : Int) : List Int := ix [] xs n
theorem ix_get {α : Type} (d : α) (xs : List α) (n : Int) (h0 : 0 ≤ n) (h1 : n < xs.length) : xs[n.toNat]? = some (ix d xs n) := by
 unfold ix
 have : n.toNat < xs.length := by omega
 simp [List.getD, this]
section
variable {P : Program} {E : Env} {s : List (Nat × AV)} {own : List Own}
variable {d : Nat} {ty : TypeId} {pos : String} {af : Array Edge} {g : Option (Nat × Bool)}
structure TyInfo (P : Program) (T : TypeId) (sz : Nat) (agg : Bool) : Prop where
 agg : ∀ w, (isAgg T).run P w = .ok agg w
 size : ∀ w, (sizeOf T).run P w = .ok sz w
theorem run_loadCells_at {h : World} {b off : Nat} (us : List Value) (O : Nat → Prop) (hc : CellsAt h.heap O b off us) :
  (loadCells ⟨b, off, none⟩ us.length).run P h = .ok us.toArray h := by
 have := run_firstCells_some (P := P) h 1 us.length ⟨b, off, none⟩ us.length us.length us (by simp) (by
  intro j u hu
  have := hc.cell hu
  unfold Addr.add
  by_cases hj : j = 0
  ·subst hj; simpa using this
  ·simpa [hj] using this)
 simpa [Builtin.firstCells] using this
theorem run_loadVar_at {w : World} {O : Nat → Prop} {T : TypeId} {sz : Nat} {agg : Bool} {b off : Nat} {us : List Value} (ht : TyInfo P T sz agg) (hl : us.length = sz) (h1 : agg = false → sz = 1)
  (hc : CellsAt w.heap O b off us) : (loadVar T ⟨b, off, none⟩).run P w = .ok (mkV agg us) w := by
 unfold loadVar
 cases agg with
 | true =>
  subst hl
  simp [ht.agg, ht.size, run_loadCells_at us O hc, mkV]
 | false =>
  have hs := h1 rfl
  subst hs
  match us, hl with
  | [u], _ =>
   have := hc.cell (j := 0) (u := u) rfl
   simp only [Nat.add_zero] at this
   simp [ht.agg, mkV, this]
theorem ok_load {T : TypeId} {x : Operand} {sz : Nat} {agg : Bool} {A : AV} (ht : TyInfo P T sz agg) (hx : opd s x = some (aAt sz agg A)) :
  OpOK P E s own ⟨some d, .load T x, ty, pos, af, g⟩ A :=
 ok_val (fun a w r => by
  obtain ⟨b, off, us, h1, h2, h3, h4, h5⟩ := r.ev _ (by simp [Op.operands, Call.operands]) _ hx
  refine ⟨mkV agg us, ?_, h5⟩
  simp [execOp, h1, Instr.loadAt, Instr.sureAddr, run_loadVar_at ht h2 h3 h4])
theorem addr_add (b off n : Nat) : (⟨b, off, none⟩ : Addr).add n = ⟨b, off + n, none⟩ := by
 unfold Addr.add
 by_cases hn : n = 0
 ·simp [hn]
 ·simp [hn]
structure SlInfo (P : Program) (T E : TypeId) (sz : Nat) : Prop where
 und : ∀ w, (underlying T).run P w = .ok (.slice E) w
 size : ∀ w, (sizeOf E).run P w = .ok sz w
theorem run_indexAt_sl {w : World} {T El : TypeId} {sz : Nat} (hs : SlInfo P T El sz) {b off n cap : Nat} {i : Int} (h0 : 0 ≤ i) (h1 : i < n) :
  (Instr.indexAt T (.slice (some ⟨b, off, none⟩) n cap) (.int .i64 i)).run P w = .ok (.pointer (some ⟨b, off + i.toNat * sz, none⟩)) w := by
 simp [Instr.indexAt, asIntOf, hs.und, hs.size, h0, h1, addr_add]
theorem ok_index {α : Type} {T El : TypeId} {x i : Operand} {sz : Nat} {agg : Bool} {enc : α → AV} {xs : List α} {n : Int} (dflt : α) (hs : SlInfo P T El sz)
  (hx : opd s x = some (aSl sz agg enc xs)) (hi : opd s i = some (aInt n)) (h0 : 0 ≤ n) (h1 : n < xs.length) :
  OpOK P E s own ⟨some d, .indexAddr T x i, ty, pos, af, g⟩ (aAt sz agg (enc (ix dflt xs n))) :=
 ok_val (fun a w r => by
  obtain ⟨p, cap, g1, g2, g4, g5, g7⟩ := r.ev _ (by simp [Op.operands, Call.operands]) _ hx
  obtain ⟨b, off, us, e1, e2, e3, e4⟩ := g7 _ _ (ix_get dflt xs n h0 h1)
  subst e1
  refine ⟨_, ?_, b, off + n.toNat * sz, us, rfl, e2, g5, e3, e4⟩
  simp [execOp, g1, r.ex hi (by simp [Op.operands, Call.operands]), run_indexAt_sl hs h0 (show n < (xs.length : Int) from h1)])
theorem ok_len {α : Type} {x : Operand} {sz : Nat} {agg : Bool} {enc : α → AV} {xs : List α} {tys : Array TypeId} {T El : TypeId} (ht : tys[0]? = some T)
  (hs : ∀ w, (underlying T).run P w = .ok (.slice El) w) (hx : opd s x = some (aSl sz agg enc xs)) :
  OpOK P E s own ⟨some d, .call { callee := .builtin .len, args := #[x], argTypes := tys }, ty, pos, af, g⟩ (aInt xs.length) :=
 ok_val (fun a w r => by
  obtain ⟨p, cap, g1, _⟩ := r.ev _ (by simp [Op.operands, Call.operands]) _ hx
  refine ⟨.int .i64 xs.length, ?_, rfl⟩
  simp [execOp, resolve, invoke, builtin, g1, Builtin.len_, ht, hs, goInt])
theorem ok_lenEx {x : Operand} {p : Option Addr} {n c : Nat} {tys : Array TypeId} {T El : TypeId} (ht : tys[0]? = some T)
  (hs : ∀ w, (underlying T).run P w = .ok (.slice El) w) (hx : opd s x = some (aEx (.slice p n c))) :
  OpOK P E s own ⟨some d, .call { callee := .builtin .len, args := #[x], argTypes := tys }, ty, pos, af, g⟩ (aInt n) :=
 ok_val (fun a w r => by
  refine ⟨.int .i64 n, ?_, rfl⟩
  simp [execOp, resolve, invoke, builtin, r.ex hx (by simp [Op.operands, Call.operands]), Builtin.len_, ht, hs, goInt])
theorem getElem?_extract_list {α : Type} (l : List α) (i n j : Nat) : ((l.drop i).take n)[j]? = if j < n then l[i + j]? else none := by
 rw [List.getElem?_take]; split <;> simp
theorem run_fieldAt {w : World} {T : TypeId} {fs : Array Field} {f : Nat} {fld : Field} {sz : Nat} (hs : ∀ w, (underlying T).run P w = .ok (.struct fs) w) (hf : fs[f]? = some fld)
  (hsz : ∀ w, (sizeOf fld.type).run P w = .ok sz w) (hpos : 0 < sz) (b off : Nat) :
  (Instr.fieldAt T (.pointer (some ⟨b, off, none⟩)) f).run P w = .ok (.pointer (some ⟨b, off + fld.offset, none⟩)) w := by
 have hne : ¬ sz = 0 := by omega
 simp [Instr.fieldAt, hs, hf, Instr.sureAddr, fieldPlace, hsz, hne, addr_add]
theorem ok_fieldAddr1 {T : TypeId} {fs : Array Field} {f : Nat} {fld : Field} {n : Nat} {x : Operand} {As : List AV} {A : AV} (hs : ∀ w, (underlying T).run P w = .ok (.struct fs) w) (hf : fs[f]? = some fld)
  (hsz : ∀ w, (sizeOf fld.type).run P w = .ok 1 w)
  (hx : opd s x = some (aAt n true (aAgg As))) (hA : As[fld.offset]? = some A) :
  OpOK P E s own ⟨some d, .fieldAddr T x f, ty, pos, af, g⟩ (aAt 1 false A) :=
 ok_val (fun a w r => by
  obtain ⟨b, off, us, h1, h2, h3, h4, cs, g1, g2, g3⟩ := r.ev _ (by simp [Op.operands, Call.operands]) _ hx
  have hus : us = cs := by
   simp only [mkV, if_true] at g1
   injection g1 with g1
   exact List.toArray_inj g1
  subst hus
  have hlt : fld.offset < us.length := by
   rw [g2]; exact (List.getElem?_eq_some_iff.1 hA).1
  have hc : us[fld.offset]? = some us[fld.offset] := List.getElem?_eq_getElem hlt
  refine ⟨_, by simp [execOp, h1, run_fieldAt hs hf hsz (by omega)], b, off + fld.offset, [us[fld.offset]], rfl, rfl, fun _ => rfl, ?_, g3 _ _ _ hA hc⟩
  obtain ⟨k1, c, T, fz, k2, k3⟩ := h4
  refine ⟨k1, c, T, fz, k2, fun j u hu => ?_⟩
  match j, hu with
  | 0, hu =>
   simp only [List.getElem?_cons_zero, Option.some.injEq] at hu
   subst hu
   exact k3 _ _ hc
  | j + 1, hu => simp at hu)
theorem ok_fieldAddrS {T : TypeId} {fs : Array Field} {f : Nat} {fld : Field} {n sz : Nat} {x : Operand} {As : List AV} (hs : ∀ w, (underlying T).run P w = .ok (.struct fs) w) (hf : fs[f]? = some fld)
  (hsz : ∀ w, (sizeOf fld.type).run P w = .ok sz w) (hpos : 0 < sz) (hle : fld.offset + sz ≤ As.length)
  (hx : opd s x = some (aAt n true (aAgg As))) :
  OpOK P E s own ⟨some d, .fieldAddr T x f, ty, pos, af, g⟩ (aAt sz true (aAgg ((As.drop fld.offset).take sz))) :=
 ok_val (fun a w r => by
  obtain ⟨b, off, us, h1, h2, h3, h4, cs, g1, g2, g3⟩ := r.ev _ (by simp [Op.operands, Call.operands]) _ hx
  have hus : us = cs := by
   simp only [mkV, if_true] at g1
   injection g1 with g1
   exact List.toArray_inj g1
  subst hus
  refine ⟨_, by simp [execOp, h1, run_fieldAt hs hf hsz hpos], b, off + fld.offset, (us.drop fld.offset).take sz, rfl, (by simp [g2]; omega), (fun h => by cases h), ?_, (us.drop fld.offset).take sz, rfl, by simp [g2], ?_⟩
  ·obtain ⟨k1, c, T, fz, k2, k3⟩ := h4
   refine ⟨k1, c, T, fz, k2, fun j u hu => ?_⟩
   rw [getElem?_extract_list] at hu
   split at hu
   ·rw [Nat.add_assoc]; exact k3 _ _ hu
   ·cases hu
  ·intro i A c ha hc
   rw [getElem?_extract_list] at ha hc
   split at ha
   ·rename_i hi; rw [if_pos hi] at hc; exact g3 _ _ _ ha hc
   ·cases ha)
theorem ok_nilCheck {x : Operand} {sz : Nat} {agg : Bool} {A : AV} (hx : opd s x = some (aAt sz agg A)) :
  OpOK P E s own ⟨some d, .nilCheck x, ty, pos, af, g⟩ (aAt sz agg A) :=
 ok_val (fun a w r => by
  have h := r.ev _ (by simp [Op.operands, Call.operands]) _ hx
  obtain ⟨b, off, us, h1, _⟩ := id h
  refine ⟨a.eval x, ?_, h⟩
  simp [execOp, h1])
theorem ok_nilCheckEx {x : Operand} {ad : Addr} (hx : opd s x = some (aEx (.pointer (some ad)))) :
  OpOK P E s own ⟨some d, .nilCheck x, ty, pos, af, g⟩ (aEx (.pointer (some ad))) :=
 ok_val (fun a w r => ⟨_, by simp [execOp, r.ex hx (by simp [Op.operands, Call.operands])], rfl⟩)
theorem ok_extract {x : Operand} {i : Nat} {As : List AV} {A : AV} (hx : opd s x = some (aTup As)) (hA : As[i]? = some A) :
  OpOK P E s own ⟨some d, .extract x i, ty, pos, af, g⟩ A :=
 ok_val (fun a w r => by
  obtain ⟨cs, h1, h2, h3⟩ := r.ev _ (by simp [Op.operands, Call.operands]) _ hx
  have hlt : i < cs.length := by rw [h2]; exact (List.getElem?_eq_some_iff.1 hA).1
  have hc : cs[i]? = some cs[i] := List.getElem?_eq_getElem hlt
  refine ⟨cs[i], ?_, h3 _ _ _ hA hc⟩
  simp [execOp, h1, Instr.extract, hlt])
end
section
variable {P : Program} {E : Env} {st : St} {Q : Exit → Act → World → Prop} {ops : Array Oper} {rest : List Oper}
theorem wpList_unguard {a : Act} {w : World} {d : Option Tmp} {op : Op} {ty : TypeId} {pos : String} {af : Array Edge} {g : Option (Nat × Bool)}
  (hw : Region.wanted ⟨d, op, ty, pos, af, g⟩ (yielded ops a.tmps) = true)
  (h : wpList P ops Q (⟨d, op, ty, pos, af, none⟩ :: rest) a w) : wpList P ops Q (⟨d, op, ty, pos, af, g⟩ :: rest) a w := by
 unfold wpList at h ⊢
 rw [if_pos (by simp [Region.wanted])] at h
 rw [if_pos hw]
 exact h
def SubS : List (Nat × AV) → List (Nat × AV) → Prop
 | [], _ => True
 | (i, A) :: r, s => look s i = some A ∧ SubS r s
theorem SubS.look {T s : List (Nat × AV)} (h : SubS T s) {i : Nat} {A : AV} (hi : look T i = some A) : look s i = some A := by
 induction T with
 | nil => cases hi
 | cons p r ih =>
  obtain ⟨j, B⟩ := p
  obtain ⟨h1, h2⟩ := h
  unfold Cw.look at hi
  cases hb : Nat.beq j i with
  | true =>
   rw [hb] at hi
   have := Nat.eq_of_beq_eq_true hb
   subst this
   simp only [cond_true] at hi
   rw [← hi]; exact h1
  | false => rw [hb] at hi; exact ih h2 hi
theorem Rep.sub {a : Act} {w : World} {T : List (Nat × AV)} (r : Rep E st a w) (h : SubS T st.slots) : Rep E ⟨T, st.own⟩ a w where
 size := r.size
 defers := r.defers
 slots := fun i A hi => r.slots i A (h.look hi)
 own := r.own
 apart := r.apart
 free := r.free
 xold := r.xold
 keep := r.keep
theorem ent_rep {T : List (Nat × AV)} {own : List Own} (h : SubS T st.slots) (ho : own = st.own) : Ent E st (Rep E ⟨T, own⟩) := fun a w r => by subst ho; exact r.sub h
def QN (R : Act → World → Prop) : Exit → Act → World → Prop
 | .normal, a, w => R a w
 | _, _, _ => False
theorem ent_cut {c : Code} (T : St) (h : Ent E st (c.wp P (QN (Rep E T)))) (k : Ent E T (Q .normal)) : Ent E st (c.wp P Q) := by
 intro a w r
 refine Code.wp_mono ?_ (h a w r)
 intro e a w hq
 cases e <;> first | exact k _ _ hq | exact hq.elim
def opds (s : List (Nat × AV)) : List Operand → Option (List AV)
 | [] => some []
 | x :: r => match opd s x, opds s r with
  | some A, some As => some (A :: As)
  | _, _ => none
def HoldsAll (As : List AV) (h : Heap) (O : Nat → Prop) (vs : List Value) : Prop :=
 vs.length = As.length ∧ ∀ (i : Nat) (A : AV) (v : Value), As[i]? = some A → vs[i]? = some v → A.holds h O v
theorem HoldsAll.nil (h : Heap) (O : Nat → Prop) : HoldsAll [] h O [] := ⟨rfl, fun i A v hA => by simp at hA⟩
theorem HoldsAll.cons {A : AV} {As : List AV} {h : Heap} {O : Nat → Prop} {v : Value} {vs : List Value} (h1 : A.holds h O v) (h2 : HoldsAll As h O vs) : HoldsAll (A :: As) h O (v :: vs) :=
 ⟨by simp [h2.1], fun i B u hB hu => by
  cases i with
  | zero => simp only [List.getElem?_cons_zero, Option.some.injEq] at hB hu; subst hB hu; exact h1
  | succ i => simp only [List.getElem?_cons_succ] at hB hu; exact h2.2 i B u hB hu⟩
theorem St.O_lt {a : Act} {w : World} (r : Rep E st a w) : ∀ b, st.O E b → b < w.heap.size := by
 rintro b (h | ⟨o, ho, hb⟩)
 ·exact Nat.lt_of_lt_of_le (r.xold b h) r.keep.size
 ·exact o.lt _ _ b (r.own o ho) hb
def Ctr (P : Program) (f : FuncId) (As : List AV) (A : AV) : Prop :=
 (∀ args w, (callFunc f args).run P w = .ok (.enter f args) w) ∧
 ∀ (w : World) (O : Nat → Prop) (vs : List Value), (∀ b, O b → b < w.heap.size) → HoldsAll As w.heap O vs →
  Calls P f vs.toArray w (fun e w' => ∃ v, e = .returned v ∧ A.holds w'.heap O v ∧ Grow w w')
def CtrF (P : Program) (f : FuncId) (As : List AV) (A : AV) : Prop :=
 (∀ args w, (callFunc f args).run P w = .ok (.enter f args) w) ∧
 ∀ (w : World) (O : Nat → Prop) (vs : List Value), (∀ b, O b → b < w.heap.size) → HoldsAll As w.heap O vs →
  Calls P f vs.toArray w (fun e w' => ∃ v, e = .returned v ∧ A.holds w'.heap (fun b => b < w.heap.size) v ∧ Grow w w')
theorem AV.less {A : AV} {h : Heap} {O O' : Nat → Prop} {v : Value} (hA : A.holds h O v) (ho : ∀ b, b < h.size → O' b → O b) : A.holds h O' v :=
 A.mono h h O O' v hA (Nat.le_refl _) (fun _ _ _ => rfl) ho
theorem CtrF.ctr {f : FuncId} {As : List AV} {A : AV} (h : CtrF P f As A) : Ctr P f As A :=
 ⟨h.1, fun w O vs hO ha => (h.2 w O vs hO ha).mono fun _ _ ⟨v, h1, h2, h3⟩ => ⟨v, h1, AV.less h2 (fun b _ hb => hO b hb), h3⟩⟩
theorem Ctr.ex {f : FuncId} {As : List AV} {u : Value} (h : Ctr P f As (aEx u)) : CtrF P f As (aEx u) :=
 ⟨h.1, fun w O vs hO ha => (h.2 w O vs hO ha).mono fun _ _ ⟨v, h1, h2, h3⟩ => ⟨v, h1, h2, h3⟩⟩
theorem OpR.lt {s : List (Nat × AV)} {own : List Own} {o : Oper} {a : Act} {w : World} (r : OpR E s own o a w) : ∀ b, OO E own b → b < w.heap.size := by
 rintro b (h | ⟨o, ho, hb⟩)
 ·exact Nat.lt_of_lt_of_le (r.world.xold b h) r.world.keep.size
 ·exact o.lt _ _ b (r.world.own o ho) hb
theorem OpR.evs {s : List (Nat × AV)} {own : List Own} {o : Oper} {a : Act} {w : World} (r : OpR E s own o a w) : ∀ {xs : List Operand} {As : List AV}, (∀ x ∈ xs, x ∈ o.op.operands) → opds s xs = some As → HoldsAll As w.heap (OO E own) (xs.map a.eval)
 | [], As, _, h => by simp only [opds, Option.some.injEq] at h; subst h; exact HoldsAll.nil _ _
 | x :: xs, As, hm, h => by
  unfold opds at h
  cases h1 : opd s x with
  | none => simp [h1] at h
  | some A =>
   cases h2 : opds s xs with
   | none => simp [h1, h2] at h
   | some Bs =>
    simp only [h1, h2, Option.some.injEq] at h
    subst h
    exact HoldsAll.cons (r.ev x (hm x (by simp)) A h1) (r.evs (fun y hy => hm y (by simp [hy])) h2)
theorem ok_call {s : List (Nat × AV)} {own : List Own} {d : Option Tmp} {f : FuncId} {xs : List Operand} {tys : Array TypeId} {ty : TypeId} {pos : String} {af : Array Edge} {g : Option (Nat × Bool)} {As : List AV} {A : AV}
  (c : Ctr P f As A) (hx : opds s xs = some As) : OpOK P E s own ⟨d, .call { callee := .value (.func f), args := xs.toArray, argTypes := tys }, ty, pos, af, g⟩ A := by
 intro a w r K Q hK
 have hrun : (execOp a.eval ⟨d, .call { callee := .value (.func f), args := xs.toArray, argTypes := tys }, ty, pos, af, g⟩).run P w = .ok (.enter f (xs.map a.eval).toArray) w := by
  simp [execOp, resolve, Act.eval, Deferred.ofValue, invoke, c.1]
 unfold Oper.wp
 rw [hrun, Oper.upon_enter]
 refine (c.2 w (OO E own) _ r.lt (r.evs (fun x hx => by simp [Op.operands, Call.operands, hx]) hx)).mono ?_
 rintro e w' ⟨v, rfl, hA, hg⟩
 exact hK v w' hg hA
def numbered : Nat → List AV → List (Nat × AV)
 | _, [] => []
 | n, A :: As => (n, A) :: numbered (n + 1) As
theorem look_numbered : ∀ (As : List AV) (n i : Nat) (A : AV), look (numbered n As) i = some A → n ≤ i ∧ As[i - n]? = some A
 | [], _, _, _, h => by cases h
 | B :: As, n, i, A, h => by
  unfold numbered Cw.look at h
  cases hb : Nat.beq n i with
  | true =>
   have := Nat.eq_of_beq_eq_true hb
   subst this
   rw [hb] at h
   simp only [cond_true, Option.some.injEq] at h
   subst h
   exact ⟨Nat.le_refl _, by simp⟩
  | false =>
   rw [hb] at h
   obtain ⟨h1, h2⟩ := look_numbered As (n + 1) i A h
   refine ⟨by omega, ?_⟩
   rw [show i - n = (i - (n + 1)) + 1 by omega]
   simpa using h2
theorem rep_enter {w : World} {O : Nat → Prop} {As : List AV} {vs : List Value} {n : Nat} (hn : As.length ≤ n) (hO : ∀ b, O b → b < w.heap.size) (h : HoldsAll As w.heap O vs) (M : Nat → Prop) :
  Rep ⟨w, O, M, n, []⟩ ⟨numbered 0 As, []⟩ { tmps := vs.toArray ++ Array.replicate (n - vs.toArray.size) undef, defers := [] } w where
 size := by simp [h.1]; omega
 defers := rfl
 slots := fun i A hi => by
  obtain ⟨_, h2⟩ := look_numbered As 0 i A hi
  simp only [Nat.sub_zero] at h2
  have hlt : i < vs.length := by rw [h.1]; exact (List.getElem?_eq_some_iff.1 h2).1
  refine ⟨vs[i], ?_, ?_⟩
  ·rw [Array.getElem?_append_left (by simpa using hlt)]; simp [hlt]
  ·have := h.2 i A vs[i] h2 (List.getElem?_eq_getElem hlt)
   exact AV.less this (fun b _ hb => by
    rcases hb with hb | ⟨o, ho, _⟩
    ·exact hb
    ·cases ho)
 own := fun o ho => by cases ho
 apart := List.Pairwise.nil
 free := fun o ho => by cases ho
 xold := hO
 keep := Keeps.refl _ _
def Ends (w : World) (O : Nat → Prop) (A : AV) (e : Ending) (w' : World) : Prop := ∃ v, e = .returned v ∧ A.holds w'.heap O v ∧ Grow w w'
theorem Rep.grown {a : Act} {w : World} (r : Rep E st a w) (hm : E.M = fun _ => False) : Grow E.w0 w :=
 ⟨r.keep.os, r.keep.tape, r.keep.output, r.keep.size, fun b hb => r.keep.block b hb (by rw [hm]; exact id)⟩
theorem ctr_of {f : FuncId} {fn : Func} {c : Code} {As : List AV} {A : AV} (hc : ∀ args w, (callFunc f args).run P w = .ok (.enter f args) w)
  (hf : P.funcs[f]? = some fn) (hb : fn.body = some c) (hn : Nat.ble As.length fn.ntmps = true)
  (h : ∀ (w : World) (O : Nat → Prop), Ent ⟨w, O, fun _ => False, fn.ntmps, []⟩ ⟨numbered 0 As, []⟩ (c.wp P (bodyPost P fn (Ends w O A)))) : Ctr P f As A :=
 ⟨hc, fun w O _ hO ha => calls_of_wp hf hb (h w O _ w (rep_enter (Nat.le_of_ble_eq_true hn) hO ha _))⟩
theorem ctrF_of {f : FuncId} {fn : Func} {c : Code} {As : List AV} {A : AV} (hc : ∀ args w, (callFunc f args).run P w = .ok (.enter f args) w)
  (hf : P.funcs[f]? = some fn) (hb : fn.body = some c) (hn : Nat.ble As.length fn.ntmps = true)
  (h : ∀ (w : World) (O : Nat → Prop), Ent ⟨w, O, fun _ => False, fn.ntmps, []⟩ ⟨numbered 0 As, []⟩ (c.wp P (bodyPost P fn (Ends w (fun b => b < w.heap.size) A)))) : CtrF P f As A :=
 ⟨hc, fun w O _ hO ha => calls_of_wp hf hb (h w O _ w (rep_enter (Nat.le_of_ble_eq_true hn) hO ha _))⟩
theorem ent_end {fn : Func} {R : Ending → World → Prop} (e : Exit) (he : e = .normal ∨ e = .ret) (A : AV) (O : Nat → Prop) (hm : E.M = fun _ => False)
  (hres : ∀ a w, Rep E st a w → ∃ v, (results fn a.tmps).run P w = .ok v w ∧ A.holds w.heap O v) (hR : ∀ v w, A.holds w.heap O v → Grow E.w0 w → R (.returned v) w) (hds : E.ds = [] := by rfl) :
  Ent E st (bodyPost P fn R e) := by
 intro a w r
 obtain ⟨v, h1, h2⟩ := hres a w r
 rcases he with rfl | rfl
 ·exact ⟨r.defers.trans hds, v, h1, hR v w h2 (r.grown hm)⟩
 ·exact ⟨r.defers.trans hds, v, h1, hR v w h2 (r.grown hm)⟩
theorem Rep.slotEx {a : Act} {w : World} (r : Rep E st a w) {t : Nat} {A : AV} (h : look st.slots t = some A) : A.holds w.heap (st.O E) (a.tmps.getD t undef) := r.eval (x := .tmp t) h
theorem aTup_two {h : Heap} {O : Nat → Prop} {A B : AV} {v u : Value} (h1 : A.holds h O v) (h2 : B.holds h O u) : (aTup [A, B]).holds h O (.tuple #[v, u]) :=
 ⟨[v, u], rfl, rfl, fun i C c hC hc => by
  match i, hC, hc with
  | 0, hC, hc => simp at hC hc; subst hC hc; exact h1
  | 1, hC, hc => simp at hC hc; subst hC hc; exact h2
  | i + 2, hC, hc => simp at hC⟩
theorem aTup_three {h : Heap} {O : Nat → Prop} {A B C : AV} {v u x : Value} (h1 : A.holds h O v) (h2 : B.holds h O u) (h3 : C.holds h O x) : (aTup [A, B, C]).holds h O (.tuple #[v, u, x]) :=
 ⟨[v, u, x], rfl, rfl, fun i D c hD hc => by
  match i, hD, hc with
  | 0, hC, hc => simp at hC hc; subst hC hc; exact h1
  | 1, hC, hc => simp at hC hc; subst hC hc; exact h2
  | 2, hC, hc => simp at hC hc; subst hC hc; exact h3
  | i + 3, hC, hc => simp at hC⟩
end
section draws
variable {P : Program} {E : Env} {own : List Own}
def waits (ops : Array Oper) : Nat → Nat → Nat → Bool
 | 0, _, _ => false
 | f + 1, j, i => match ops[j]? with
  | none => false
  | some o => o.after.any fun e => Region.binds .any e && (Nat.beq e.on i || waits ops f e.on i)
def namesOf (ops : Array Oper) (o : Oper) : List Nat :=
 o.dst.toList ++ (o.op.operands.toList.filterMap fun | .tmp t => some t | _ => none) ++
 (match o.guard with
  | some (g, _) => ((ops[g]?).bind (·.dst)).toList
  | none => [])
def drawF (l : List Oper) (n f : Nat) : Bool :=
 let ops := l.toArray
 let is := List.range l.length
 (is.all fun j => is.all fun i => !(Nat.ble (i + 1) j) ||
  (match ops[i]?, ops[j]? with
   | some oi, some oj =>
    (!((match oi.dst with | some d => (namesOf ops oj).any (Nat.beq d) | none => false) || (match oj.dst with | some d => (namesOf ops oi).any (Nat.beq d) | none => false)) || waits ops l.length j i) &&
    (!(Nat.ble n j) || Nat.ble (i + 1) f || waits ops l.length j i) &&
    (Nat.ble n j || (match oi.dst, oj.dst with | some d, some e => !(Nat.beq d e) | _, _ => true))
   | _, _ => true)) &&
 (l.zipIdx.all fun (o, j) => o.after.all fun e => !(Region.binds .any e) || Nat.ble (e.on + 1) j)
def drawB (l : List Oper) (n : Nat) : Bool := drawF l n 0
def aGd : Option Bool → AV
 | some g => aBool g
 | none => aEx undef
def Unw (A : AV) : Prop := A = aAny ∨ A = aEx undef
theorem Unw.holds {A : AV} (h : Unw A) (m : Heap) (o : (Nat → Prop)) : A.holds m o undef := by
 rcases h with h | h <;> subst h
 ·exact trivial
 ·rfl
theorem yield_of {ops : Array Oper} {tmps : Array Value} {j dj : Nat} {g : Option Bool} {v : Value} {m : Heap} {o : (Nat → Prop)}
  (h1 : ((ops[j]?).bind (·.dst)) = some dj) (h2 : tmps[dj]? = some v) (h3 : (aGd g).holds m o v) : yielded ops tmps j = g := by
 unfold yielded
 rw [h1]
 cases g with
 | some g =>
  have hv : v = .bool g := h3
  subst hv
  simp only [Option.bind_some, h2]
 | none =>
  have hv : v = undef := h3
  subst hv
  simp only [Option.bind_some, h2]
  rfl
def Spec (P : Program) (E : Env) (own : List Own) (ops : Array Oper) (s : List (Nat × AV)) (o : Oper) (A : AV) : Prop :=
 match o.guard with
 | none => OpOK P E s own o A
 | some (j, want) => ∃ dj g, ((ops[j]?).bind (·.dst)) = some dj ∧ look s dj = some (aGd g) ∧ ((g = some want ∧ OpOK P E s own o A) ∨ (g ≠ some want ∧ Unw A))
def DW (P : Program) (E : Env) (own : List Own) (ops : Array Oper) : List Oper → List (Nat × AV) → (List (Nat × AV) → Prop) → Prop
 | [], s, K => K s
 | o :: rest, s, K => ∃ d A, o.dst = some d ∧ Nat.ble (d + 1) E.n = true ∧ Spec P E own ops s o A ∧ DW P E own ops rest ((d, A) :: s) K
def stt (s : List (Nat × AV)) (D : Nat → Nat) (A : Nat → AV) : Nat → List (Nat × AV)
 | 0 => s
 | k + 1 => (D k, A k) :: stt s D A k
theorem stt_shift (s : List (Nat × AV)) (D : Nat → Nat) (A : Nat → AV) (k : Nat) : stt s D A (k + 1) = stt ((D 0, A 0) :: s) (fun i => D (i + 1)) (fun i => A (i + 1)) k := by
 induction k with
 | zero => rfl
 | succ k ih => rw [stt, ih]; rfl
theorem dw_fun (ops : Array Oper) : ∀ (l : List Oper) (s : List (Nat × AV)) (K : List (Nat × AV) → Prop), DW P E own ops l s K →
  ∃ (D : Nat → Nat) (A : Nat → AV), (∀ k o, l[k]? = some o → o.dst = some (D k) ∧ D k < E.n ∧ Spec P E own ops (stt s D A k) o (A k)) ∧ K (stt s D A l.length)
 | [], s, K, h => ⟨fun _ => 0, fun _ => aAny, fun k o hk => by simp at hk, h⟩
 | o :: l, s, K, h => by
  obtain ⟨d, A0, h1, h2, h3, h4⟩ := h
  obtain ⟨D, A, h5, h6⟩ := dw_fun ops l _ K h4
  refine ⟨fun k => match k with | 0 => d | k + 1 => D k, fun k => match k with | 0 => A0 | k + 1 => A k, ?_, ?_⟩
  ·intro k o' hk
   cases k with
   | zero =>
    simp only [List.getElem?_cons_zero, Option.some.injEq] at hk
    subst hk
    exact ⟨h1, Nat.le_of_ble_eq_true h2, h3⟩
   | succ k =>
    simp only [List.getElem?_cons_succ] at hk
    obtain ⟨g1, g2, g3⟩ := h5 k o' hk
    refine ⟨g1, g2, ?_⟩
    rw [stt_shift]
    exact g3
  ·rw [List.length_cons, stt_shift]
   exact h6
theorem look_cons (d : Nat) (A : AV) (s : List (Nat × AV)) (t : Nat) : look ((d, A) :: s) t = if d = t then some A else look s t := look_set ⟨s, []⟩ d A t
theorem look_stt_none {s : List (Nat × AV)} {D : Nat → Nat} {A : Nat → AV} {t : Nat} : ∀ (k : Nat), (∀ i, i < k → D i ≠ t) → look (stt s D A k) t = look s t
 | 0, _ => rfl
 | k + 1, h => by
  rw [stt, look_cons, if_neg (h k (Nat.lt_succ_self k))]
  exact look_stt_none k fun i hi => h i (Nat.lt_succ_of_lt hi)
theorem look_stt_some {s : List (Nat × AV)} {D : Nat → Nat} {A : Nat → AV} {i : Nat} : ∀ (k : Nat), i < k → (∀ j, i < j → j < k → D j ≠ D i) → look (stt s D A k) (D i) = some (A i)
 | 0, h, _ => by omega
 | k + 1, h, hd => by
  rw [stt, look_cons]
  by_cases hik : i = k
  ·subst hik; rw [if_pos rfl]
  ·rw [if_neg (hd k (by omega) (Nat.lt_succ_self k))]
   exact look_stt_some k (by omega) fun j h1 h2 => hd j h1 (by omega)
def Closed (ops : Array Oper) (listed : Array Bool) : Prop :=
 ∀ j oj, ops[j]? = some oj → listed.getD j false = true → ∀ e ∈ oj.after, Region.binds .any e = true → listed.getD e.on false = true
theorem waits_listed {ops : Array Oper} {listed : Array Bool} (hc : Closed ops listed) : ∀ (f j i : Nat), waits ops f j i = true →
  (∀ oj, ops[j]? = some oj → ∀ e ∈ oj.after, Region.binds .any e = true → listed.getD e.on false = true) → listed.getD i false = true
 | 0, j, i, h, _ => by simp [waits] at h
 | f + 1, j, i, h, hj => by
  unfold waits at h
  split at h
  ·cases h
  ·rename_i o ho
   obtain ⟨e, he, hb⟩ := Array.any_eq_true'.1 h
   simp only [Bool.and_eq_true, Bool.or_eq_true] at hb
   have hl := hj o ho e he hb.1
   rcases hb.2 with hb2 | hb2
   ·rw [← Nat.eq_of_beq_eq_true hb2]; exact hl
   ·exact waits_listed hc f e.on i hb2 fun oj hoj => hc e.on oj hoj hl
theorem drawB_spec {l : List Oper} {n f : Nat} (h : drawF l n f = true) :
  (∀ i j oi oj, i < j → l[i]? = some oi → l[j]? = some oj →
   ((∀ d, oi.dst = some d → d ∈ namesOf l.toArray oj → waits l.toArray l.length j i = true) ∧ (∀ d, oj.dst = some d → d ∈ namesOf l.toArray oi → waits l.toArray l.length j i = true)) ∧
   (n ≤ j → f ≤ i → waits l.toArray l.length j i = true) ∧ (j < n → ∀ d, oi.dst = some d → oj.dst ≠ some d)) ∧
  (∀ j oj, l[j]? = some oj → ∀ e ∈ oj.after, Region.binds .any e = true → e.on < j) := by
 unfold drawF at h
 simp only [Bool.and_eq_true] at h
 obtain ⟨h1, h2⟩ := h
 refine ⟨fun i j oi oj hij hi hj => ?_, fun j oj hj e he hb => ?_⟩
 ·have hjl : j < l.length := (List.getElem?_eq_some_iff.1 hj).1
  have hil : i < l.length := (List.getElem?_eq_some_iff.1 hi).1
  have h3 := List.all_eq_true.1 (List.all_eq_true.1 h1 j (List.mem_range.2 hjl)) i (List.mem_range.2 hil)
  have hlt : Nat.ble (i + 1) j = true := Nat.ble_eq_true_of_le hij
  simp only [hlt, List.getElem?_toArray, hi, hj, Bool.not_true, Bool.false_or, Bool.and_eq_true] at h3
  obtain ⟨⟨h4, h5⟩, h6⟩ := h3
  refine ⟨⟨fun d hd hm => ?_, fun d hd hm => ?_⟩, fun hn hf => ?_, fun hn d hd he => ?_⟩
  ·have : (namesOf l.toArray oj).any (Nat.beq d) = true := List.any_eq_true.2 ⟨d, hm, by simp⟩
   simp only [hd, this, Bool.true_or, Bool.not_true, Bool.false_or] at h4
   exact h4
  ·have : (namesOf l.toArray oi).any (Nat.beq d) = true := List.any_eq_true.2 ⟨d, hm, by simp⟩
   simp only [hd, this, Bool.or_true, Bool.not_true, Bool.false_or] at h4
   exact h4
  ·have hff : Nat.ble (i + 1) f = false := by
    cases hb : Nat.ble (i + 1) f with
    | false => rfl
    | true => have := Nat.le_of_ble_eq_true hb; omega
   rw [Nat.ble_eq_true_of_le hn, hff] at h5
   simpa using h5
  ·have : Nat.ble n j = false := by
    cases hb : Nat.ble n j with
    | false => rfl
    | true => have := Nat.le_of_ble_eq_true hb; omega
   rw [this, hd, he] at h6
   simp at h6
 ·have := List.all_eq_true.1 h2 (oj, j) (by rw [List.mk_mem_zipIdx_iff_getElem?]; exact hj)
  have h3 := Array.all_eq_true'.1 this e he
  simp only [hb, Bool.not_true, Bool.false_or] at h3
  exact Nat.le_of_ble_eq_true h3
structure DInv (E : Env) (own : List Own) (s : List (Nat × AV)) (D : Nat → Nat) (A : Nat → AV) (l : List Oper) (n f : Nat) (listed : Array Bool) (a : Act) (w : World) : Prop where
 sz : listed.size = l.length
 fl : ∀ i, i < f → listed.getD i false = true
 closed : Closed l.toArray listed
 tail : ∀ t, n ≤ t → listed.getD t false = false
 world : RepW E own w
 size : a.tmps.size = E.n
 defers : a.defers = E.ds
 done : ∀ i, i < n → listed.getD i false = true → ∃ v, a.tmps[D i]? = some v ∧ (A i).holds w.heap (OO E own) v
 base : ∀ t B, look s t = some B → (∀ i, i < n → listed.getD i false = true → D i ≠ t) → ∃ v, a.tmps[t]? = some v ∧ B.holds w.heap (OO E own) v
theorem getD_tf {listed : Array Bool} {i : Nat} (hi : i < listed.size) : listed.getD i true = listed.getD i false := by simp [hi]
variable {s : List (Nat × AV)} {D : Nat → Nat} {A : Nat → AV} {l : List Oper} {n f : Nat} {listed : Array Bool} {a : Act} {w : World}
theorem DInv.slot (inv : DInv E own s D A l n f listed a w) (hn : n ≤ l.length) (hB : drawF l n f = true) (hspec : ∀ k o, k < n → l[k]? = some o → o.dst = some (D k) ∧ D k < E.n ∧ Spec P E own l.toArray (stt s D A k) o (A k))
  {j : Nat} {oj : Oper} (hj : l[j]? = some oj) (hjn : j < n) (hun : listed.getD j false = false)
  (hr : ∀ e ∈ oj.after, Region.binds .any e = true → listed.getD e.on false = true) {t : Nat} (ht : t ∈ namesOf l.toArray oj) {B : AV} (hlook : look (stt s D A j) t = some B) :
  ∃ v, a.tmps[t]? = some v ∧ B.holds w.heap (OO E own) v := by
 obtain ⟨hord, _⟩ := drawB_spec hB
 by_cases hex : ∃ i, i < j ∧ D i = t
 ·obtain ⟨i, hij, hit⟩ := hex
  have hil : i < l.length := by omega
  have hoi : l[i]? = some l[i] := List.getElem?_eq_getElem hil
  have hdi := (hspec i _ (by omega) hoi).1
  have hw := ((hord i j _ _ hij hoi hj).1.1 (D i) hdi (by rw [hit]; exact ht))
  have hli : listed.getD i false = true := waits_listed inv.closed _ j i hw (fun oj' h' => by
   have : oj' = oj := by simp only [List.getElem?_toArray] at h'; rw [hj] at h'; exact (Option.some.inj h').symm
   subst this; exact hr)
  have hl2 : look (stt s D A j) (D i) = some (A i) := look_stt_some j hij fun k hk1 hk2 hk3 => by
   have hkl : k < l.length := by omega
   have hok : l[k]? = some l[k] := List.getElem?_eq_getElem hkl
   have := (hord i k _ _ hk1 hoi hok).2.2 (by omega) (D i) hdi
   rw [(hspec k _ (by omega) hok).1] at this
   exact this (by rw [hk3])
  rw [hit, hlook] at hl2
  cases hl2
  rw [← hit]
  exact inv.done i (by omega) hli
 ·have hno : ∀ i, i < j → D i ≠ t := fun i h1 h2 => hex ⟨i, h1, h2⟩
  rw [look_stt_none j hno] at hlook
  refine inv.base t B hlook fun i hin hil hit => ?_
  rcases Nat.lt_trichotomy i j with h | h | h
  ·exact hno i h hit
  ·subst h; rw [hun] at hil; cases hil
  ·have hill : i < l.length := by omega
   have hoi : l[i]? = some l[i] := List.getElem?_eq_getElem hill
   have hw := (hord j i _ _ h hj hoi).1.2 (D i) (hspec i _ hin hoi).1 (by rw [hit]; exact ht)
   have := waits_listed inv.closed _ i j hw (fun oi' h' => inv.closed i oi' h' hil)
   rw [hun] at this; cases this
theorem DInv.step (inv : DInv E own s D A l n f listed a w) (hB : drawF l n f = true) (hn : n ≤ l.length) (hspec : ∀ k o, k < n → l[k]? = some o → o.dst = some (D k) ∧ D k < E.n ∧ Spec P E own l.toArray (stt s D A k) o (A k))
  {j : Nat} {oj : Oper} (hj : l[j]? = some oj) (hjn : j < n)
  (hr : ∀ e ∈ oj.after, Region.binds .any e = true → listed.getD e.on false = true) {v : Value} {w' : World} (g : Grow w w') (hv : (A j).holds w'.heap (OO E own) v) :
  DInv E own s D A l n f (listed.setIfInBounds j true) (a.put oj.dst v) w' := by
 obtain ⟨hord, _⟩ := drawB_spec hB
 have hdj := (hspec j oj hjn hj)
 have hset : ∀ i, i ≠ j → (listed.setIfInBounds j true).getD i false = listed.getD i false := fun i hi => getD_set_ne false (Ne.symm hi)
 have hmono : ∀ (B : AV) u, B.holds w.heap (OO E own) u → B.holds w'.heap (OO E own) u := fun B u h => B.mono _ _ _ _ _ h g.size (fun b hb _ => g.block b hb) (fun _ _ h => h)
 have hne : ∀ i, i < n → i ≠ j → D i ≠ D j := fun i hin hij he => by
  have hill : i < l.length := by omega
  have hoi : l[i]? = some l[i] := List.getElem?_eq_getElem hill
  rcases Nat.lt_or_gt_of_ne hij with h | h
  ·have := (hord i j _ _ h hoi hj).2.2 hjn (D i) (hspec i _ hin hoi).1
   rw [hdj.1] at this; exact this (by rw [he])
  ·have := (hord j i _ _ h hj hoi).2.2 hin (D j) hdj.1
   rw [(hspec i _ hin hoi).1] at this; exact this (by rw [he])
 refine ⟨by simp [inv.sz], fun i hi => getD_set_true (inv.fl i hi), ?_, ?_, inv.world.grow g, ?_, ?_, ?_, ?_⟩
 ·intro k ok hk hl e he hb
  by_cases hkj : k = j
  ·subst hkj
   have : ok = oj := by simp only [List.getElem?_toArray] at hk; rw [hj] at hk; exact (Option.some.inj hk).symm
   subst this
   exact getD_set_true (hr e he hb)
  ·rw [hset k hkj] at hl
   exact getD_set_true (inv.closed k ok hk hl e he hb)
 ·intro t ht
  rw [hset t (by omega)]; exact inv.tail t ht
 ·rw [hdj.1]; simp [Act.put, inv.size]
 ·rw [hdj.1]; simpa [Act.put] using inv.defers
 ·intro i hin hl
  by_cases hij : i = j
  ·subst hij
   refine ⟨v, ?_, hv⟩
   rw [hdj.1]
   simp only [Act.put]
   rw [Array.getElem?_setIfInBounds_self, if_pos (by rw [inv.size]; exact hdj.2.1)]
  ·rw [hset i hij] at hl
   obtain ⟨u, h1, h2⟩ := inv.done i hin hl
   refine ⟨u, ?_, hmono _ _ h2⟩
   rw [hdj.1]
   simp only [Act.put]
   rw [Array.getElem?_setIfInBounds_ne (Ne.symm (hne i hin hij))]
   exact h1
 ·intro t B hlook hno
  have htj : D j ≠ t := hno j hjn (by
   have hlt : j < listed.size := by rw [inv.sz]; exact (List.getElem?_eq_some_iff.1 hj).1
   simp [hlt])
  obtain ⟨u, h1, h2⟩ := inv.base t B hlook (fun i hin hl => hno i hin (getD_set_true hl))
  refine ⟨u, ?_, hmono _ _ h2⟩
  rw [hdj.1]
  simp only [Act.put]
  rw [Array.getElem?_setIfInBounds_ne htj]
  exact h1
theorem DInv.end (inv : DInv E own s D A l n f listed a w) (hB : drawF l n f = true) (hn : n ≤ l.length) (hspec : ∀ k o, k < n → l[k]? = some o → o.dst = some (D k) ∧ D k < E.n ∧ Spec P E own l.toArray (stt s D A k) o (A k))
  (hall : ∀ i, i < n → listed.getD i false = true) : Rep E ⟨stt s D A n, own⟩ a w := by
 obtain ⟨hord, _⟩ := drawB_spec hB
 refine ⟨inv.size, inv.defers, fun t B hlook => ?_, inv.world.own, inv.world.apart, inv.world.free, inv.world.xold, inv.world.keep⟩
 by_cases hex : ∃ i, i < n ∧ D i = t
 ·obtain ⟨i, hin, hit⟩ := hex
  have hil : i < l.length := by omega
  have hoi : l[i]? = some l[i] := List.getElem?_eq_getElem hil
  have hdi := (hspec i _ (by omega) hoi).1
  have hl2 : look (stt s D A n) (D i) = some (A i) := look_stt_some n hin fun k hk1 hk2 hk3 => by
   have hkl : k < l.length := by omega
   have hok : l[k]? = some l[k] := List.getElem?_eq_getElem hkl
   have := (hord i k _ _ hk1 hoi hok).2.2 (by omega) (D i) hdi
   rw [(hspec k _ (by omega) hok).1] at this
   exact this (by rw [hk3])
  have hlook' : look (stt s D A n) t = some B := hlook
  rw [← hit, hl2] at hlook'
  cases hlook'
  rw [← hit]
  exact inv.done i hin (hall i hin)
 ·have hno : ∀ i, i < n → D i ≠ t := fun i h1 h2 => hex ⟨i, h1, h2⟩
  have hlook' : look (stt s D A n) t = some B := hlook
  rw [look_stt_none n hno] at hlook'
  exact inv.base t B hlook' fun i hin _ => hno i hin
theorem draw_go {Q : Exit → Act → World → Prop} {g : Nat} (hB : drawF l n f = true) (hn : n ≤ l.length) (hspec : ∀ k o, k < n → l[k]? = some o → o.dst = some (D k) ∧ D k < E.n ∧ Spec P E own l.toArray (stt s D A k) o (A k))
  (hend : ∀ listed a w, DInv E own s D A l n f listed a w → (∀ i, i < n → listed.getD i false = true) → wpAny P .any l.toArray Q g listed a w) :
  ∀ (c : Nat) (listed : Array Bool) (a : Act) (w : World), ((List.range n).filter fun i => !(listed.getD i false)).length = c → DInv E own s D A l n f listed a w →
   wpAny P .any l.toArray Q (c + g) listed a w
 | 0, listed, a, w, hc, inv => by
  rw [Nat.zero_add]
  refine hend listed a w inv fun i hi => ?_
  have hnil := List.eq_nil_of_length_eq_zero hc
  have := List.filter_eq_nil_iff.1 hnil i (List.mem_range.2 hi)
  simpa using this
 | c + 1, listed, a, w, hc, inv => by
  obtain ⟨hord, hlow⟩ := drawB_spec hB
  have hex : ∃ j, j < n ∧ listed.getD j false = false := by
   cases hl : (List.range n).filter fun i => !(listed.getD i false) with
   | nil => rw [hl] at hc; simp at hc
   | cons j r =>
    have : j ∈ (List.range n).filter fun i => !(listed.getD i false) := by rw [hl]; simp
    simp only [List.mem_filter, List.mem_range] at this
    exact ⟨j, this.1, by simpa using this.2⟩
  have hready : Region.ready .any l.toArray listed ≠ [] := by
   obtain ⟨j, hj1, hj2⟩ := hex
   have hleast : ∃ k, k < n ∧ listed.getD k false = false ∧ ∀ i, i < k → listed.getD i false = true := by
    clear hc
    induction j using Nat.strongRecOn with
    | _ j ih =>
     by_cases h : ∀ i, i < j → listed.getD i false = true
     ·exact ⟨j, hj1, hj2, h⟩
     ·simp only [Classical.not_forall] at h
      obtain ⟨i, h1, h2⟩ := h
      exact ih i h1 (by omega) (by simpa using h2)
   obtain ⟨k, hk1, hk2, hk3⟩ := hleast
   have hkl : k < l.length := by omega
   have hok : l[k]? = some l[k] := List.getElem?_eq_getElem hkl
   have : k ∈ Region.ready .any l.toArray listed := mem_ready.2 ⟨by rw [getD_tf (by rw [inv.sz]; exact hkl)]; exact hk2, l[k], by simpa using hok, fun e he hb => hk3 _ (hlow k _ hok e he hb)⟩
   intro h0
   rw [h0] at this; cases this
  rw [show c + 1 + g = (c + g) + 1 by omega]
  refine ⟨fun h0 => absurd h0 hready, fun j hj => ?_⟩
  obtain ⟨hun', oj, hoj', hall⟩ := mem_ready.1 hj
  have hoj : l[j]? = some oj := by simpa using hoj'
  have hjl : j < l.length := (List.getElem?_eq_some_iff.1 hoj).1
  have hun : listed.getD j false = false := by rw [← getD_tf (by rw [inv.sz]; exact hjl)]; exact hun'
  have hjn : j < n := by
   rcases Nat.lt_or_ge j n with h | h
   ·exact h
   ·exfalso
    obtain ⟨i, hi1, hi2⟩ := hex
    have hil : i < l.length := by omega
    have hoi : l[i]? = some l[i] := List.getElem?_eq_getElem hil
    have hw := (hord i j _ _ (by omega) hoi hoj).2.1 h (Nat.le_of_not_lt fun hlt => by have := inv.fl i hlt; rw [hi2] at this; cases this)
    have := waits_listed inv.closed _ j i hw (fun oj' h' => by
     have : oj' = oj := by simp only [List.getElem?_toArray] at h'; rw [hoj] at h'; exact (Option.some.inj h').symm
     subst this; exact hall)
    rw [hi2] at this; cases this
  obtain ⟨hd1, hd2, hsp⟩ := hspec j oj hjn hoj
  have hcount : ((List.range n).filter fun i => !((listed.setIfInBounds j true).getD i false)).length = c := by
   have key : ∀ m, m ≤ n → ((List.range m).filter fun i => !((listed.setIfInBounds j true).getD i false)).length + (if j < m then 1 else 0) = ((List.range m).filter fun i => !(listed.getD i false)).length := by
    intro m
    induction m with
    | zero => intro _; simp
    | succ m ih =>
     intro hm
     have := ih (by omega)
     rw [List.range_succ, List.filter_append, List.filter_append, List.length_append, List.length_append]
     by_cases hmj : m = j
     ·subst hmj
      have h1 : (listed.setIfInBounds m true).getD m false = true := by simp [inv.sz, hjl]
      rw [if_neg (by omega)] at this
      simp only [List.filter_cons, h1, hun, List.filter_nil]
      simp at this ⊢
      omega
     ·have e0 : (listed.setIfInBounds j true).getD m false = listed.getD m false := getD_set_ne false (fun h => hmj h.symm)
      have e1 : (if j < m + 1 then 1 else 0) = (if j < m then 1 else 0 : Nat) := by
       by_cases hjm : j < m
       ·have : j < m + 1 := by omega
        simp [hjm, this]
       ·have : ¬ j < m + 1 := by omega
        simp [hjm, this]
      rw [e1, List.filter_cons, List.filter_cons, e0]
      simp only [List.filter_nil]
      omega
   have := key n (Nat.le_refl _)
   rw [if_pos hjn, hc] at this
   omega
  have hnext : ∀ v w', Grow w w' → (A j).holds w'.heap (OO E own) v → wpAny P .any l.toArray Q (c + g) (listed.setIfInBounds j true) (a.put oj.dst v) w' :=
   fun v w' gr hv => draw_go hB hn hspec hend c _ _ _ hcount (inv.step hB hn hspec hoj hjn hall gr hv)
  have hopR : OpR E (stt s D A j) own oj a w := ⟨inv.world, fun x hx B hB' => by
   cases x with
   | tmp t =>
    have ht : t ∈ namesOf l.toArray oj := by
     unfold namesOf
     refine List.mem_append_left _ (List.mem_append_right _ ?_)
     exact List.mem_filterMap.2 ⟨.tmp t, by simpa using hx, rfl⟩
    obtain ⟨v, h1, h2⟩ := inv.slot hn hB hspec hoj hjn hun hall ht hB'
    show B.holds _ _ (a.tmps.getD t undef)
    rw [Array.getD_eq_getD_getElem?, h1]
    exact h2
   | const v => simp only [opd, Option.some.injEq] at hB'; subst hB'; rfl
   | global g => simp only [opd, Option.some.injEq] at hB'; subst hB'; rfl
   | func f => simp only [opd, Option.some.injEq] at hB'; subst hB'; rfl⟩
  unfold wpOp
  rw [hoj']
  dsimp only
  unfold Spec at hsp
  split at hsp
  ·rename_i hgd
   rw [if_pos (by simp [Region.wanted, hgd])]
   exact .inl (hsp a w hopR _ _ hnext)
  ·rename_i jg want hgd
   obtain ⟨dj, gg, h1, h2, h3⟩ := hsp
   have hname : dj ∈ namesOf l.toArray oj := by
    unfold namesOf
    refine List.mem_append_right _ ?_
    rw [hgd]
    simp only [h1]
    simp
   obtain ⟨v, hv1, hv2⟩ := inv.slot hn hB hspec hoj hjn hun hall hname h2
   have hy : yielded l.toArray a.tmps jg = gg := yield_of h1 hv1 hv2
   rcases h3 with ⟨h4, h5⟩ | ⟨h4, h5⟩
   ·rw [if_pos (by simp [Region.wanted, hgd, hy, h4])]
    exact .inl (h5 a w hopR _ _ hnext)
   ·rw [if_neg (by simp [Region.wanted, hgd, hy, h4])]
    exact hnext undef w (Grow.refl w) (h5.holds _ _)
theorem draw_from {st : St} {Q : Exit → Act → World → Prop} (n f : Nat) (hfn : f ≤ n) (hn : Nat.ble n l.length = true) (hB : drawF l n f = true)
  (hS : Region.seqB .any l.toArray (l.length - n) n (Array.replicate n true ++ Array.replicate (l.length - n) false) = true)
  (hspec : ∀ k o, k < n → l[k]? = some o → o.dst = some (D k) ∧ D k < E.n ∧ Spec P E st.own l.toArray (stt st.slots D A k) o (A k))
  (h2 : Ent E ⟨stt st.slots D A n, st.own⟩ (wpList P l.toArray Q (l.drop n)))
  (inv : DInv E st.own st.slots D A l n f (Array.replicate f true ++ Array.replicate (l.length - f) false) a w) : wpAny P .any l.toArray Q (l.length - f) (Array.replicate f true ++ Array.replicate (l.length - f) false) a w := by
 have hnl : n ≤ l.length := Nat.le_of_ble_eq_true hn
 have hget : ∀ i, (Array.replicate f true ++ Array.replicate (l.length - f) false).getD i false = decide (i < f) := fun i => by
  rw [Array.getD_eq_getD_getElem?]
  rcases Nat.lt_or_ge i f with h | h
  ·rw [Array.getElem?_append_left (by simpa using h)]; simp [h]
  ·rw [Array.getElem?_append_right (by simpa using h)]
   rcases Nat.lt_or_ge (i - f) (l.length - f) with h' | h'
   ·have : ¬ i < f := by omega
    simp [h', this]
   ·have : ¬ i < f := by omega
    rw [Array.getElem?_eq_none (by simpa using h')]; simp [this]
 have hcount : ((List.range n).filter fun i => !((Array.replicate f true ++ Array.replicate (l.length - f) false).getD i false)).length = n - f := by
  have key : ∀ m, ((List.range m).filter fun i => !((Array.replicate f true ++ Array.replicate (l.length - f) false).getD i false)).length = m - f := by
   intro m
   induction m with
   | zero => simp
   | succ m ih =>
    rw [List.range_succ, List.filter_append, List.length_append, ih]
    simp only [List.filter_cons, hget, List.filter_nil]
    by_cases hm : m < f
    ·simp [hm]; omega
    ·simp [hm]; omega
  exact key n
 have := draw_go (P := P) (Q := Q) (g := l.length - n) hB hnl hspec ?_ (n - f) _ a w hcount inv
 ·rw [show n - f + (l.length - n) = l.length - f by omega] at this
  exact this
 ·intro listed a' w' inv' hall
  have hrep := inv'.end hB hnl hspec hall
  have hlisted : listed = Array.replicate n true ++ Array.replicate (l.length - n) false := by
   apply Array.ext
   ·simp [inv'.sz]; omega
   ·intro i hi1 hi2
    have hd : listed.getD i false = listed[i] := by simp [hi1]
    rcases Nat.lt_or_ge i n with h | h
    ·rw [← hd, hall i h, Array.getElem_append_left (by simpa using h)]; simp
    ·rw [← hd, inv'.tail i h, Array.getElem_append_right (by simpa using h)]; simp
  have hdl : (l.drop n).length = l.length - n := by simp
  rw [← hdl]
  refine wpAny_of_seq (l.drop n) n listed a' w' (fun j => by simp [List.getElem?_drop]) ?_ (h2 a' w' hrep)
  rw [hdl, hlisted]
  exact hS
theorem rep_start {st : St} (r : Rep E st a w) : DInv E st.own st.slots D A l n 0 (Array.replicate 0 true ++ Array.replicate (l.length - 0) false) a w := by
 have hff : ∀ (m i : Nat), (Array.replicate 0 true ++ Array.replicate m false).getD i false = false := fun m i => by
  rcases Nat.lt_or_ge i m with h | h
  ·simp [h]
  ·simp [h]
 refine ⟨by simp, fun i hi => by omega, ?_, fun t _ => hff _ t, r.w, r.size, r.defers, ?_, fun t B hl _ => r.slots t B hl⟩
 ·intro j oj _ hl; rw [hff] at hl; cases hl
 ·intro i _ hl; rw [hff] at hl; cases hl
theorem ent_draw {st : St} {Q : Exit → Act → World → Prop} {id : Nat} (n : Nat) (hm : P.follows .mixedOrders = true) (hn : Nat.ble n l.length = true) (hB : drawB l n = true)
  (hS : Region.seqB .any l.toArray (l.length - n) n (Array.replicate n true ++ Array.replicate (l.length - n) false) = true)
  (h : DW P E st.own l.toArray (l.take n) st.slots (fun s' => Ent E ⟨s', st.own⟩ (wpList P l.toArray Q (l.drop n)))) : Ent E st ((Code.region id l.toArray true).wp P Q) := by
 intro a w r
 have hnl : n ≤ l.length := Nat.le_of_ble_eq_true hn
 obtain ⟨D, A, h1, h2⟩ := dw_fun l.toArray _ _ _ h
 have hlen : (l.take n).length = n := by simp [hnl]
 rw [hlen] at h2
 have hspec : ∀ k o, k < n → l[k]? = some o → o.dst = some (D k) ∧ D k < E.n ∧ Spec P E st.own l.toArray (stt st.slots D A k) o (A k) := fun k o hk ho => h1 k o (by rw [List.getElem?_take, if_pos hk]; exact ho)
 refine wp_region_any hm ?_
 have r1 : Rep E st a w.drew := r.grow (Grow.drew w)
 have := draw_from n 0 (Nat.zero_le _) hn hB hS hspec h2 (rep_start r1)
 simpa using this
theorem ent_drawM {st : St} {Q : Exit → Act → World → Prop} {id d t : Nat} {ty : TypeId} {pos : String} {rest : List Oper} (n : Nat) (hm : P.follows .mixedOrders = true) (hl : l = ⟨some d, .move (.tmp t), ty, pos, #[], none⟩ :: rest)
  (h0 : Nat.ble 1 n = true) (hn : Nat.ble n l.length = true) (hB : drawF l n 1 = true)
  (hS : Region.seqB .any l.toArray (l.length - n) n (Array.replicate n true ++ Array.replicate (l.length - n) false) = true)
  (hs : Region.noSelect l.toArray = true) (hf : Region.free .any l.toArray (Array.replicate l.length false) 0 = true) (hr : (Region.ready .any l.toArray (Array.replicate l.length false)).contains 0 = true)
  (hQ : ∀ c a w v, Q (.panic c) (a.put (some d) v) w → Q (.panic c) a w)
  (h : DW P E st.own l.toArray (l.take n) st.slots (fun s' => Ent E ⟨s', st.own⟩ (wpList P l.toArray Q (l.drop n)))) : Ent E st ((Code.region id l.toArray true).wp P Q) := by
 intro a w r
 have hnl : n ≤ l.length := Nat.le_of_ble_eq_true hn
 have h1n : 1 ≤ n := Nat.le_of_ble_eq_true h0
 obtain ⟨D, A, h1, h2⟩ := dw_fun l.toArray _ _ _ h
 have hlen : (l.take n).length = n := by simp [hnl]
 rw [hlen] at h2
 have hspec : ∀ k o, k < n → l[k]? = some o → o.dst = some (D k) ∧ D k < E.n ∧ Spec P E st.own l.toArray (stt st.slots D A k) o (A k) := fun k o hk ho => h1 k o (by rw [List.getElem?_take, if_pos hk]; exact ho)
 refine wp_region_any hm ?_
 have r1 : Rep E st a w.drew := r.grow (Grow.drew w)
 have ho0 : l[0]? = some ⟨some d, .move (.tmp t), ty, pos, #[], none⟩ := by rw [hl]; rfl
 obtain ⟨hd1, hd2, hd3⟩ := hspec 0 _ h1n ho0
 have hdd : D 0 = d := by simpa using hd1.symm
 have hop : OpOK P E st.slots st.own ⟨some d, .move (.tmp t), ty, pos, #[], none⟩ (A 0) := hd3
 have hrun : ∀ w', (execOp a.eval ⟨some d, .move (.tmp t), ty, pos, #[], none⟩).run P w' = .ok (.value (a.eval (.tmp t))) w' := fun w' => by simp [execOp]
 have hv : (A 0).holds w.drew.heap (OO E st.own) (a.eval (.tmp t)) := by
  have hk := hop a w.drew (r1.opR _) (fun a' w' => ∃ v, a'.tmps[d]? = some v ∧ (A 0).holds w'.heap (OO E st.own) v) Q (fun v w' g hh => ⟨v, by
   simp only [Act.put]
   rw [Array.getElem?_setIfInBounds_self, if_pos (by rw [r1.size, ← hdd]; exact hd2)], hh⟩)
  unfold Oper.wp at hk
  rw [hrun, Oper.upon_value] at hk
  obtain ⟨v, g1, g2⟩ := hk
  simp only [Act.put] at g1
  rw [Array.getElem?_setIfInBounds_self, if_pos (by rw [r1.size, ← hdd]; exact hd2)] at g1
  cases g1
  exact g2
 have hy : Yields P l.toArray ⟨some d, .move (.tmp t), ty, pos, #[], none⟩ (a.eval (.tmp t)) a := .inl ⟨by simp [Region.wanted], hrun⟩
 have hlt : 0 < l.length := by rw [hl]; simp
 have hset : (Array.replicate l.length false).setIfInBounds 0 true = Array.replicate 1 true ++ Array.replicate (l.length - 1) false := by
  apply Array.ext_getElem?
  intro i
  cases i with
  | zero => rw [Array.getElem?_append_left (by simp)]; simp [hlt]
  | succ i =>
   rw [Array.getElem?_setIfInBounds_ne (by omega), Array.getElem?_append_right (by simp), Array.getElem?_replicate, Array.getElem?_replicate]
   simp only [Array.size_replicate, Nat.add_sub_cancel]
   by_cases hi : i + 1 < l.length
   ·rw [if_pos hi, if_pos (by omega)]
   ·rw [if_neg hi, if_neg (by omega)]
 have key := wpAny_take (fuel := l.length - 1) (w := w.drew) (i := 0) (by simpa using ho0) hs hf hr (fun c a w hh => hQ c a w _ hh) hy (Q := Q) (P := P) (md := .any)
 rw [Nat.sub_add_cancel hlt] at key
 rw [show l.toArray.size = l.length by simp]
 refine key ?_
 rw [hset]
 refine draw_from n 1 h1n hn hB hS hspec h2 ?_
 have hget : ∀ i, (Array.replicate 1 true ++ Array.replicate (l.length - 1) false).getD i false = decide (i < 1) := fun i => by
  rw [← hset, Array.getD_eq_getD_getElem?]
  cases i with
  | zero => simp [hlt]
  | succ i =>
   rw [Array.getElem?_setIfInBounds_ne (by omega)]
   rcases Nat.lt_or_ge (i + 1) l.length with h' | h'
   ·simp [h']
   ·rw [Array.getElem?_eq_none (by simpa using h')]; simp
 refine ⟨by simp; omega, fun i hi => by rw [hget]; simpa using hi, ?_, ?_, r1.w, by simp [Act.put, r1.size], by simpa [Act.put] using r1.defers, ?_, ?_⟩
 ·intro j oj hj hl
  rw [hget] at hl
  have hj0 : j = 0 := by simpa using hl
  subst hj0
  have : oj = ⟨some d, .move (.tmp t), ty, pos, #[], none⟩ := by simp only [List.getElem?_toArray] at hj; rw [ho0] at hj; exact (Option.some.inj hj).symm
  subst this
  intro e he; simp at he
 ·intro t ht; rw [hget]; simp; omega
 ·intro i hin hl
  rw [hget] at hl
  have hi0 : i = 0 := by simpa using hl
  subst hi0
  refine ⟨a.eval (.tmp t), ?_, hv⟩
  simp only [Act.put, hdd]
  rw [Array.getElem?_setIfInBounds_self, if_pos (by rw [r1.size, ← hdd]; exact hd2)]
 ·intro t' B hlook hno
  have htd : d ≠ t' := by rw [← hdd]; exact hno 0 h1n (by rw [hget]; rfl)
  obtain ⟨u, g1, g2⟩ := r1.slots t' B hlook
  refine ⟨u, ?_, g2⟩
  simp only [Act.put]
  rw [Array.getElem?_setIfInBounds_ne htd]; exact g1
end draws
section
def vec (r : Option Nat) (n cap : Nat) : Value := .slice (r.map fun b => ⟨b, 0, none⟩) n cap
def oVec {α : Type} (r : Option Nat) (cap : Nat) (e : TypeId) (sz : Nat) (agg : Bool) (enc : α → AV) (xs : List α) : Own where
 has := fun b => r = some b
 holds h O := xs.length ≤ 140737488355328 ∧ (agg = false → sz = 1) ∧ ((r = none ∧ xs = [] ∧ cap = 0) ∨
  ∃ b cur, r = some b ∧ h[b]? = some (.cells cur e (0, 0)) ∧ xs.length ≤ cap ∧ cap ≤ maxLen ∧ cur.size = cap * sz ∧
   ∀ i x, xs[i]? = some x → ∃ us : List Value, us.length = sz ∧ (∀ j u, us[j]? = some u → cur[i * sz + j]? = some u ∧ u.oneCell' = true) ∧ (enc x).holds h O (mkV agg us))
 mono := by
  rintro h h' O O' ⟨h1, h2, h3⟩ hs hb ho
  refine ⟨h1, h2, ?_⟩
  rcases h3 with h3 | ⟨b, cur, rfl, g2, g3, g4, g5, g6⟩
  ·exact .inl h3
  ·refine .inr ⟨b, cur, rfl, ?_, g3, g4, g5, fun i x hx => ?_⟩
   ·rw [hb b (Array.getElem?_eq_some_iff.1 g2).1 (.inr rfl)]; exact g2
   ·obtain ⟨us, k1, k2, k3⟩ := g6 i x hx
    exact ⟨us, k1, k2, (enc x).mono _ _ _ _ _ k3 hs (fun b hlt hn => hb b hlt (.inl hn)) ho⟩
 lt := by
  rintro h O b ⟨_, _, h3⟩ hb
  rcases h3 with ⟨h3, _⟩ | ⟨b', cur, h3, g2, _⟩
  ·rw [h3] at hb; cases hb
  ·rw [h3] at hb; cases hb; exact (Array.getElem?_eq_some_iff.1 g2).1
def oBox (b : Nat) (T : TypeId) (As : List AV) : Own where
 has := fun x => some b = some x
 holds h O := ∃ cur : List Value, h[b]? = some (.cells cur.toArray T (0, 0)) ∧ cur.length = As.length ∧
  ∀ (i : Nat) (A : AV) (u : Value), As[i]? = some A → cur[i]? = some u → A.holds h O u ∧ u.oneCell' = true
 mono := by
  rintro h h' O O' ⟨cur, g1, g2, g3⟩ hs hb ho
  refine ⟨cur, ?_, g2, fun i A u hA hu => ⟨A.mono _ _ _ _ _ (g3 i A u hA hu).1 hs (fun b hlt hn => hb b hlt (.inl hn)) ho, (g3 i A u hA hu).2⟩⟩
  rw [hb b (Array.getElem?_eq_some_iff.1 g1).1 (.inr rfl)]; exact g1
 lt := by
  rintro h O b' ⟨cur, g1, _⟩ hb
  cases hb
  exact (Array.getElem?_eq_some_iff.1 g1).1
def One (A : AV) : Prop := ∀ h O v, A.holds h O v → v.oneCell' = true
theorem one_ex {v : Value} (h : v.oneCell' = true) : One (aEx v) := fun _ _ _ hv => by rw [show _ = v from hv]; exact h
theorem one_int (n : Int) : One (aInt n) := one_ex rfl
theorem one_bool (b : Bool) : One (aBool b) := one_ex rfl
theorem one_sl {α : Type} {sz : Nat} {agg : Bool} {enc : α → AV} {xs : List α} : One (aSl sz agg enc xs) := by
 rintro h O v ⟨p, cap, rfl, _⟩; rfl
theorem one_at {sz : Nat} {agg : Bool} {A : AV} : One (aAt sz agg A) := by
 rintro h O v ⟨b, off, us, rfl, _⟩; rfl
structure VecTy (P : Program) (T e : TypeId) (sz bytes : Nat) (agg : Bool) (z : Value) : Prop where
 und : P.underlying T = some (.slice e)
 info : ∃ i, P.info? e = some i ∧ i.zero = some z ∧ i.size = sz ∧ i.bytes = bytes
 zs : z.cells.size = sz
 pos : 0 < sz
 one : agg = false → sz = 1
 isagg : ∀ w, (isAgg e).run P w = .ok agg w
theorem VecTy.sl {P : Program} {T e : TypeId} {sz bytes : Nat} {agg : Bool} {z : Value} (h : VecTy P T e sz bytes agg z) : SlInfo P T e sz :=
 ⟨fun _ => run_underlying h.und _, fun w => by obtain ⟨i, h1, _, h3, _⟩ := h.info; simp [sizeOf, typeInfo, h1, h3]⟩
theorem VecTy.ty {P : Program} {T e : TypeId} {sz bytes : Nat} {agg : Bool} {z : Value} (h : VecTy P T e sz bytes agg z) : TyInfo P e sz agg := ⟨h.isagg, h.sl.size⟩
theorem vecTy_of {P : Program} {T e : TypeId} {sz bytes : Nat} {agg : Bool} {z : Value} (hu : P.underlying T = some (.slice e))
  (hi : (P.info? e).map (fun i => (i.zero, i.size, i.bytes)) = some (some z, sz, bytes)) (hz : z.cells.size = sz) (hp : 0 < sz) (h1 : agg = false → sz = 1) (ha : ∀ w, (isAgg e).run P w = .ok agg w) : VecTy P T e sz bytes agg z := by
 refine ⟨hu, ?_, hz, hp, h1, ha⟩
 cases h : P.info? e with
 | none => rw [h] at hi; cases hi
 | some i =>
  rw [h] at hi
  simp only [Option.map_some, Option.some.injEq, Prod.mk.injEq] at hi
  exact ⟨i, rfl, hi.1, hi.2.1, hi.2.2⟩
variable {P : Program} {E : Env} {st : St} {Q : Exit → Act → World → Prop} {ops : Array Oper} {rest : List Oper} {s : List (Nat × AV)} {own : List Own}
variable {d : Nat} {ty : TypeId} {pos : String} {af : Array Edge} {g : Option (Nat × Bool)}
theorem OO_new {w : World} {o : Own} {own : List Own} (hb : ∀ b, o.has b → w.heap.size ≤ b) : ∀ b, b < w.heap.size → OO E (o :: own) b → OO E own b := by
 rintro b hb1 (h | ⟨o', ho', hb'⟩)
 ·exact .inl h
 ·cases ho' with
  | head => have := hb b hb'; omega
  | tail _ h => exact .inr ⟨o', h, hb'⟩
theorem AV.new {A : AV} {w w' : World} {o : Own} {own : List Own} {v : Value} (hA : A.holds w.heap (OO E own) v) (hb : ∀ b, o.has b → w.heap.size ≤ b) (g : Grow w w') : A.holds w'.heap (OO E (o :: own)) v :=
 A.mono _ _ _ _ _ hA g.size (fun b hb _ => g.block b hb) (OO_new hb)
theorem Rep.new {a : Act} {w w' : World} (r : Rep E st a w) (g : Grow w w') (o : Own) (hb : ∀ b, o.has b → w.heap.size ≤ b) (ho : o.holds w'.heap (OO E (o :: st.own))) :
  Rep E ⟨st.slots, o :: st.own⟩ a w' := by
 have hlt : ∀ b, OO E st.own b → b < w.heap.size := St.O_lt r
 refine ⟨r.size, r.defers, fun i A hi => ?_, fun o' ho' => ?_, ?_, fun o' ho' b hb' => ?_, r.xold, r.keep.grow g⟩
 ·obtain ⟨v, h1, h2⟩ := r.slots i A hi
  exact ⟨v, h1, AV.new h2 hb g⟩
 ·cases ho' with
  | head => exact ho
  | tail _ h => exact o'.mono _ _ _ _ (r.own o' h) g.size (fun b hb _ => g.block b hb) (OO_new hb)
 ·refine List.Pairwise.cons (fun o' ho' b h1 h2 => ?_) r.apart
  have := hb b h1
  exact absurd (hlt _ (.inr ⟨o', ho', h2⟩)) (by omega)
 ·cases ho' with
  | head =>
   have h5 := hb b hb'
   exact ⟨fun hx => absurd (hlt _ (.inl hx)) (by omega), .inl (Nat.le_trans r.keep.size h5)⟩
  | tail _ h => exact r.free o' h b hb'
theorem ent_new {o : Oper} (ho : o.dst = some d) (hg : o.guard = none) (hd : Nat.ble (d + 1) E.n = true) (O : Nat → Own) (v : Nat → Value)
  (hrun : ∀ a w, Rep E st a w → ∃ w', (execOp a.eval o).run P w = .ok (.value (v w.heap.size)) w' ∧ Grow w w' ∧ (∀ b, (O w.heap.size).has b → b = w.heap.size) ∧ (O w.heap.size).holds w'.heap (OO E (O w.heap.size :: st.own)))
  (k : ∀ b, Ent E ⟨(d, aEx (v b)) :: st.slots, O b :: st.own⟩ (wpList P ops Q rest)) : Ent E st (wpList P ops Q (o :: rest)) := by
 intro a w r
 obtain ⟨w', h1, h2, h3, h4⟩ := hrun a w r
 refine wpList_plain hg fun K hK => ?_
 unfold Oper.wp
 rw [h1, Oper.upon_value, ho]
 refine hK _ _ (k w.heap.size _ _ ?_)
 have r2 := r.new h2 _ (fun b hb => Nat.le_of_eq (h3 b hb).symm) h4
 exact r2.put (Nat.le_of_ble_eq_true hd) (A := aEx (v w.heap.size)) rfl
theorem getElem?_madeCells {z : Array Value} {n sz i j : Nat} {u : Value} (hz : z.size = sz) (hi : i < n) (hu : z[j]? = some u) : (madeCells z (n * sz))[i * sz + j]? = some u := by
 have hj : j < sz := by rw [← hz]; exact (Array.getElem?_eq_some_iff.1 hu).1
 have hlt : i * sz + j < n * sz := by
  have : (i + 1) * sz ≤ n * sz := Nat.mul_le_mul_right _ hi
  rw [Nat.add_mul] at this
  omega
 unfold madeCells
 rw [Array.getElem?_map, Array.getElem?_eq_getElem (by simpa using hlt)]
 simp only [Option.map_some, Array.getElem_range]
 have hm : (i * sz + j) % z.size = j := by
  rw [hz, Nat.add_comm, Nat.add_mul_mod_self_right]
  exact Nat.mod_eq_of_lt hj
 rw [hm]
 congr 1
 have := (Array.getElem?_eq_some_iff.1 hu)
 obtain ⟨h1, h2⟩ := this
 simp [h1, h2]
theorem ent_make {α : Type} {T e : TypeId} {sz bytes : Nat} {agg : Bool} {z : Value} {x y : Operand} {n : Int} (enc : α → AV) (x0 : α) (hd : Nat.ble (d + 1) E.n = true) (ht : VecTy P T e sz bytes agg z)
  (hx : opd st.slots x = some (aInt n)) (hy : opd st.slots y = some (aInt n)) (h0 : 0 ≤ n) (hb : n * bytes ≤ 140737488355328) (hn : n ≤ 140737488355328)
  (hz : ∀ h O, (enc x0).holds h O (mkV agg z.cells.toList)) (h1 : ∀ u ∈ z.cells.toList, u.oneCell' = true)
  (k : ∀ b, Ent E ⟨(d, aEx (vec (some b) n.toNat n.toNat)) :: st.slots, oVec (some b) n.toNat e sz agg enc (List.replicate n.toNat x0) :: st.own⟩ (wpList P ops Q rest)) :
  Ent E st (wpList P ops Q (⟨some d, .makeSlice T x y, ty, pos, af, none⟩ :: rest)) := by
 refine ent_new (d := d) rfl rfl hd (fun b => oVec (some b) n.toNat e sz agg enc (List.replicate n.toNat x0)) (fun b => vec (some b) n.toNat n.toNat) (fun a w r => ?_) k
 obtain ⟨i, i1, i2, i3, i4⟩ := ht.info
 have hr := run_make (P := P) w T e i z ht.und i1 i2 .i64 .i64 n n h0 (Int.le_refl _) (by rw [i4, Int.mul_comm]; omega) (by omega)
 refine ⟨_, by simp only [execOp, r.evalEx hx, r.evalEx hy, Sem.run_bind, hr]; rfl, Grow.alloc _ _, (fun b hb => (Option.some.inj hb).symm), ?_⟩
 refine ⟨by simp; omega, ht.one, .inr ⟨w.heap.size, _, rfl, heap_alloc_new w _, by simp, by simp only [maxLen]; omega, by rw [size_madeCells, i3], fun j x hx => ?_⟩⟩
 obtain ⟨hjl, hxe⟩ := List.getElem?_eq_some_iff.1 hx
 have hj : j < n.toNat := by simpa using hjl
 have hx0 : x = x0 := by rw [← hxe]; simp
 subst hx0
 refine ⟨z.cells.toList, by simpa using ht.zs, fun j' u hu => ⟨?_, h1 u (List.mem_of_getElem? hu)⟩, hz _ _⟩
 rw [i3]
 exact getElem?_madeCells ht.zs hj (by simpa using hu)
theorem ent_boxS {T : TypeId} {x : Operand} {As : List AV} (hd : Nat.ble (d + 1) E.n = true) (hx : opd st.slots x = some (aAgg As)) (h1 : ∀ A ∈ As, One A)
  (k : ∀ b, Ent E ⟨(d, aEx (.pointer (some ⟨b, 0, none⟩))) :: st.slots, oBox b T As :: st.own⟩ (wpList P ops Q rest)) :
  Ent E st (wpList P ops Q (⟨some d, .box T x, ty, pos, af, none⟩ :: rest)) := by
 refine ent_new (d := d) rfl rfl hd (fun b => oBox b T As) (fun b => .pointer (some ⟨b, 0, none⟩)) (fun a w r => ?_) k
 obtain ⟨cs, e1, e2, e3⟩ := r.eval hx
 have g := Grow.alloc w (.cells cs.toArray T)
 refine ⟨w.alloc (.cells cs.toArray T), by simp [execOp, Instr.box, newVar, newRow, e1, Value.cells], g, (fun b hb => (Option.some.inj hb).symm), cs, heap_alloc_new w _, e2, fun i A u hA hu => ?_⟩
 have := e3 i A u hA hu
 exact ⟨AV.new (o := oBox w.heap.size T As) this (fun b hb => Nat.le_of_eq (Option.some.inj hb)) g, h1 A (List.mem_of_getElem? hA) _ _ _ this⟩
theorem ok_fieldAddrEx {T : TypeId} {fs : Array Field} {f : Nat} {fld : Field} {sz b off : Nat} {x : Operand} (hs : ∀ w, (underlying T).run P w = .ok (.struct fs) w) (hf : fs[f]? = some fld)
  (hsz : ∀ w, (sizeOf fld.type).run P w = .ok sz w) (hpos : 0 < sz) (hx : opd s x = some (aEx (.pointer (some ⟨b, off, none⟩)))) :
  OpOK P E s own ⟨some d, .fieldAddr T x f, ty, pos, af, g⟩ (aEx (.pointer (some ⟨b, off + fld.offset, none⟩))) :=
 ok_val (fun a w r => ⟨_, by simp [execOp, r.ex hx (by simp [Op.operands, Call.operands]), run_fieldAt hs hf hsz hpos], rfl⟩)
theorem cell_of_block {w : World} {b off : Nat} {cur : Array Value} {T : TypeId} {fz : Nat × Nat} {u : Value} (hb : w.heap[b]? = some (.cells cur T fz)) (hu : cur[off]? = some u) : w.cell? ⟨b, off, none⟩ = some u := by
 simp [World.cell?, hb, hu]
theorem ok_loadB {T T' : TypeId} {k b off : Nat} {x : Operand} {As : List AV} {A : AV} (ht : ∀ w, (isAgg T).run P w = .ok false w) (hk : own[k]? = some (oBox b T' As)) (hA : As[off]? = some A)
  (hx : opd s x = some (aEx (.pointer (some ⟨b, off, none⟩)))) : OpOK P E s own ⟨some d, .load T x, ty, pos, af, g⟩ A :=
 ok_val (fun a w r => by
  obtain ⟨cur, g1, g2, g3⟩ := r.world.own _ (List.mem_of_getElem? hk)
  have hlt : off < cur.length := by rw [g2]; exact (List.getElem?_eq_some_iff.1 hA).1
  have hc : cur[off]? = some cur[off] := List.getElem?_eq_getElem hlt
  refine ⟨cur[off], ?_, (g3 _ _ _ hA hc).1⟩
  have hcell : w.cell? ⟨b, off, none⟩ = some cur[off] := cell_of_block g1 (by simp [hlt])
  simp [execOp, r.ex hx (by simp [Op.operands, Call.operands]), Instr.loadAt, Instr.sureAddr, loadVar, ht, hcell])
theorem run_loadCells_row {w : World} {b off n : Nat} {cur : List Value} {T : TypeId} {fz : Nat × Nat} (hb : w.heap[b]? = some (.cells cur.toArray T fz)) (hl : off + n ≤ cur.length) :
  (loadCells ⟨b, off, none⟩ n).run P w = .ok ((cur.drop off).take n).toArray w := by
 have hlen : ((cur.drop off).take n).length = n := by simp; omega
 have := run_firstCells_some (P := P) w 1 n ⟨b, off, none⟩ n n ((cur.drop off).take n) (by simp; omega) (by
  intro j u hu
  rw [getElem?_extract_list] at hu
  split at hu
  ·rw [addr_add]; exact cell_of_block hb (by simpa using hu)
  ·cases hu)
 simpa [Builtin.firstCells] using this
theorem ok_loadBS {T T' : TypeId} {k b off sz : Nat} {x : Operand} {As : List AV} (ht : TyInfo P T sz true) (hk : own[k]? = some (oBox b T' As)) (hl : Nat.ble (off + sz) As.length = true)
  (hx : opd s x = some (aEx (.pointer (some ⟨b, off, none⟩)))) : OpOK P E s own ⟨some d, .load T x, ty, pos, af, g⟩ (aAgg ((As.drop off).take sz)) :=
 ok_val (fun a w r => by
  have hle := Nat.le_of_ble_eq_true hl
  obtain ⟨cur, g1, g2, g3⟩ := r.world.own _ (List.mem_of_getElem? hk)
  refine ⟨.agg ((cur.drop off).take sz).toArray, ?_, _, rfl, by simp [g2], fun i A c hA hc => ?_⟩
  ·simp [execOp, r.ex hx (by simp [Op.operands, Call.operands]), Instr.loadAt, Instr.sureAddr, loadVar, ht.agg, ht.size, run_loadCells_row (P := P) g1 (show off + sz ≤ cur.length by rw [g2]; exact hle)]
  ·rw [getElem?_extract_list] at hA hc
   split at hA
   ·rename_i hi; rw [if_pos hi] at hc; exact (g3 _ _ _ hA hc).1
   ·cases hA)
theorem ok_indexV {T El : TypeId} {x i : Operand} {sz : Nat} {b m cap : Nat} {n : Int} (hs : SlInfo P T El sz)
  (hx : opd s x = some (aEx (vec (some b) m cap))) (hi : opd s i = some (aInt n)) (h0 : 0 ≤ n) (h1 : n < m) :
  OpOK P E s own ⟨some d, .indexAddr T x i, ty, pos, af, g⟩ (aEx (.pointer (some ⟨b, n.toNat * sz, none⟩))) :=
 ok_val (fun a w r => ⟨_, by
  simp only [execOp, r.ex hx (by simp [Op.operands, Call.operands]), r.ex hi (by simp [Op.operands, Call.operands]), vec, Option.map_some, Sem.run_bind, run_indexAt_sl hs h0 h1]
  simp, rfl⟩)
theorem ok_loadV {α : Type} {T T' : TypeId} {k b cap sz : Nat} {agg : Bool} {x : Operand} {enc : α → AV} {xs : List α} {n : Int} (dflt : α) (ht : TyInfo P T sz agg) (hk : own[k]? = some (oVec (some b) cap T' sz agg enc xs))
  (hx : opd s x = some (aEx (.pointer (some ⟨b, n.toNat * sz, none⟩)))) (h0 : 0 ≤ n) (h1 : n < xs.length) : OpOK P E s own ⟨some d, .load T x, ty, pos, af, g⟩ (enc (ix dflt xs n)) :=
 ok_val (fun a w r => by
  obtain ⟨g0, gone, g1⟩ := r.world.own _ (List.mem_of_getElem? hk)
  rcases g1 with ⟨g1, _⟩ | ⟨b', cur, hb', g2, g3, g4, g5, g6⟩
  ·cases g1
  cases hb'
  obtain ⟨us, k1, k2, k3⟩ := g6 _ _ (ix_get dflt xs n h0 h1)
  refine ⟨mkV agg us, ?_, k3⟩
  have hload : (loadVar T ⟨b, n.toNat * sz, none⟩).run P w = .ok (mkV agg us) w := by
   unfold loadVar
   cases agg with
   | true =>
    have hf := run_firstCells_some (P := P) w 1 sz ⟨b, n.toNat * sz, none⟩ sz sz us (by simp [k1]) (by
     intro j u hu
     rw [addr_add]
     exact cell_of_block g2 (k2 j u hu).1)
    simp only [Builtin.firstCells, Nat.mul_one] at hf
    simp [ht.agg, ht.size, hf, mkV]
   | false =>
    have hs := gone rfl
    subst hs
    match us, k1 with
    | [u], k1 =>
     have hcell : w.cell? ⟨b, n.toNat * 1, none⟩ = some u := cell_of_block g2 (by have := (k2 0 u rfl).1; simpa using this)
     simp only [Nat.mul_one] at hcell
     simp [ht.agg, mkV, hcell]
  simp [execOp, r.ex hx (by simp [Op.operands, Call.operands]), Instr.loadAt, Instr.sureAddr, hload])
end
section
variable {P : Program} {E : Env} {st : St} {Q : Exit → Act → World → Prop} {ops : Array Oper} {rest : List Oper} {s : List (Nat × AV)} {own : List Own}
variable {d : Nat} {ty : TypeId} {pos : String} {af : Array Edge} {g : Option (Nat × Bool)}
structure Touch (o : Own) (w w' : World) : Prop where
 os : w'.os = w.os
 tape : w'.tape = w.tape
 output : w'.output = w.output
 size : w.heap.size ≤ w'.heap.size
 block : ∀ b, b < w.heap.size → ¬ o.has b → w'.heap[b]? = w.heap[b]?
theorem Touch.grow {o : Own} {w w' w'' : World} (g : Grow w w') (h : Touch o w' w'') : Touch o w w'' :=
 ⟨h.os.trans g.os, h.tape.trans g.tape, h.output.trans g.output, Nat.le_trans g.size h.size, fun b hb hn => (h.block b (Nat.lt_of_lt_of_le hb g.size) hn).trans (g.block b hb)⟩
theorem Grow.touch {o : Own} {w w' : World} (g : Grow w w') : Touch o w w' := ⟨g.os, g.tape, g.output, g.size, fun b hb _ => g.block b hb⟩
theorem OO_change {k : Nat} {o o' : Own} {w : World} (hk : own[k]? = some o) (hb' : ∀ b, o'.has b → o.has b ∨ w.heap.size ≤ b) :
  ∀ b, b < w.heap.size → OO E (own.set k o') b → OO E own b := by
 rintro b hb1 (h | ⟨o'', ho, hb⟩)
 ·exact .inl h
 ·rcases List.mem_or_eq_of_mem_set ho with h | h
  ·exact .inr ⟨o'', h, hb⟩
  ·subst h
   rcases hb' b hb with h | h
   ·exact .inr ⟨o, List.mem_of_getElem? hk, h⟩
   ·omega
theorem AV.touch {A : AV} {k : Nat} {o o' : Own} {w w' : World} {v : Value} (hA : A.holds w.heap (OO E own) v) (hk : own[k]? = some o) (t : Touch o w w')
  (hb' : ∀ b, o'.has b → o.has b ∨ w.heap.size ≤ b) : A.holds w'.heap (OO E (own.set k o')) v :=
 A.mono _ _ _ _ _ hA t.size (fun b hb hn => t.block b hb fun h => hn (.inr ⟨o, List.mem_of_getElem? hk, h⟩)) (OO_change hk hb')
theorem Rep.change {a : Act} {w w' : World} {k : Nat} {o o' : Own} (r : Rep E st a w) (hk : st.own[k]? = some o) (t : Touch o w w')
  (hb' : ∀ b, o'.has b → o.has b ∨ w.heap.size ≤ b) (ho' : o'.holds w'.heap (OO E (st.own.set k o'))) : Rep E ⟨st.slots, st.own.set k o'⟩ a w' := by
 have hmem := List.mem_of_getElem? hk
 have hkl : k < st.own.length := (List.getElem?_eq_some_iff.1 hk).1
 have hke : st.own[k] = o := (List.getElem?_eq_some_iff.1 hk).2
 have hap := List.pairwise_iff_getElem.1 r.apart
 have hother : ∀ i (hi : i < st.own.length), i ≠ k → ∀ b, st.own[i].has b → ¬ o.has b := by
  intro i hi hik b h1 h2
  rcases Nat.lt_or_gt_of_ne hik with h | h
  ·exact hap i k hi hkl h b h1 (by rw [hke]; exact h2)
  ·exact hap k i hkl hi h b (by rw [hke]; exact h2) h1
 have hlt := St.O_lt r
 have hnew : ∀ i (hi : i < st.own.length), i ≠ k → ∀ b, st.own[i].has b → ¬ o'.has b := by
  intro i hi hik b h1 h2
  rcases hb' b h2 with h | h
  ·exact hother i hi hik b h1 h
  ·exact absurd (hlt b (.inr ⟨_, List.getElem_mem hi, h1⟩)) (by omega)
 refine ⟨r.size, r.defers, fun i A hi => ?_, fun x hx => ?_, ?_, fun x hx b hb => ?_, r.xold, ?_⟩
 ·obtain ⟨v, h1, h2⟩ := r.slots i A hi
  exact ⟨v, h1, AV.touch h2 hk t hb'⟩
 ·obtain ⟨i, hi, rfl⟩ := List.getElem_of_mem hx
  rw [List.length_set] at hi
  by_cases hik : i = k
  ·subst hik
   rw [List.getElem_set_self]; exact ho'
  ·rw [List.getElem_set_ne (Ne.symm hik)]
   refine (st.own[i]).mono _ _ _ _ (r.own _ (List.getElem_mem hi)) t.size (fun b hb1 hb2 => t.block b hb1 fun h => ?_) (OO_change hk hb')
   rcases hb2 with h2 | h2
   ·exact h2 (.inr ⟨o, hmem, h⟩)
   ·exact hother i hi hik b h2 h
 ·rw [List.pairwise_iff_getElem]
  intro i j hi hj hij b h1 h2
  have hi' : i < st.own.length := by simpa using hi
  have hj' : j < st.own.length := by simpa using hj
  by_cases hik : i = k
  ·subst hik
   rw [List.getElem_set_self] at h1
   rw [List.getElem_set_ne (by omega)] at h2
   exact hnew j hj' (by omega) b h2 h1
  ·rw [List.getElem_set_ne (Ne.symm hik)] at h1
   by_cases hjk : j = k
   ·subst hjk
    rw [List.getElem_set_self] at h2
    exact hnew i hi' hik b h1 h2
   ·rw [List.getElem_set_ne (Ne.symm hjk)] at h2
    exact hap i j hi' hj' hij b h1 h2
 ·rcases List.mem_or_eq_of_mem_set hx with h | h
  ·exact r.free x h b hb
  ·subst h
   rcases hb' b hb with h | h
   ·exact r.free o hmem b h
   ·have := r.keep.size
    exact ⟨fun hxx => absurd (r.xold b hxx) (by omega), .inl (by omega)⟩
 ·refine ⟨t.os.trans r.keep.os, t.tape.trans r.keep.tape, t.output.trans r.keep.output, Nat.le_trans r.keep.size t.size, fun b hb hm => ?_⟩
  rw [t.block b (Nat.lt_of_lt_of_le hb r.keep.size) fun h => ?_, r.keep.block b hb hm]
  rcases (r.free o hmem b h).2 with h | h
  ·omega
  ·exact hm h
def putS (dd : Option Nat) (A : AV) (s : List (Nat × AV)) : List (Nat × AV) := match dd with
 | some d => (d, A) :: s
 | none => s
theorem Rep.putO {a : Act} {w : World} (r : Rep E st a w) {dd : Option Nat} (hd : ∀ d, dd = some d → Nat.ble (d + 1) E.n = true) {A : AV} {v : Value} (hv : A.holds w.heap (OO E st.own) v) :
  Rep E ⟨putS dd A st.slots, st.own⟩ (a.put dd v) w := by
 cases dd with
 | none => exact r
 | some d => exact r.put (Nat.le_of_ble_eq_true (hd d rfl)) hv
theorem ent_write {op : Oper} (hg : op.guard = none) (hd : ∀ d, op.dst = some d → Nat.ble (d + 1) E.n = true) {k : Nat} {o : Own} (hk : st.own[k]? = some o)
  {γ : Type} (O' : γ → Own) (V : γ → Value) (f : γ → Next) (hf : ∀ x, (f x = .value (V x)) ∨ (f x = .skip ∧ V x = undef)) (good : γ → Prop)
  (hrun : ∀ a w, Rep E st a w → ∃ x w', good x ∧ (execOp a.eval op).run P w = .ok (f x) w' ∧ Touch o w w' ∧
   (∀ b, (O' x).has b → o.has b ∨ w.heap.size ≤ b) ∧ (O' x).holds w'.heap (OO E (st.own.set k (O' x))))
  (kk : ∀ x, good x → Ent E ⟨putS op.dst (aEx (V x)) st.slots, st.own.set k (O' x)⟩ (wpList P ops Q rest)) : Ent E st (wpList P ops Q (op :: rest)) := by
 intro a w r
 obtain ⟨x, w', hx, h1, h2, h3, h4⟩ := hrun a w r
 refine wpList_plain hg fun K hK => ?_
 have r2 := r.change hk h2 h3 h4
 have hgo : K (a.put op.dst (V x)) w' := by
  exact hK _ _ (kk x hx _ _ (r2.putO hd (A := aEx (V x)) rfl))
 unfold Oper.wp
 rw [h1]
 rcases hf x with h | ⟨h, hv⟩
 ·rw [h, Oper.upon_value]; exact hgo
 ·rw [h, Oper.upon_skip, ← hv]; exact hgo
def ElemOK (A : AV) (agg : Bool) (sz : Nat) : Prop := ∀ h O v, A.holds h O v → ∃ us : List Value, us.length = sz ∧ v = mkV agg us ∧ v.cells.toList = us ∧ ∀ u ∈ us, u.oneCell' = true
theorem elem_one {A : AV} (h : One A) : ElemOK A false 1 := fun hp O v hv => by
 have h1 := h hp O v hv
 refine ⟨[v], rfl, rfl, ?_, fun u hu => by simp at hu; subst hu; exact h1⟩
 cases v <;> first | rfl | cases h1
theorem run_storeCells_list {w : World} {b off : Nat} {cur : Array Value} {T : TypeId} {us : List Value} (hb : w.heap[b]? = some (.cells cur T (0, 0))) (hl : off + us.length ≤ cur.size) (h1 : ∀ u ∈ us, u.oneCell' = true) :
  (storeCells ⟨b, off, none⟩ us).run P w = .ok () (w.setRow b (cur.toList.take off ++ us ++ cur.toList.drop (off + us.length)).toArray) := by
 have := run_storeCells_at P b off T us 0 cur w hb (by simpa using hl) h1
 simpa using this
theorem touch_setRow {w : World} {o : Own} {b : Nat} {cs : Array Value} (h : o.has b) : Touch o w (w.setRow b cs) :=
 ⟨rfl, rfl, rfl, by simp, fun b' _ hn => setRow_other w b b' cs fun e => hn (by rw [e]; exact h)⟩
theorem ent_storeV {α : Type} {T T' : TypeId} {k b cap sz : Nat} {agg : Bool} {x y : Operand} {enc : α → AV} {xs : List α} {z : α} {n : Int} (ht : TyInfo P T sz agg)
  (hk : st.own[k]? = some (oVec (some b) cap T' sz agg enc xs)) (hx : opd st.slots x = some (aEx (.pointer (some ⟨b, n.toNat * sz, none⟩)))) (hy : opd st.slots y = some (enc z)) (he : ElemOK (enc z) agg sz)
  (h0 : 0 ≤ n) (h1 : n < xs.length) (kk : Ent E ⟨st.slots, st.own.set k (oVec (some b) cap T' sz agg enc (xs.set n.toNat z))⟩ (wpList P ops Q rest)) :
  Ent E st (wpList P ops Q (⟨none, .store T x y, ty, pos, af, none⟩ :: rest)) := by
 refine ent_write (γ := Unit) rfl (fun _ h => by cases h) hk (fun _ => oVec (some b) cap T' sz agg enc (xs.set n.toNat z)) (fun _ => undef) (fun _ => .skip) (fun _ => .inr ⟨rfl, rfl⟩) (fun _ => True)
  (fun a w r => ?_) (fun _ _ => kk)
 obtain ⟨g0, gone, g1⟩ := r.own _ (List.mem_of_getElem? hk)
 rcases g1 with ⟨g1, _⟩ | ⟨b', cur, hb', g2, g3, g4, g5, g6⟩
 ·cases g1
 cases hb'
 have hv := r.eval hy
 obtain ⟨us, u1, u2, u3, u4⟩ := he _ _ _ hv
 have hfit : n.toNat * sz + us.length ≤ cur.size := by
  rw [g5, u1]
  have : (n.toNat + 1) * sz ≤ cap * sz := Nat.mul_le_mul_right _ (by omega)
  rw [Nat.add_mul] at this; omega
 have hcs : (a.eval y).cells.size = sz := by rw [← Array.length_toList, u3, u1]
 have hrun := run_storeCells_list (P := P) g2 hfit u4
 refine ⟨(), w.setRow b (cur.toList.take (n.toNat * sz) ++ us ++ cur.toList.drop (n.toNat * sz + us.length)).toArray, trivial, ?_, touch_setRow (b := b) rfl, fun _ h => .inl h, ?_⟩
 ·simp [execOp, r.evalEx hx, Instr.storeAt, Instr.sureAddr, storeVar, ht.size, hcs, u3, hrun]
 ·have tch : Touch (oVec (some b) cap T' sz agg enc xs) w (w.setRow b (cur.toList.take (n.toNat * sz) ++ us ++ cur.toList.drop (n.toNat * sz + us.length)).toArray) := touch_setRow (b := b) rfl
  refine ⟨by simpa using g0, gone, .inr ⟨b, _, rfl, setRow_heap w b cur _ T' _ g2, by simpa using g3, g4, ?_, fun i x hx => ?_⟩⟩
  ·simp only [List.size_toArray, List.length_append, List.length_take, List.length_drop, Array.length_toList]
   omega
  ·have hil : i < xs.length := by have := (List.getElem?_eq_some_iff.1 hx).1; simpa using this
   by_cases hin : i = n.toNat
   ·subst hin
    rw [List.getElem?_set_self hil] at hx
    cases hx
    refine ⟨us, u1, fun j u hu => ⟨?_, u4 u (List.mem_of_getElem? hu)⟩, ?_⟩
    ·have hj : j < us.length := (List.getElem?_eq_some_iff.1 hu).1
     rw [List.getElem?_toArray, List.append_assoc, List.getElem?_append_right (by simp; omega)]
     rw [List.getElem?_append_left (by simp; omega)]
     simp only [List.length_take, Array.length_toList]
     rw [show n.toNat * sz + j - min (n.toNat * sz) cur.size = j by omega]
     exact hu
    ·rw [← u2]; exact AV.touch hv hk tch (fun _ h => .inl h)
   ·rw [List.getElem?_set_ne (Ne.symm hin)] at hx
    obtain ⟨us', k1, k2, k3⟩ := g6 i x hx
    refine ⟨us', k1, fun j u hu => ⟨?_, (k2 j u hu).2⟩, AV.touch k3 hk tch (fun _ h => .inl h)⟩
    have hj : j < sz := by rw [← k1]; exact (List.getElem?_eq_some_iff.1 hu).1
    have hc := (k2 j u hu).1
    have hcl : i * sz + j < cur.size := (Array.getElem?_eq_some_iff.1 hc).1
    rw [List.getElem?_toArray]
    rcases Nat.lt_or_gt_of_ne hin with h | h
    ·have hm : (i + 1) * sz ≤ n.toNat * sz := Nat.mul_le_mul_right _ h
     rw [Nat.add_mul] at hm
     rw [List.append_assoc, List.getElem?_append_left (by simp; omega), List.getElem?_take, if_pos (by omega)]
     simpa using hc
    ·have hm : (n.toNat + 1) * sz ≤ i * sz := Nat.mul_le_mul_right _ h
     rw [Nat.add_mul] at hm
     rw [List.getElem?_append_right (by simp; omega), List.getElem?_drop]
     simp only [List.length_append, List.length_take, Array.length_toList]
     rw [show n.toNat * sz + us.length + (i * sz + j - (min (n.toNat * sz) cur.size + us.length)) = i * sz + j by omega]
     simpa using hc
theorem ent_storeB {T T' : TypeId} {k b off : Nat} {x y : Operand} {As : List AV} {A : AV} (ht : ∀ w, (sizeOf T).run P w = .ok 1 w)
  (hk : st.own[k]? = some (oBox b T' As)) (hx : opd st.slots x = some (aEx (.pointer (some ⟨b, off, none⟩)))) (hy : opd st.slots y = some A) (h1 : One A)
  (hl : Nat.ble (off + 1) As.length = true) (kk : Ent E ⟨st.slots, st.own.set k (oBox b T' (As.set off A))⟩ (wpList P ops Q rest)) :
  Ent E st (wpList P ops Q (⟨none, .store T x y, ty, pos, af, none⟩ :: rest)) := by
 refine ent_write (γ := Unit) rfl (fun _ h => by cases h) hk (fun _ => oBox b T' (As.set off A)) (fun _ => undef) (fun _ => .skip) (fun _ => .inr ⟨rfl, rfl⟩) (fun _ => True)
  (fun a w r => ?_) (fun _ _ => kk)
 obtain ⟨cur, g1, g2, g3⟩ := r.own _ (List.mem_of_getElem? hk)
 have hv := r.eval hy
 have ho := h1 _ _ _ hv
 obtain ⟨us, u1, u2, u3, u4⟩ := elem_one h1 _ _ _ hv
 have hlt : off < As.length := Nat.le_of_ble_eq_true hl
 have hcs : (a.eval y).cells.size = 1 := by rw [← Array.length_toList, u3, u1]
 have hrun := run_storeCells_list (P := P) (off := off) g1 (by simp [u1]; omega) u4
 refine ⟨(), w.setRow b (cur.toArray.toList.take off ++ us ++ cur.toArray.toList.drop (off + us.length)).toArray, trivial, ?_, touch_setRow (b := b) rfl, fun _ h => .inl h, ?_⟩
 ·simp [execOp, r.evalEx hx, Instr.storeAt, Instr.sureAddr, storeVar, ht, hcs, u3, hrun]
 ·have tch : Touch (oBox b T' As) w (w.setRow b (cur.toArray.toList.take off ++ us ++ cur.toArray.toList.drop (off + us.length)).toArray) := touch_setRow (b := b) rfl
  refine ⟨cur.set off (a.eval y), ?_, by simp [g2], fun i B u hB hu => ?_⟩
  ·rw [setRow_heap w b cur.toArray _ T' _ g1]
   have hus : us = [a.eval y] := by
    match us, u1, u2 with
    | [u], _, u2 => simp [mkV] at u2; rw [u2]
   rw [hus]
   simp only [List.length_cons, List.length_nil, Nat.zero_add, List.append_assoc, List.cons_append, List.nil_append]
   rw [List.set_eq_take_append_cons_drop, if_pos (by omega)]
  ·by_cases hi : i = off
   ·subst hi
    rw [List.getElem?_set_self (by omega)] at hB hu
    cases hB; cases hu
    exact ⟨AV.touch hv hk tch (fun _ h => .inl h), ho⟩
   ·rw [List.getElem?_set_ne (Ne.symm hi)] at hB hu
    exact ⟨AV.touch (g3 i B u hB hu).1 hk tch (fun _ h => .inl h), (g3 i B u hB hu).2⟩
end
section
variable {P : Program} {E : Env} {st : St} {Q : Exit → Act → World → Prop} {ops : Array Oper} {rest : List Oper} {s : List (Nat × AV)} {own : List Own}
variable {d : Nat} {ty : TypeId} {pos : String} {af : Array Edge} {g : Option (Nat × Bool)}
structure Src {α : Type} (w : World) (O : Nat → Prop) (sz : Nat) (agg : Bool) (enc : α → AV) (ys : List α) (ad : Addr) (news : List Value) : Prop where
 len : news.length = ys.length * sz
 cells : ∀ j u, news[j]? = some u → w.cell? (ad.add j) = some u
 one : ∀ u ∈ news, u.oneCell' = true
 elems : ∀ i y, ys[i]? = some y → (enc y).holds w.heap O (mkV agg ((news.drop (i * sz)).take sz))
theorem idx_mul {i n sz j : Nat} (hi : i < n) (hj : j < sz) : i * sz + j < n * sz := by
 have : (i + 1) * sz ≤ n * sz := Nat.mul_le_mul_right _ hi
 rw [Nat.add_mul] at this
 omega
theorem append_core {α : Type} {T e : TypeId} {sz bytes : Nat} {agg : Bool} {z : Value} {enc : α → AV} {xs ys : List α} {r : Option Nat} {cap : Nat} {w : World} {k : Nat} {ad : Addr} {c : Nat} {news : List Value}
  (ht : VecTy P T e sz bytes agg z) (hk : own[k]? = some (oVec r cap e sz agg enc xs)) (hown : (oVec r cap e sz agg enc xs).holds w.heap (OO E own)) (hs : Src w (OO E own) sz agg enc ys ad news)
  (hn : (xs.length + ys.length) * bytes ≤ 140737488355328) (hn2 : xs.length + ys.length ≤ 140737488355328) (h0 : 0 < ys.length) (tyy : TypeId) :
  ∃ b' cap' w', (Builtin.append_ #[T, T] tyy #[vec r xs.length cap, .slice (some ad) ys.length c]).run P w = .ok (vec (some b') (xs.length + ys.length) cap') w' ∧
   Touch (oVec r cap e sz agg enc xs) w w' ∧ (r = some b' ∨ w.heap.size ≤ b') ∧
   (oVec (some b') cap' e sz agg enc (xs ++ ys)).holds w'.heap (OO E (own.set k (oVec (some b') cap' e sz agg enc (xs ++ ys)))) := by
 obtain ⟨ii, i1, i2, i3, i4⟩ := ht.info
 obtain ⟨q0, q1, q2⟩ := hown
 have hlnews : news.length = ys.length * sz := hs.len
 have fin : ∀ (b' cap' : Nat) (w' : World) (cur' : Array Value), Touch (oVec r cap e sz agg enc xs) w w' → (r = some b' ∨ w.heap.size ≤ b') → w'.heap[b']? = some (.cells cur' e (0, 0)) →
   xs.length + ys.length ≤ cap' → cap' ≤ maxLen → cur'.size = cap' * sz →
   (∀ i x, xs[i]? = some x → ∃ us : List Value, us.length = sz ∧ (∀ j u, us[j]? = some u → cur'[i * sz + j]? = some u ∧ u.oneCell' = true) ∧ (enc x).holds w.heap (OO E own) (mkV agg us)) →
   (∀ j u, news[j]? = some u → cur'[xs.length * sz + j]? = some u) →
   (oVec (some b') cap' e sz agg enc (xs ++ ys)).holds w'.heap (OO E (own.set k (oVec (some b') cap' e sz agg enc (xs ++ ys)))) := by
  intro b' cap' w' cur' tch hb hheap hcap hmax hsize hold hnew
  have hbb : ∀ b, (oVec (some b') cap' e sz agg enc (xs ++ ys)).has b → (oVec r cap e sz agg enc xs).has b ∨ w.heap.size ≤ b := by
   intro b h
   cases h
   exact hb
  refine ⟨by simp; omega, ht.one, .inr ⟨b', cur', rfl, hheap, by simpa using hcap, hmax, hsize, fun i x hx => ?_⟩⟩
  rw [List.getElem?_append] at hx
  split at hx
  ·obtain ⟨us, u1, u2, u3⟩ := hold i x hx
   exact ⟨us, u1, u2, AV.touch u3 hk tch hbb⟩
  ·rename_i hi
   have hel := hs.elems _ _ hx
   have hil : i - xs.length < ys.length := (List.getElem?_eq_some_iff.1 hx).1
   refine ⟨(news.drop ((i - xs.length) * sz)).take sz, ?_, fun j u hu => ?_, AV.touch hel hk tch hbb⟩
   ·rw [List.length_take, List.length_drop, hlnews]
    have : (i - xs.length + 1) * sz ≤ ys.length * sz := Nat.mul_le_mul_right _ hil
    rw [Nat.add_mul] at this
    omega
   ·rw [getElem?_extract_list] at hu
    split at hu
    ·have h1 := hnew _ _ hu
     refine ⟨?_, hs.one u (List.mem_of_getElem? hu)⟩
     have e1 : i * sz + j = xs.length * sz + ((i - xs.length) * sz + j) := by
      have : i = xs.length + (i - xs.length) := by omega
      rw [this, Nat.add_mul]; simp; omega
     rw [e1]; exact h1
    ·cases hu
 rcases q2 with ⟨rfl, rfl, rfl⟩ | ⟨b, cur, rfl, g2, g3, g4, g5, g6⟩
 ·-- nil
  have hr := run_append_nil (P := P) w T tyy e ii z ht.und i1 i2 ad ys.length c news (by rw [i3]; exact hlnews) hs.cells h0 (by simp at hn2; omega)
   (by rw [i4]; have := hn; simp at this; omega)
  have hge := grownCap_ge w ys.length 0 e
  have hle := grownCap_le_maxLen w ys.length 0 e (by simp only [maxLen]; simp at hn2; omega)
  refine ⟨w.heap.size, grownCap w ys.length 0 e, w.drew.alloc (.cells (news.toArray ++ Builtin.zeroCells z.cells (grownCap w ys.length 0 e - ys.length)) e), by simpa [vec] using hr, ((Grow.drew w).trans (Grow.alloc w.drew _)).touch, .inr (Nat.le_refl _), ?_⟩
  refine fin _ _ _ _ ((Grow.drew w).trans (Grow.alloc w.drew _)).touch (.inr (Nat.le_refl _)) (heap_alloc_new w.drew _) (by simpa using hge) hle ?_ (fun i x hx => by simp at hx) (fun j u hu => ?_)
  ·rw [Array.size_append, size_zeroCells, ht.zs]
   simp only [List.size_toArray, hlnews]
   rw [← Nat.add_mul]; congr 1; omega
  ·have hj : j < news.length := (List.getElem?_eq_some_iff.1 hu).1
   simp only [List.length_nil, Nat.zero_mul, Nat.zero_add]
   rw [Array.getElem?_append_left (by simpa using hj)]
   simpa using hu
 ·by_cases hroom : xs.length + ys.length ≤ cap
  ·have hfit : xs.length * ii.size + news.length ≤ cur.size := by rw [i3, hlnews, g5, ← Nat.add_mul]; exact Nat.mul_le_mul_right _ hroom
   have hr := run_append_room (P := P) w T tyy e ii ht.und i1 b xs.length cap cur g2 ad ys.length c news (by rw [i3]; exact hlnews) hs.cells hs.one hroom hfit
   rw [i3] at hr hfit
   have tch : Touch (oVec (some b) cap e sz agg enc xs) w (w.setRow b (cur.toList.take (xs.length * sz) ++ news ++ cur.toList.drop (xs.length * sz + news.length)).toArray) := touch_setRow (b := b) rfl
   refine ⟨b, cap, _, by simpa [vec] using hr, tch, .inl rfl, ?_⟩
   refine fin _ _ _ _ tch (.inl rfl) (setRow_heap w b cur _ e _ g2) hroom g4 ?_ (fun i x hx => ?_) (fun j u hu => ?_)
   ·simp only [List.size_toArray, List.length_append, List.length_take, List.length_drop, Array.length_toList]
    omega
   ·obtain ⟨us, u1, u2, u3⟩ := g6 i x hx
    refine ⟨us, u1, fun j u hu => ⟨?_, (u2 j u hu).2⟩, u3⟩
    have hc := (u2 j u hu).1
    have hil : i < xs.length := (List.getElem?_eq_some_iff.1 hx).1
    have hj : j < sz := by rw [← u1]; exact (List.getElem?_eq_some_iff.1 hu).1
    have hlt := idx_mul hil hj
    rw [List.getElem?_toArray, List.append_assoc, List.getElem?_append_left (by simp; omega), List.getElem?_take, if_pos hlt]
    simpa using hc
   ·have hj : j < news.length := (List.getElem?_eq_some_iff.1 hu).1
    rw [List.getElem?_toArray, List.append_assoc, List.getElem?_append_right (by simp; omega), List.getElem?_append_left (by simp; omega)]
    simp only [List.length_take, Array.length_toList]
    rw [show xs.length * sz + j - min (xs.length * sz) cur.size = j by omega]
    exact hu
  ·have hholds : ∀ j u, (cur.toList.take (xs.length * sz))[j]? = some u → w.cell? ((⟨b, 0, none⟩ : Addr).add j) = some u := by
    intro j u hu
    rw [List.getElem?_take] at hu
    split at hu
    ·rw [addr_add, Nat.zero_add]; exact cell_of_block g2 (by simpa using hu)
    ·cases hu
   have hlo : (cur.toList.take (xs.length * sz)).length = xs.length * ii.size := by
    have hm : xs.length * sz ≤ cap * sz := Nat.mul_le_mul_right _ g3
    have hcl : cur.toList.length = cap * sz := by rw [Array.length_toList]; exact g5
    rw [i3, List.length_take, hcl]
    exact Nat.min_eq_left hm
   have hr := run_append_grow (P := P) w T tyy e ii z ht.und i1 i2 ⟨b, 0, none⟩ xs.length cap _ hlo hholds ad ys.length c news (by rw [i3]; exact hlnews) hs.cells (by omega) (by omega) (by rw [i4]; exact growslice_fits (by omega) hn)
   have hge := grownCap_ge w (xs.length + ys.length) cap e
   have hle := grownCap_le_maxLen w (xs.length + ys.length) cap e (by simp only [maxLen]; omega)
   rw [i3] at hlo
   refine ⟨w.heap.size, grownCap w (xs.length + ys.length) cap e, w.drew.alloc (.cells ((cur.toList.take (xs.length * sz)).toArray ++ news.toArray ++ Builtin.zeroCells z.cells (grownCap w (xs.length + ys.length) cap e - (xs.length + ys.length))) e), hr, ((Grow.drew w).trans (Grow.alloc w.drew _)).touch, .inr (Nat.le_refl _), ?_⟩
   refine fin _ _ _ _ ((Grow.drew w).trans (Grow.alloc w.drew _)).touch (.inr (Nat.le_refl _)) (heap_alloc_new w.drew _) hge hle ?_ (fun i x hx => ?_) (fun j u hu => ?_)
   ·rw [Array.size_append, Array.size_append, size_zeroCells, ht.zs]
    simp only [List.size_toArray, hlnews, hlo]
    rw [← Nat.add_mul, ← Nat.add_mul]; congr 1; omega
   ·obtain ⟨us, u1, u2, u3⟩ := g6 i x hx
    refine ⟨us, u1, fun j u hu => ⟨?_, (u2 j u hu).2⟩, u3⟩
    have hc := (u2 j u hu).1
    have hil : i < xs.length := (List.getElem?_eq_some_iff.1 hx).1
    have hj : j < sz := by rw [← u1]; exact (List.getElem?_eq_some_iff.1 hu).1
    have hlt := idx_mul hil hj
    rw [Array.append_assoc, Array.getElem?_append_left (by simp only [List.size_toArray]; rw [hlo]; exact hlt), List.getElem?_toArray, List.getElem?_take, if_pos hlt]
    simpa using hc
   ·have hj : j < news.length := (List.getElem?_eq_some_iff.1 hu).1
    rw [Array.append_assoc, Array.getElem?_append_right (by simp only [List.size_toArray]; rw [hlo]; omega)]
    simp only [List.size_toArray]
    rw [hlo, Nat.add_sub_cancel_left, Array.getElem?_append_left (by simpa using hj), List.getElem?_toArray]
    exact hu
theorem fill_one {cells cs : Array Value} (v : Value) (hv : v.cells = cs) (h : cells.size = cs.size) :
  Instr.fill (fun i => some (i * cs.size, cs.size)) cells [(0, v)] = some cs := by
 have key : ∀ (l : List (Value × Nat)) (acc : Array Value), l.foldl (fun (a : Array Value) (p : Value × Nat) => a.setIfInBounds (0 + p.2) p.1) acc = l.foldl (fun a p => a.setIfInBounds p.2 p.1) acc := by
  intro l acc; congr 1; funext a p; rw [Nat.zero_add]
 have key2 : ∀ (l : List Value) (n : Nat) (acc : Array Value), acc.size = n + l.length → (∀ i, i < n → acc[i]? = cs[i]?) → (∀ i, l[i]? = cs[n + i]?) →
   (l.zipIdx n).foldl (fun (a : Array Value) (p : Value × Nat) => a.setIfInBounds p.2 p.1) acc = cs := by
  intro l
  induction l with
  | nil =>
   intro n acc h1 h2 h3
   simp only [List.zipIdx_nil, List.foldl_nil]
   apply Array.ext_getElem?
   intro i
   rcases Nat.lt_or_ge i n with hi | hi
   ·exact h2 i hi
   ·rw [Array.getElem?_eq_none (by simp at h1; omega)]
    have := h3 (i - n)
    rw [show n + (i - n) = i by omega] at this
    simpa using this
  | cons x l ih =>
   intro n acc h1 h2 h3
   rw [List.zipIdx_cons, List.foldl_cons]
   simp only [List.length_cons] at h1
   refine ih (n + 1) _ (by simp; omega) (fun i hi => ?_) (fun i => ?_)
   ·by_cases hin : i = n
    ·subst hin
     rw [Array.getElem?_setIfInBounds_self, if_pos (by omega)]
     have := h3 0
     simpa using this
    ·rw [Array.getElem?_setIfInBounds_ne (Ne.symm hin)]
     exact h2 i (by omega)
   ·have := h3 (i + 1)
    rw [show n + 1 + i = n + (i + 1) by omega]
    simpa using this
 unfold Instr.fill
 simp only [Nat.zero_mul, hv]
 rw [if_neg (by simp [h])]
 unfold Instr.fill
 congr 1
 rw [← Array.foldl_toList, Array.toList_zipIdx]
 exact (key _ _).trans (key2 cs.toList 0 cells (by simp [h]) (fun i hi => by omega) (fun i => by simp))
theorem ent_append1 {α : Type} {T e : TypeId} {sz bytes : Nat} {agg : Bool} {z : Value} {enc : α → AV} {xs : List α} {y : α} {r : Option Nat} {cap k t1 : Nat} {x yv : Operand} {ty1 : TypeId} {pos1 : String} {af1 : Array Edge}
  (hd : Nat.ble (d + 1) E.n = true) (hd1 : Nat.ble (t1 + 1) E.n = true) (ht : VecTy P T e sz bytes agg z)
  (hk : st.own[k]? = some (oVec r cap e sz agg enc xs)) (hx : opd ((t1, aAny) :: st.slots) x = some (aEx (vec r xs.length cap))) (hy : opd st.slots yv = some (enc y)) (he : ElemOK (enc y) agg sz)
  (hn : (xs.length + 1) * bytes ≤ 140737488355328) (hn2 : xs.length + 1 ≤ 140737488355328) (hsz : sz ≤ 16777216)
  (kk : ∀ b' cap', Ent E ⟨(d, aEx (vec (some b') (xs.length + 1) cap')) :: (t1, aAny) :: st.slots, st.own.set k (oVec (some b') cap' e sz agg enc (xs ++ [y]))⟩ (wpList P ops Q rest)) :
  Ent E st (wpList P ops Q (⟨some t1, .buildSlice T 1 #[(0, yv)], ty1, pos1, af1, none⟩ :: ⟨some d, .call { callee := .builtin .append, args := #[x, .tmp t1], argTypes := #[T, T] }, ty, pos, af, none⟩ :: rest)) := by
 intro a w rp
 obtain ⟨ii, i1, i2, i3, i4⟩ := ht.info
 have hv := rp.eval hy
 obtain ⟨us, u1, u2, u3, u4⟩ := he _ _ _ hv
 have hcs : (a.eval yv).cells = us.toArray := by rw [← u3]
 have hb1 : (execOp a.eval ⟨some t1, .buildSlice T 1 #[(0, yv)], ty1, pos1, af1, none⟩).run P w = .ok (.value (.slice (some ⟨w.heap.size, 0, none⟩) 1 1)) (w.alloc (.cells us.toArray e)) := by
  have hfill := fill_one (cells := (Array.range (1 * sz)).map (z.cells[· % z.cells.size]!)) (a.eval yv) hcs (by simp [u1])
  have hsize : us.toArray.size = sz := by simp [u1]
  rw [hsize] at hfill
  have hp := ht.pos
  have hz0 : ¬ (1 * sz = 0) := by omega
  have hbig : ¬ (16777216 < 1 * sz) := by omega
  have hz0' : ¬ (sz = 0) := by omega
  have hbig' : ¬ (16777216 < sz) := by omega
  simp only [Nat.one_mul] at hfill
  simp [execOp, Instr.buildSlice, run_underlying ht.und, ht.sl.size, zeroValue, typeInfo, i1, i2, newRow, hz0', hbig', hfill]
 refine wpList_plain rfl fun K hK => ?_
 unfold Oper.wp
 rw [hb1, Oper.upon_value]
 refine hK _ _ ?_
 have gr := Grow.alloc w (.cells us.toArray e)
 have rp1 := (rp.grow gr).put (Nat.le_of_ble_eq_true hd1) (A := aAny) (v := .slice (some ⟨w.heap.size, 0, none⟩) 1 1) trivial
 have hval : (a.put (some t1) (.slice (some ⟨w.heap.size, 0, none⟩) 1 1)).eval (.tmp t1) = .slice (some ⟨w.heap.size, 0, none⟩) 1 1 := by
  have hlt : t1 < a.tmps.size := by rw [rp.size]; exact Nat.le_of_ble_eq_true hd1
  simp [Act.eval, Act.put, hlt]
 have hxe : (a.put (some t1) (.slice (some ⟨w.heap.size, 0, none⟩) 1 1)).eval x = vec r xs.length cap := rp1.evalEx hx
 have hsrc : Src (w.alloc (.cells us.toArray e)) (OO E st.own) sz agg enc [y] ⟨w.heap.size, 0, none⟩ us := by
  refine ⟨by simp [u1], fun j u hu => ?_, u4, fun i y' hy' => ?_⟩
  ·rw [addr_add, Nat.zero_add]
   exact cell_of_block (heap_alloc_new w _) (by simpa using hu)
  ·match i, hy' with
   | 0, hy' =>
    simp only [List.getElem?_cons_zero, Option.some.injEq] at hy'
    subst hy'
    have : us.take sz = us := List.take_of_length_le (by omega)
    simp only [Nat.zero_mul, List.drop_zero, this, ← u2]
    exact (enc y).mono _ _ _ _ _ hv gr.size (fun b hb _ => gr.block b hb) (fun _ _ h => h)
   | i + 1, hy' => simp at hy'
 obtain ⟨b', cap', w', h1, h2, h3, h4⟩ := append_core (P := P) (E := E) (own := st.own) (c := 1) ht hk (rp1.own _ (List.mem_of_getElem? hk)) hsrc (by simpa using hn) (by simpa using hn2) (by simp) ty
 simp only [List.length_cons, List.length_nil, Nat.zero_add] at h1
 refine wpList_plain rfl fun K' hK' => ?_
 unfold Oper.wp
 have hrun : (execOp (a.put (some t1) (.slice (some ⟨w.heap.size, 0, none⟩) 1 1)).eval ⟨some d, .call { callee := .builtin .append, args := #[x, .tmp t1], argTypes := #[T, T] }, ty, pos, af, none⟩).run P (w.alloc (.cells us.toArray e)) =
   .ok (.value (vec (some b') (xs.length + 1) cap')) w' := by
  simp only [execOp, resolve, invoke, builtin, Sem.run_bind, Sem.run_pure, Result.andThen_ok, List.map_toArray, List.map_cons, List.map_nil, hxe, hval, h1]
 rw [hrun, Oper.upon_value]
 refine hK' _ _ (kk b' cap' _ _ ?_)
 have r3 := rp1.change (o' := oVec (some b') cap' e sz agg enc (xs ++ [y])) hk h2 (fun b hb => by cases hb; exact h3) h4
 exact r3.put (Nat.le_of_ble_eq_true hd) (A := aEx (vec (some b') (xs.length + 1) cap')) rfl
end
section
variable {P : Program} {E : Env} {st : St} {Q : Exit → Act → World → Prop} {ops : Array Oper} {rest : List Oper} {s : List (Nat × AV)} {own : List Own}
variable {d : Nat} {ty : TypeId} {pos : String} {af : Array Edge} {g : Option (Nat × Bool)}
def AllOne : List AV → Prop
 | [] => True
 | A :: r => One A ∧ AllOne r
theorem AllOne.mem : ∀ {As : List AV}, AllOne As → ∀ A ∈ As, One A
 | _ :: _, h, _, .head _ => h.1
 | _ :: _, h, A, .tail _ hm => AllOne.mem h.2 A hm
def FillOK (s : List (Nat × AV)) (pl : List (Nat × Nat)) : List (Nat × Operand) → List AV → List AV → Prop
 | [], As, Bs => As = Bs
 | (i, x) :: r, As, Bs => ∃ off sz, pl[i]? = some (off, sz) ∧
   ((sz = 1 ∧ ∃ A, opd s x = some A ∧ One A ∧ Nat.ble (off + 1) As.length = true ∧ FillOK s pl r (As.set off A) Bs) ∨
    (∃ Cs, opd s x = some (aAgg Cs) ∧ Cs.length = sz ∧ Nat.ble (off + sz) As.length = true ∧ FillOK s pl r (As.take off ++ Cs ++ As.drop (off + sz)) Bs))
structure StructTy (P : Program) (T : TypeId) (fs : Array Field) (pl : List (Nat × Nat)) (z : List Value) : Prop where
 und : ∀ w, (underlying T).run P w = .ok (.struct fs) w
 places : ∀ w, (fs.mapM fun f => Prod.mk f.offset <$> sizeOf f.type).run P w = .ok pl.toArray w
 zero : ∀ w, (zeroValue T).run P w = .ok (.agg z.toArray) w
def CellsHold (h : Heap) (O : Nat → Prop) (As : List AV) (cs : List Value) : Prop := cs.length = As.length ∧ ∀ (i : Nat) (A : AV) (c : Value), As[i]? = some A → cs[i]? = some c → A.holds h O c
theorem cells_one {v : Value} (h : v.oneCell' = true) : v.cells = #[v] := by cases v <;> first | rfl | cases h
theorem fold_place (vs : List Value) : ∀ (n off : Nat) (acc : List Value), off + n + vs.length ≤ acc.length →
  (vs.zipIdx n).foldl (fun (a : Array Value) (p : Value × Nat) => a.setIfInBounds (off + p.2) p.1) acc.toArray = (acc.take (off + n) ++ vs ++ acc.drop (off + n + vs.length)).toArray := by
 induction vs with
 | nil => intro n off acc h; simp
 | cons v vs ih =>
  intro n off acc h
  simp only [List.length_cons] at h
  rw [List.zipIdx_cons, List.foldl_cons]
  simp only [List.setIfInBounds_toArray]
  have hl : (acc.set (off + n) v).length = acc.length := by simp
  have := ih (n + 1) off (acc.set (off + n) v) (by rw [hl]; omega)
  rw [this]
  congr 1
  rw [show off + (n + 1) = off + n + 1 by omega]
  rw [List.take_set, List.drop_set]
  rw [if_pos (by omega)]
  have h1 : (acc.take (off + n + 1)).set (off + n) v = acc.take (off + n) ++ [v] := by
   rw [List.set_eq_take_append_cons_drop]
   simp only [List.length_take]
   rw [if_pos (by omega), List.take_take, List.drop_take]
   simp
  rw [h1]
  simp only [List.length_cons, List.append_assoc, List.cons_append, List.nil_append]
  rw [show off + n + 1 + vs.length = off + n + (vs.length + 1) by omega]
theorem fill_ok {h : Heap} {O : Nat → Prop} {a : Act} {pl : List (Nat × Nat)} : ∀ (parts : List (Nat × Operand)) (As Bs : List AV) (cs : List Value), FillOK s pl parts As Bs →
  (∀ x ∈ parts.map (·.2), ∀ B, opd s x = some B → B.holds h O (a.eval x)) → CellsHold h O As cs →
  ∃ cs', Instr.fill (fun i => pl.toArray[i]?) cs.toArray (parts.map fun p => (p.1, a.eval p.2)) = some cs'.toArray ∧ CellsHold h O Bs cs'
 | [], As, Bs, cs, hf, _, hc => by
  have hf' : As = Bs := hf
  subst hf'
  exact ⟨cs, rfl, hc⟩
 | (i, x) :: r, As, Bs, cs, hf, hx, hc => by
  obtain ⟨off, sz, hp, hcase⟩ := hf
  have hp' : pl.toArray[i]? = some (off, sz) := by simpa using hp
  rcases hcase with ⟨rfl, A, h1, h2, h3, h4⟩ | ⟨Cs, h1, h2, h3, h4⟩
  ·have hv := hx x (by simp) A h1
   have hone := h2 _ _ _ hv
   have hle : off + 1 ≤ As.length := Nat.le_of_ble_eq_true h3
   have hcl : off < cs.length := by rw [hc.1]; omega
   have hnew : CellsHold h O (As.set off A) (cs.set off (a.eval x)) := by
    refine ⟨by simp [hc.1], fun j B c hB hc' => ?_⟩
    by_cases hj : j = off
    ·subst hj
     rw [List.getElem?_set_self (by omega)] at hB hc'
     cases hB; cases hc'; exact hv
    ·rw [List.getElem?_set_ne (Ne.symm hj)] at hB hc'
     exact hc.2 j B c hB hc'
   obtain ⟨cs', e1, e2⟩ := fill_ok r _ Bs _ h4 (fun y hy => hx y (by simp at hy ⊢; exact .inr hy)) hnew
   refine ⟨cs', ?_, e2⟩
   rw [List.map_cons]
   unfold Instr.fill
   simp only [hp', cells_one hone]
   rw [if_neg (by simp; omega)]
   have hfold : (#[a.eval x].zipIdx.foldl (fun (cs : Array Value) (p : Value × Nat) => cs.setIfInBounds (off + p.2) p.1) cs.toArray) = (cs.set off (a.eval x)).toArray := by
    rw [← Array.foldl_toList, Array.toList_zipIdx]
    simp
   exact (congrArg (fun c => Instr.fill (fun i => pl.toArray[i]?) c (r.map fun p => (p.1, a.eval p.2))) hfold).trans e1
  ·obtain ⟨vs, v1, v2, v3⟩ := hx x (by simp) _ h1
   have hle : off + sz ≤ As.length := Nat.le_of_ble_eq_true h3
   have hvl : vs.length = sz := by rw [v2, h2]
   have hcl : off + sz ≤ cs.length := by rw [hc.1]; exact hle
   have hnew : CellsHold h O (As.take off ++ Cs ++ As.drop (off + sz)) (cs.take off ++ vs ++ cs.drop (off + vs.length)) := by
    refine ⟨by simp [hc.1, v2, h2], fun j B c hB hc' => ?_⟩
    rw [List.append_assoc, List.getElem?_append] at hB hc'
    simp only [List.length_take] at hB hc'
    have e1 : min off As.length = off := by omega
    have e2 : min off cs.length = off := by omega
    rw [e1] at hB
    rw [e2] at hc'
    by_cases hj : j < off
    ·rw [if_pos hj, List.getElem?_take, if_pos hj] at hB hc'
     exact hc.2 j B c hB hc'
    ·rw [if_neg hj, List.getElem?_append] at hB hc'
     rw [h2] at hB
     rw [hvl] at hc'
     by_cases hj2 : j - off < sz
     ·rw [if_pos hj2] at hB hc'
      exact v3 _ B c hB hc'
     ·rw [if_neg hj2, List.getElem?_drop] at hB hc'
      exact hc.2 _ B c hB hc'
   obtain ⟨cs', e1, e2⟩ := fill_ok r _ Bs _ h4 (fun y hy => hx y (by simp at hy ⊢; exact .inr hy)) hnew
   refine ⟨cs', ?_, e2⟩
   rw [List.map_cons]
   unfold Instr.fill
   have hcells : (Value.agg vs.toArray).cells = vs.toArray := rfl
   simp only [hp', v1, hcells]
   rw [if_neg (by simp [hvl]; omega)]
   have hfold : (vs.toArray.zipIdx.foldl (fun (cs : Array Value) (p : Value × Nat) => cs.setIfInBounds (off + p.2) p.1) cs.toArray) = (cs.take off ++ vs ++ cs.drop (off + vs.length)).toArray := by
    rw [← Array.foldl_toList, Array.toList_zipIdx]
    have := fold_place vs 0 off cs (by omega)
    simpa using this
   exact (congrArg (fun c => Instr.fill (fun i => pl.toArray[i]?) c (r.map fun p => (p.1, a.eval p.2))) hfold).trans e1
theorem ok_build {T : TypeId} {fs : Array Field} {pl : List (Nat × Nat)} {z : List Value} {parts : List (Nat × Operand)} {As Bs : List AV} (ht : StructTy P T fs pl z)
  (hz : ∀ h O, CellsHold h O As z) (hf : FillOK s pl parts As Bs) : OpOK P E s own ⟨some d, .build T parts.toArray, ty, pos, af, g⟩ (aAgg Bs) :=
 ok_val (fun a w r => by
  obtain ⟨cs', e1, e2⟩ := fill_ok (h := w.heap) (O := OO E own) (a := a) parts As Bs z hf (fun x hx B hB => r.ev x (by simp only [Op.operands, List.mem_toArray]; exact hx) B hB) (hz _ _)
  refine ⟨.agg cs'.toArray, ?_, cs', rfl, e2.1, e2.2⟩
  have e1' : Instr.fill (fun x => pl[x]?) z.toArray (parts.map fun p => (p.1, a.eval p.2)) = some cs'.toArray := by simpa using e1
  have hzc : (Value.agg z.toArray).cells = z.toArray := rfl
  have hpl := ht.places w
  simp [execOp, Instr.build, ht.und, ht.zero, hpl, hzc, e1'])
theorem ok_sliceN {α : Type} {T El : TypeId} {x : Operand} {lo hi : Option Operand} {sz : Nat} {agg : Bool} {enc : α → AV} {xs : List α} (l h : Nat) (hs : SlInfo P T El sz)
  (hx : opd s x = some (aSl sz agg enc xs))
  (hl : match lo with | some o => opd s o = some (aInt l) | none => l = 0) (hh : match hi with | some o => opd s o = some (aInt h) | none => h = xs.length) (h1 : l ≤ h) (h2 : h ≤ xs.length) :
  OpOK P E s own ⟨some d, .slice T x lo hi none, ty, pos, af, g⟩ (aSl sz agg enc ((xs.take h).drop l)) :=
 ok_val (fun a w r => by
  obtain ⟨p, cap, g1, g2, g4, g5, g7⟩ := r.ev x (by simp [Op.operands]) _ hx
  have hlen : ((xs.take h).drop l).length = h - l := by simp; omega
  have elo : ∀ o, lo = some o → a.eval o = .int .i64 l := fun o ho => by subst ho; exact r.ex hl (by simp [Op.operands])
  have ehi : ∀ o, hi = some o → a.eval o = .int .i64 h := fun o ho => by subst ho; exact r.ex hh (by simp [Op.operands])
  have hbl : (Instr.sliceBounds true xs.length cap (lo.map a.eval) (hi.map a.eval) none).run P w = .ok (l, h, cap) w := by
   unfold Instr.sliceBounds
   have e1 : l ≤ h := h1
   have e2 : h ≤ cap := by omega
   cases lo with
   | none =>
    cases hi with
    | none => simp only at hl hh; subst hl hh; simp
    | some o =>
     simp only at hl; subst hl
     simp [ehi o rfl, Instr.sliceBound, asIntOf, e2]
   | some o =>
    cases hi with
    | none => simp only at hh; subst hh; simp [elo o rfl, Instr.sliceBound, asIntOf, e1]
    | some o' => simp [ehi o' rfl, elo o rfl, Instr.sliceBound, asIntOf, e1, e2]
  refine ⟨.slice (if cap = l then p else p.map (·.add (l * sz))) (h - l) (cap - l), ?_, if cap = l then p else p.map (·.add (l * sz)), cap - l, by rw [hlen], by rw [hlen]; omega, by omega, g5, ?_⟩
  ·simp [execOp, g1, Instr.sliceAt, Instr.slice, hs.und, hs.size, hbl]
  ·intro i y hy
   rw [List.getElem?_drop, List.getElem?_take] at hy
   split at hy
   ·rename_i hlt
    obtain ⟨b, off, us, e1, e2, e3, e4⟩ := g7 _ _ hy
    have hne : ¬ cap = l := by omega
    refine ⟨b, off + l * sz, us, ?_, e2, ?_, e4⟩
    ·rw [if_neg hne, e1, Option.map_some, addr_add]
    ·rw [show off + l * sz + i * sz = off + (l + i) * sz by rw [Nat.add_mul]; omega]; exact e3
   ·cases hy)
theorem ok_sliceTo {α : Type} {T El : TypeId} {x hi : Operand} {sz : Nat} {agg : Bool} {enc : α → AV} {xs : List α} {h : Int} (hs : SlInfo P T El sz)
  (hx : opd s x = some (aSl sz agg enc xs)) (hh : opd s hi = some (aInt h)) (h1 : 0 ≤ h) (h2 : h ≤ xs.length) :
  OpOK P E s own ⟨some d, .slice T x none (some hi) none, ty, pos, af, g⟩ (aSl sz agg enc (xs.take h.toNat)) := by
 have := ok_sliceN (P := P) (E := E) (s := s) (own := own) (d := d) (ty := ty) (pos := pos) (af := af) (g := g) (lo := none) (hi := some hi) 0 h.toNat hs hx rfl (by show opd s hi = _; rw [hh]; congr 3; omega) (by omega) (by omega)
 simpa using this
theorem ok_sliceFrom {α : Type} {T El : TypeId} {x lo : Operand} {sz : Nat} {agg : Bool} {enc : α → AV} {xs : List α} {l : Int} (hs : SlInfo P T El sz)
  (hx : opd s x = some (aSl sz agg enc xs)) (hl : opd s lo = some (aInt l)) (h1 : 0 ≤ l) (h2 : l ≤ xs.length) :
  OpOK P E s own ⟨some d, .slice T x (some lo) none none, ty, pos, af, g⟩ (aSl sz agg enc (xs.drop l.toNat)) := by
 have := ok_sliceN (P := P) (E := E) (s := s) (own := own) (d := d) (ty := ty) (pos := pos) (af := af) (g := g) (lo := some lo) (hi := none) l.toNat xs.length hs hx (by show opd s lo = _; rw [hl]; congr 3; omega) rfl (by omega) (by omega)
 simpa using this
theorem aSl_nil {α : Type} {sz : Nat} {agg : Bool} {enc : α → AV} (h1 : agg = false → sz = 1) : ∀ h O v, (aEx (.slice none 0 0)).holds h O v → (aSl sz agg enc []).holds h O v := by
 rintro h O v rfl
 exact ⟨none, 0, rfl, Nat.le_refl _, Nat.zero_le _, h1, fun i x hx => by simp at hx⟩
theorem run_equalIn_nil_sl {w : World} (dd : Nat) {T e : TypeId} (p : Option Addr) (n c : Nat) (hu : P.underlying T = some (.slice e)) : (Op.equalIn (dd + 1) T (.slice p n c) (.slice none 0 0)).run P w = .ok p.isNone w := by
 cases p <;> simp [Op.equalIn, run_underlying hu]
theorem run_eql_nil_sl {w : World} {T e : TypeId} (p : Option Addr) (n c : Nat) (hu : P.underlying T = some (.slice e)) : (Op.equal T (.slice p n c) (.slice none 0 0)).run P w = .ok p.isNone w :=
 run_equalIn_nil_sl 9999 p n c hu
theorem St_eraseO (k : Nat) : ∀ b, OO E (own.eraseIdx k) b → OO E own b := by
 rintro b (h | ⟨o, ho, hb⟩)
 ·exact .inl h
 ·exact .inr ⟨o, List.mem_of_mem_eraseIdx ho, hb⟩
theorem Rep.erase {a : Act} {w : World} (r : Rep E st a w) (k : Nat) : Rep E ⟨st.slots, st.own.eraseIdx k⟩ a w := by
 have hO := St_eraseO (E := E) (own := st.own) k
 refine ⟨r.size, r.defers, fun i A hi => ?_, fun o ho => ?_, r.apart.sublist (List.eraseIdx_sublist _ _), fun o ho => r.free o (List.mem_of_mem_eraseIdx ho), r.xold, r.keep⟩
 ·obtain ⟨v, h1, h2⟩ := r.slots i A hi
  exact ⟨v, h1, AV.less h2 (fun b _ hb => hO b hb)⟩
 ·exact o.mono _ _ _ _ (r.own o (List.mem_of_mem_eraseIdx ho)) (Nat.le_refl _) (fun _ _ _ => rfl) (fun b _ hb => hO b hb)
theorem ent_drop {K : Act → World → Prop} (k : Nat) (h : Ent E ⟨st.slots, st.own.eraseIdx k⟩ K) : Ent E st K := fun a w r => h a w (r.erase k)
theorem Rep.gone {a : Act} {w : World} (r : Rep E st a w) {k : Nat} {o : Own} (hk : st.own[k]? = some o) {b : Nat} (hb : o.has b) : ¬ OO E (st.own.eraseIdx k) b := by
 have hkl : k < st.own.length := (List.getElem?_eq_some_iff.1 hk).1
 have hke : st.own[k] = o := (List.getElem?_eq_some_iff.1 hk).2
 have hap := List.pairwise_iff_getElem.1 r.apart
 rintro (h | ⟨o', ho', hb'⟩)
 ·exact (r.free o (List.mem_of_getElem? hk) b hb).1 h
 ·obtain ⟨i, hi, hio⟩ := List.mem_eraseIdx_iff_getElem.1 ho'
  obtain ⟨hne, rfl⟩ := hio
  have hil : i < st.own.length := hi
  rcases Nat.lt_or_gt_of_ne hne with h | h
  ·exact hap i k hil hkl h b hb' (by rw [hke]; exact hb)
  ·exact hap k i hkl hil h b (by rw [hke]; exact hb) hb'
theorem vec_sl {α : Type} {r : Option Nat} {cap : Nat} {e : TypeId} {sz : Nat} {agg : Bool} {enc : α → AV} {xs : List α} {h : Heap} {O O' : Nat → Prop} (ho : (oVec r cap e sz agg enc xs).holds h O)
  (hO : ∀ b, O' b → O b) (hb : ∀ b, r = some b → ¬ O' b) : (aSl sz agg enc xs).holds h O' (vec r xs.length cap) := by
 obtain ⟨q0, q1, q2⟩ := ho
 rcases q2 with ⟨rfl, rfl, rfl⟩ | ⟨b, cur, rfl, g2, g3, g4, g5, g6⟩
 ·exact ⟨none, 0, rfl, Nat.le_refl _, Nat.zero_le _, q1, fun i x hx => by simp at hx⟩
 ·refine ⟨some ⟨b, 0, none⟩, cap, rfl, g3, g4, q1, fun i x hx => ?_⟩
  obtain ⟨us, u1, u2, u3⟩ := g6 i x hx
  exact ⟨b, 0, us, rfl, u1, ⟨hb b rfl, cur, e, _, g2, fun j u hu => by rw [Nat.zero_add]; exact (u2 j u hu).1⟩, AV.less u3 (fun b _ hb => hO b hb)⟩
end
section
variable {P : Program} {E : Env} {st : St} {Q : Exit → Act → World → Prop} {ops : Array Oper} {rest : List Oper} {s : List (Nat × AV)} {own : List Own}
variable {d : Nat} {ty : TypeId} {pos : String} {af : Array Edge} {g : Option (Nat × Bool)}
def Lent (own : List Own) (ls : List Nat) (b : Nat) : Prop := ∃ k ∈ ls, ∃ o, own[k]? = some o ∧ o.has b
def ArgOK (E : Env) (s : List (Nat × AV)) (own : List Own) (ls : List Nat) (x : Operand) (A : AV) : Prop :=
 ∀ (v : Value) (w : World), RepW E own w → (∀ B, opd s x = some B → B.holds w.heap (OO E own) v) → A.holds w.heap (fun b => OO E own b ∧ ¬ Lent own ls b) v
def ArgsOK (E : Env) (s : List (Nat × AV)) (own : List Own) (ls : List Nat) : List Operand → List AV → Prop
 | [], [] => True
 | x :: xs, A :: As => ArgOK E s own ls x A ∧ ArgsOK E s own ls xs As
 | _, _ => False
theorem ArgsOK.holds {ls : List Nat} {o : Oper} {a : Act} {w : World} (r : OpR E s own o a w) : ∀ {xs : List Operand} {As : List AV}, (∀ x ∈ xs, x ∈ o.op.operands) → ArgsOK E s own ls xs As →
  HoldsAll As w.heap (fun b => OO E own b ∧ ¬ Lent own ls b) (xs.map a.eval)
 | [], [], _, _ => HoldsAll.nil _ _
 | x :: xs, A :: As, hm, h => HoldsAll.cons (h.1 _ _ r.world (fun B hB => r.ev x (hm x (by simp)) B hB)) (ArgsOK.holds r (fun y hy => hm y (by simp [hy])) h.2)
 | [], _ :: _, _, h => h.elim
 | _ :: _, [], _, h => h.elim
def aVec {α : Type} (e : TypeId) (sz : Nat) (agg : Bool) (enc : α → AV) (xs : List α) : AV where
 holds h O v := ∃ r cap, v = vec r xs.length cap ∧ (oVec r cap e sz agg enc xs).holds h (fun b => O b ∨ r = some b) ∧ ∀ b, r = some b → ¬ O b
 mono := by
  rintro h h' O O' v ⟨r, cap, h1, h2, h3⟩ hs hb ho
  refine ⟨r, cap, h1, (oVec r cap e sz agg enc xs).mono _ _ _ _ h2 hs (fun b hlt hn => ?_) (fun b hlt hn => hn.imp (ho b hlt) id), fun b hr hO => ?_⟩
  ·rcases hn with hn | hn
   ·exact hb b hlt (fun h => hn (.inl h))
   ·exact hb b hlt (h3 b hn)
  ·exact h3 b hr (ho b ((oVec r cap e sz agg enc xs).lt _ _ b h2 hr) hO)
theorem aVec_sl {α : Type} {e : TypeId} {sz : Nat} {agg : Bool} {enc : α → AV} {xs : List α} : ∀ h O v, (aVec e sz agg enc xs).holds h O v → (aSl sz agg enc xs).holds h O v := by
 rintro h O v ⟨r, cap, rfl, h2, h3⟩
 exact vec_sl h2 (fun _ hb => .inl hb) h3
theorem ent_callV {α : Type} {f : FuncId} {xs : List Operand} {tys : Array TypeId} {As : List AV} {e : TypeId} {sz : Nat} {agg : Bool} {enc : α → AV} {ys : List α} (ls : List Nat) (hd : Nat.ble (d + 1) E.n = true)
  (c : CtrF P f As (aVec e sz agg enc ys)) (hx : ArgsOK E st.slots st.own ls xs As)
  (k : ∀ r cap, Ent E ⟨(d, aEx (vec r ys.length cap)) :: st.slots, oVec r cap e sz agg enc ys :: st.own⟩ (wpList P ops Q rest)) :
  Ent E st (wpList P ops Q (⟨some d, .call { callee := .value (.func f), args := xs.toArray, argTypes := tys }, ty, pos, af, none⟩ :: rest)) := by
 intro a w rp
 refine wpList_plain rfl fun K hK => ?_
 have hrun : (execOp a.eval ⟨some d, .call { callee := .value (.func f), args := xs.toArray, argTypes := tys }, ty, pos, af, none⟩).run P w = .ok (.enter f (xs.map a.eval).toArray) w := by
  simp [execOp, resolve, Act.eval, Deferred.ofValue, invoke, c.1]
 unfold Oper.wp
 rw [hrun, Oper.upon_enter]
 have r := rp.opR ⟨some d, .call { callee := .value (.func f), args := xs.toArray, argTypes := tys }, ty, pos, af, none⟩
 refine (c.2 w (fun b => OO E st.own b ∧ ¬ Lent st.own ls b) _ (fun b hb => r.lt b hb.1) (hx.holds r (fun x hx => by simp [Op.operands, Call.operands, hx]))).mono ?_
 rintro en w' ⟨v, rfl, ⟨rr, cap, rfl, h2, h3⟩, hg⟩
 refine hK _ _ (k rr cap _ _ ?_)
 have hlt : ∀ b, OO E st.own b → b < w.heap.size := r.lt
 have hnew : ∀ b, rr = some b → w.heap.size ≤ b := fun b hb => by have := h3 b hb; omega
 have hO : ∀ b, b < w.heap.size → OO E (oVec rr cap e sz agg enc ys :: st.own) b → OO E st.own b := by
  rintro b hb1 (h | ⟨o', ho', hb'⟩)
  ·exact .inl h
  ·cases ho' with
   | head => have := hnew b hb'; omega
   | tail _ h => exact .inr ⟨o', h, hb'⟩
 have r2 : Rep E ⟨st.slots, oVec rr cap e sz agg enc ys :: st.own⟩ a w' := by
  refine ⟨rp.size, rp.defers, fun i A hi => ?_, fun o' ho' => ?_, ?_, fun o' ho' b hb' => ?_, rp.xold, rp.keep.grow hg⟩
  ·obtain ⟨v, h1, h2⟩ := rp.slots i A hi
   exact ⟨v, h1, A.mono _ _ _ _ _ h2 hg.size (fun b hb _ => hg.block b hb) hO⟩
  ·cases ho' with
   | head =>
    obtain ⟨q0, q1, q2⟩ := h2
    refine ⟨q0, q1, ?_⟩
    rcases q2 with q2 | ⟨b, cur, hb, g2, g3, g4, g5, g6⟩
    ·exact .inl q2
    ·refine .inr ⟨b, cur, hb, g2, g3, g4, g5, fun i x hx => ?_⟩
     obtain ⟨us, u1, u2, u3⟩ := g6 i x hx
     refine ⟨us, u1, u2, AV.less u3 fun b' _ hb' => ?_⟩
     rcases hb' with h | ⟨o', ho', hb''⟩
     ·exact .inl (hlt b' (.inl h))
     ·cases ho' with
      | head => exact .inr hb''
      | tail _ h => exact .inl (hlt b' (.inr ⟨o', h, hb''⟩))
   | tail _ h => exact o'.mono _ _ _ _ (rp.own o' h) hg.size (fun b hb _ => hg.block b hb) hO
  ·refine List.Pairwise.cons (fun o' ho' b h1 h2 => ?_) rp.apart
   have := hnew b h1
   exact absurd (hlt _ (.inr ⟨o', ho', h2⟩)) (by omega)
  ·cases ho' with
   | head =>
    have h5 := hnew b hb'
    exact ⟨fun hx => absurd (hlt _ (.inl hx)) (by omega), .inl (Nat.le_trans rp.keep.size h5)⟩
   | tail _ h => exact rp.free o' h b hb'
 exact r2.put (Nat.le_of_ble_eq_true hd) (A := aEx (vec rr ys.length cap)) rfl
def Res (E : Env) (st : St) (t : Nat) (A : AV) (O : Nat → Prop) : Prop := ∀ a w, Rep E st a w → A.holds w.heap O (a.tmps.getD t undef)
def Flat {α : Type} (enc : α → AV) : Prop := ∀ x h O h' O' v, (enc x).holds h O v → (enc x).holds h' O' v
theorem flat_int : Flat aInt := fun _ _ _ _ _ _ h => h
theorem oVec_flat {α : Type} {r : Option Nat} {cap : Nat} {e : TypeId} {sz : Nat} {agg : Bool} {enc : α → AV} {xs : List α} (hf : Flat enc) {h : Heap} {O O' : Nat → Prop} (ho : (oVec r cap e sz agg enc xs).holds h O) : (oVec r cap e sz agg enc xs).holds h O' := by
 obtain ⟨q0, q1, q2⟩ := ho
 refine ⟨q0, q1, ?_⟩
 rcases q2 with q2 | ⟨b, cur, hb, g2, g3, g4, g5, g6⟩
 ·exact .inl q2
 ·refine .inr ⟨b, cur, hb, g2, g3, g4, g5, fun i x hx => ?_⟩
  obtain ⟨us, u1, u2, u3⟩ := g6 i x hx
  exact ⟨us, u1, u2, hf x _ _ _ _ _ u3⟩
theorem ent_condD {c : Operand} {x y : Code} {p : Prop} [Decidable p] (hc : opd st.slots c = some (aBool (decide p))) (ht : p → Ent E st (x.wp P Q)) (hf : ¬ p → Ent E st (y.wp P Q)) :
  Ent E st ((Code.cond c x y).wp P Q) := ent_cond hc (fun h => ht (of_decide_eq_true h)) (fun h => hf (of_decide_eq_false h))
theorem ent_condF {c : Operand} {x y : Code} (hc : opd st.slots c = some (aBool false)) (hf : Ent E st (y.wp P Q)) : Ent E st ((Code.cond c x y).wp P Q) := ent_cond hc (fun h => by cases h) (fun _ => hf)
theorem ent_open {α : Type} {K : Act → World → Prop} (e : TypeId) (sz : Nat) (agg : Bool) (enc : α → AV) (h1 : agg = false → sz = 1) (h : Ent E ⟨st.slots, oVec none 0 e sz agg enc [] :: st.own⟩ K) : Ent E st K := by
 intro a w r
 refine h a w ⟨r.size, r.defers, fun i A hi => ?_, fun o ho => ?_, List.Pairwise.cons (fun _ _ b hb => by cases hb) r.apart, fun o ho b hb => ?_, r.xold, r.keep⟩
 ·obtain ⟨v, v1, v2⟩ := r.slots i A hi
  refine ⟨v, v1, AV.less v2 (fun b _ hb => ?_)⟩
  rcases hb with hb | ⟨o, ho, hb⟩
  ·exact .inl hb
  ·cases ho with
   | head => cases hb
   | tail _ h => exact .inr ⟨o, h, hb⟩
 ·cases ho with
  | head => exact ⟨Nat.zero_le _, h1, .inl ⟨rfl, rfl, rfl⟩⟩
  | tail _ h =>
   refine o.mono _ _ _ _ (r.own o h) (Nat.le_refl _) (fun _ _ _ => rfl) (fun b _ hb => ?_)
   rcases hb with hb | ⟨o, ho, hb⟩
   ·exact .inl hb
   ·cases ho with
    | head => cases hb
    | tail _ h => exact .inr ⟨o, h, hb⟩
 ·cases ho with
  | head => cases hb
  | tail _ h => exact r.free o h b hb
end
section
variable {P : Program} {E : Env} {st : St} {Q : Exit → Act → World → Prop} {ops : Array Oper} {rest : List Oper} {s : List (Nat × AV)} {own : List Own}
variable {d : Nat} {ty : TypeId} {pos : String} {af : Array Edge} {g : Option (Nat × Bool)}
theorem ok_pickT {c x y : Operand} {A : AV} {b : Bool} (hc : opd s c = some (aBool b)) (hb : b = true) (hx : opd s x = some A) : OpOK P E s own ⟨some d, .pick c x y, ty, pos, af, g⟩ A :=
 ok_pick_true (by rw [hc, hb]) hx
theorem ok_pickF {c x y : Operand} {A : AV} {b : Bool} (hc : opd s c = some (aBool b)) (hb : b = false) (hy : opd s y = some A) : OpOK P E s own ⟨some d, .pick c x y, ty, pos, af, g⟩ A :=
 ok_pick_false (by rw [hc, hb]) hy
theorem ent_condFP {c : Operand} {x y : Code} {b : Bool} (hc : opd st.slots c = some (aBool b)) (hb : b = false) (hf : Ent E st (y.wp P Q)) : Ent E st ((Code.cond c x y).wp P Q) := ent_condF (by rw [hc, hb]) hf
theorem dw_nil {K : List (Nat × AV) → Prop} (h : K s) : DW P E own ops [] s K := h
theorem dw_o {d : Nat} {op : Op} {A : AV} {K : List (Nat × AV) → Prop} (hd : Nat.ble (d + 1) E.n = true) (ok : OpOK P E s own ⟨some d, op, ty, pos, af, none⟩ A)
  (k : DW P E own ops rest ((d, A) :: s) K) : DW P E own ops (⟨some d, op, ty, pos, af, none⟩ :: rest) s K := ⟨d, A, rfl, hd, ok, k⟩
theorem dw_guard {d : Nat} {op : Op} {K : List (Nat × AV) → Prop} {j dj : Nat} {oj : Oper} {want g : Bool} (hd : Nat.ble (d + 1) E.n = true)
  (hoj : ops[j]? = some oj) (hdj : oj.dst = some dj) (hg : look s dj = some (aBool g))
  (hT : g = want → DW P E own ops (⟨some d, op, ty, pos, af, none⟩ :: rest) s K) (hF : g = (!want) → DW P E own ops rest ((d, aAny) :: s) K) :
  DW P E own ops (⟨some d, op, ty, pos, af, some (j, want)⟩ :: rest) s K := by
 by_cases h : g = want
 ·obtain ⟨d', A, h1, h2, h3, h4⟩ := hT h
  cases h1
  have h5 : OpOK P E s own ⟨some d, op, ty, pos, af, none⟩ A := h3
  exact ⟨d, A, rfl, h2, ⟨dj, some g, by rw [hoj]; exact hdj, hg, .inl ⟨congrArg some h, fun a w r K Q hK => h5 a w ⟨r.world, r.ev⟩ K Q hK⟩⟩, h4⟩
 ·have hn : g = (!want) := by cases g <;> cases want <;> simp_all
  exact ⟨d, aAny, rfl, hd, ⟨dj, some g, by rw [hoj]; exact hdj, hg, .inr ⟨fun e => h (Option.some.inj e), .inl rfl⟩⟩, hF hn⟩
theorem dw_guardT {d : Nat} {op : Op} {K : List (Nat × AV) → Prop} {j dj : Nat} {oj : Oper} {want : Bool} (hd : Nat.ble (d + 1) E.n = true)
  {g : Bool} (hoj : ops[j]? = some oj) (hdj : oj.dst = some dj) (hg : look s dj = some (aBool g)) (hn : g = want)
  (hT : DW P E own ops (⟨some d, op, ty, pos, af, none⟩ :: rest) s K) : DW P E own ops (⟨some d, op, ty, pos, af, some (j, want)⟩ :: rest) s K :=
 dw_guard hd hoj hdj hg (fun _ => hT) (fun h => absurd (hn.symm.trans h) (by cases want <;> decide))
theorem dw_guardDt {d : Nat} {op : Op} {K : List (Nat × AV) → Prop} {j dj : Nat} {oj : Oper} {p : Prop} [Decidable p] (hd : Nat.ble (d + 1) E.n = true)
  (hoj : ops[j]? = some oj) (hdj : oj.dst = some dj) (hg : look s dj = some (aBool (decide p)))
  (hT : p → DW P E own ops (⟨some d, op, ty, pos, af, none⟩ :: rest) s K) (hF : ¬ p → DW P E own ops rest ((d, aAny) :: s) K) :
  DW P E own ops (⟨some d, op, ty, pos, af, some (j, true)⟩ :: rest) s K :=
 dw_guard hd hoj hdj hg (fun h => hT (of_decide_eq_true h)) (fun h => hF (of_decide_eq_false h))
theorem dw_guardDf {d : Nat} {op : Op} {K : List (Nat × AV) → Prop} {j dj : Nat} {oj : Oper} {p : Prop} [Decidable p] (hd : Nat.ble (d + 1) E.n = true)
  (hoj : ops[j]? = some oj) (hdj : oj.dst = some dj) (hg : look s dj = some (aBool (decide p)))
  (hT : ¬ p → DW P E own ops (⟨some d, op, ty, pos, af, none⟩ :: rest) s K) (hF : p → DW P E own ops rest ((d, aAny) :: s) K) :
  DW P E own ops (⟨some d, op, ty, pos, af, some (j, false)⟩ :: rest) s K :=
 dw_guard hd hoj hdj hg (fun h => hT (of_decide_eq_false h)) (fun h => hF (of_decide_eq_true h))
theorem dw_guardF {d : Nat} {op : Op} {K : List (Nat × AV) → Prop} {j dj : Nat} {oj : Oper} {want g : Bool} (hd : Nat.ble (d + 1) E.n = true)
  (hoj : ops[j]? = some oj) (hdj : oj.dst = some dj) (hg : look s dj = some (aBool g)) (hn : g = !want)
  (hF : DW P E own ops rest ((d, aAny) :: s) K) : DW P E own ops (⟨some d, op, ty, pos, af, some (j, want)⟩ :: rest) s K :=
 dw_guard hd hoj hdj hg (fun h => absurd (h.symm.trans hn) (by cases want <;> decide)) (fun _ => hF)
end
section
open Go.ChangeShapes Go.WideShapes Go.ChangeAt Go.RowKit
variable {H : Type} {enc : TypeId × Value → H} {P : Program}
theorem Grow.below {W W' : World} (g : Grow W W') : Below W.heap.size W W' := ⟨g.os, g.tape, g.output, g.size, g.block⟩
theorem trodAll_grow (hl : laidOutB P = true) {W W' : World} (g : Grow W W') : ∀ {ts : List TypeId} {vs : List Value} {ds : List (DataW H)} {ps : List MemPlace},
  (∀ t ∈ ts, P.readableRec t = true ∧ t < P.types.size) → DataW.TrodAll enc P W 0 (fun _ => true) true ts vs ds ps → DataW.TrodAll enc P W' 0 (fun b => decide (b < W.heap.size)) true ts vs ds ps
 | [], [], [], _, _, h => h
 | [], [], _ :: _, _, _, h => h.elim
 | [], _ :: _, _, _, _, h => h.elim
 | _ :: _, [], _, _, _, h => h.elim
 | _ :: _, _ :: _, [], _, _, h => h.elim
 | t :: ts, v :: vs, d :: ds, ps, hp, h => by
  have hlt := h.lt
  obtain ⟨p, q, h1, h2, rfl⟩ := h
  refine ⟨p, q, ?_, trodAll_grow hl g (fun t ht => hp t (by simp [ht])) h2, rfl⟩
  exact Below.trod hl (hp t (by simp)).1 (hp t (by simp)).2 h1 g.below (fun x hx => hlt x (by simp [hx]))
theorem law_post {f : Func} {s : ChangeSpec} {W W' : World} {args : Array Value} {ds gs : List (DataW H)} {ps : List MemPlace} {tb : TypeId} (hl : laidOutB P = true)
  (hp : ∀ t ∈ f.params.toList, P.readableRec t = true ∧ t < P.types.size) (hrt : f.resultTypes = #[tb]) (htb : P.underlying tb = some .bool) (hvars : s.vars = [])
  (hW : DataW.Whole enc P f.params.toList s.vars false W args.toList ds gs ps)
  (hr : (s.fn H (ds ++ gs)).results = [.lit (.bool true)]) (ha : (s.fn H (ds ++ gs)).args = ds) (hvv : (s.fn H (ds ++ gs)).vars = [])
  (g : Grow W W') : s.post enc P f false true false false W args (.bool true) W' := by
 obtain ⟨p, q, hA, hV, hpq, hz, hn⟩ := id hW
 refine ⟨ds, gs, ps, [], p, [], hW, ?_, ?_, ?_, g.below.frame _, fun h => by cases h⟩
 ·rw [hr, hrt]
  exact trodAll_mk1 (shut_bool htb true)
 ·rw [ha]
  exact trodAll_grow hl g hp hA
 ·rw [hvv, hvars]
  rfl
theorem law_walk {f : FuncId} {As : List AV} {vs : List Value} {w : World} (c : Ctr P f As (aBool true)) (h : HoldsAll As w.heap (fun _ => False) vs) :
  Calls P f vs.toArray w fun e w' => e = .returned (.bool true) ∧ Grow w w' :=
 (c.2 w (fun _ => False) vs (fun _ h => h.elim) h).mono fun _ _ ⟨_, he, hv, hg⟩ => ⟨by rw [he, show _ = Value.bool true from hv], hg⟩
end
section
open Go.ChangeShapes Go.WideShapes Go.ChangeAt Go.RowKit Go.Deep
variable {H : Type} {encH : TypeId × Value → H} {P : Program} {W : World}
def RdC {H : Type} (encH : TypeId × Value → H) (P : Program) (W : World) {α : Type} (t : TypeId) (sz : Nat) (agg : Bool) (enc : α → AV) (good : α → Prop) : Prop :=
 ∀ (fuel : Nat) (cs : List Value) (x : DataW H × List MemPlace), DataW.trod encH P W 0 (fun _ => true) true fuel t cs = some x → cs.length = sz ∧ ∃ a, good a ∧ (enc a).holds W.heap (fun _ => False) (mkV agg cs)
def RdL {H : Type} (encH : TypeId × Value → H) (P : Program) (W : World) {α : Type} (t : TypeId) (sz : Nat) (enc : α → List AV) (good : α → Prop) : Prop :=
 ∀ (fuel : Nat) (cs : List Value) (x : DataW H × List MemPlace), DataW.trod encH P W 0 (fun _ => true) true fuel t cs = some x → cs.length = sz ∧ ∃ a, good a ∧ CellsHold W.heap (fun _ => False) (enc a) cs
def In64 (n : Int) : Prop := -9223372036854775808 ≤ n ∧ n ≤ 9223372036854775807
theorem rd_int {t : TypeId} (hu : P.underlying t = some (.int .i64)) : RdC encH P W t 1 false aInt In64 := by
 intro fuel cs x h
 cases fuel with
 | zero => simp [DataW.trod] at h
 | succ fuel =>
  obtain ⟨n, e, _, hwf⟩ := DataW.trod_int hu h
  subst e
  refine ⟨rfl, n, ?_, rfl⟩
  simp [Lit.wf, IntKind.min, IntKind.max] at hwf
  unfold In64
  first | omega | (simp [IntKind.signed, IntKind.bits] at hwf; omega)
theorem rd_u8 {t : TypeId} (hu : P.underlying t = some (.int .u8)) : RdC encH P W t 1 false (fun n => aEx (.int .u8 n)) (fun n => 0 ≤ n ∧ n ≤ 255) := by
 intro fuel cs x h
 cases fuel with
 | zero => simp [DataW.trod] at h
 | succ fuel =>
  obtain ⟨n, e, _, hwf⟩ := DataW.trod_int hu h
  subst e
  refine ⟨rfl, n, ?_, rfl⟩
  simp [Lit.wf, IntKind.min, IntKind.max] at hwf
  first | omega | (simp [IntKind.signed, IntKind.bits] at hwf; omega)
theorem rd_bool {t : TypeId} (hu : P.underlying t = some .bool) : RdC encH P W t 1 false aBool (fun _ => True) := by
 intro fuel cs x h
 obtain ⟨b, e, _⟩ := DataW.trod_bool hu h
 subst e
 exact ⟨rfl, b, trivial, rfl⟩
theorem cellsAt_of {a : Addr} {n : Nat} {cs : List Value} (h : W.cells? 0 a n = some cs) (hn : 0 < n) : a.spot = none ∧ CellsAt W.heap (fun _ => False) a.block a.off cs := by
 obtain ⟨_, hl, hc⟩ := World.cells?_some h
 have h0 := hc 0 hn
 have hcs0 : cs[0]? = some cs[0] := List.getElem?_eq_getElem (by omega)
 rw [hcs0, show a.add 0 = a by simp [Addr.add]] at h0
 unfold World.cell? at h0
 split at h0
 ·rename_i c T fz hb
  have hs : a.spot = none := by
   cases hs : a.spot with
   | none => rfl
   | some q => rw [hs] at h0; simp at h0
  refine ⟨hs, id, c, T, fz, hb, fun j u hu => ?_⟩
  have hj : j < n := by rw [← hl]; exact (List.getElem?_eq_some_iff.1 hu).1
  have hcj := hc j hj
  rw [hu] at hcj
  obtain ⟨ab, ao, asp⟩ := a
  simp only at hs hb ⊢
  subst hs
  rw [addr_add] at hcj
  simp [World.cell?, hb] at hcj
  exact hcj
 ·cases h0
theorem rd_slice {α : Type} {t e : TypeId} {sz : Nat} {agg : Bool} {enc : α → AV} {good : α → Prop} (hu : P.underlying t = some (.slice e)) (hc : P.cellsOf e = sz) (hpos : 0 < sz) (h1 : agg = false → sz = 1) (h : RdC encH P W e sz agg enc good) :
  RdC encH P W t 1 false (aSl sz agg enc) (fun xs => xs.length ≤ 9223372036854775807 ∧ ∀ x ∈ xs, good x) := by
 intro fuel cs x ht
 rcases open_slice hu ht with ⟨rfl, _⟩ | ⟨a, len, cap, m, n, D, Pl, rfl, _, hlc, hm, hmm, _, hel⟩
 ·exact ⟨rfl, [], ⟨by simp, fun x hx => by simp at hx⟩, aSl_nil h1 _ _ _ rfl⟩
 ·refine ⟨rfl, ?_⟩
  have hel' : ∀ i, i < len → ∃ y : α, good y ∧ ∃ cs', W.cells? 0 (a.add (i * sz)) sz = some cs' ∧ cs'.length = sz ∧ (enc y).holds W.heap (fun _ => False) (mkV agg cs') := by
   intro i hi
   obtain ⟨cs', c1, c2⟩ := hel i (by rw [hmm]; simp; omega)
   rw [hc] at c1
   obtain ⟨hl, y, hy1, hy2⟩ := h _ _ _ c2
   exact ⟨y, hy1, cs', c1, hl, hy2⟩
  have hlist : ∀ k, k ≤ len → ∃ xs : List α, xs.length = k ∧ ∀ i y, xs[i]? = some y → good y ∧ ∃ cs', W.cells? 0 (a.add (i * sz)) sz = some cs' ∧ cs'.length = sz ∧ (enc y).holds W.heap (fun _ => False) (mkV agg cs') := by
   intro k
   induction k with
   | zero => intro _; exact ⟨[], rfl, fun i y hy => by simp at hy⟩
   | succ k ih =>
    intro hk
    obtain ⟨xs, hx1, hx2⟩ := ih (by omega)
    obtain ⟨y, hy1, hy2⟩ := hel' k (by omega)
    refine ⟨xs ++ [y], by simp [hx1], fun i z hz => ?_⟩
    rw [List.getElem?_append] at hz
    split at hz
    ·exact hx2 i z hz
    ·rename_i hi
     have hik : i - xs.length = 0 := by
      have := (List.getElem?_eq_some_iff.1 hz).1
      simp at this; omega
     rw [hik] at hz
     simp only [List.getElem?_cons_zero, Option.some.injEq] at hz
     subst hz
     have : i = k := by omega
     subst this
     exact ⟨hy1, hy2⟩
  obtain ⟨xs, hx1, hx2⟩ := hlist len (Nat.le_refl _)
  subst hx1
  have hmax : cap ≤ maxLen := hm
  refine ⟨xs, ⟨by simp only [maxLen] at hmax; omega, fun y hy => ?_⟩, some a, cap, rfl, hlc, hm, h1, fun i y hy => ?_⟩
  ·obtain ⟨i, hi, rfl⟩ := List.getElem_of_mem hy
   exact (hx2 i _ (List.getElem?_eq_getElem hi)).1
  ·obtain ⟨_, cs', c1, c2, c3⟩ := hx2 i y hy
   obtain ⟨k1, k2⟩ := cellsAt_of c1 hpos
   obtain ⟨ab, ao, asp⟩ := a
   have hasp : asp = none := by
    obtain ⟨y0, _, cs0, d1, _⟩ := hel' 0 (by have := (List.getElem?_eq_some_iff.1 hy).1; omega)
    have := (cellsAt_of d1 hpos).1
    simpa [Addr.add] using this
   subst hasp
   rw [addr_add] at k2
   exact ⟨ab, ao, cs', rfl, c2, k2, c3⟩
theorem rdl_one {α : Type} {t : TypeId} {enc : α → AV} {good : α → Prop} (h : RdC encH P W t 1 false enc good) : RdL encH P W t 1 (fun a => [enc a]) good := by
 intro fuel cs x ht
 obtain ⟨hl, a, h1, h2⟩ := h fuel cs x ht
 match cs, hl with
 | [c], _ =>
  refine ⟨rfl, a, h1, rfl, fun i A c' hA hc => ?_⟩
  match i, hA, hc with
  | 0, hA, hc =>
   simp only [List.getElem?_cons_zero, Option.some.injEq] at hA hc
   subst hA hc
   exact h2
  | i + 1, hA, _ => simp at hA
theorem rdl_map {α β : Type} {t : TypeId} {sz : Nat} {enc : α → List AV} {enc' : β → List AV} {good : α → Prop} {good' : β → Prop} (f : α → β) (h : RdL encH P W t sz enc good) (he : ∀ a, enc' (f a) = enc a) (hg : ∀ a, good a → good' (f a)) : RdL encH P W t sz enc' good' := by
 intro fuel cs x ht
 obtain ⟨hl, a, h1, h2⟩ := h fuel cs x ht
 exact ⟨hl, f a, hg a h1, by rw [he]; exact h2⟩
theorem rdc_agg {α : Type} {t : TypeId} {sz : Nat} {enc : α → List AV} {good : α → Prop} (h : RdL encH P W t sz enc good) : RdC encH P W t sz true (fun a => aAgg (enc a)) good := by
 intro fuel cs x ht
 obtain ⟨hl, a, h1, h2, h3⟩ := h fuel cs x ht
 exact ⟨hl, a, h1, cs, rfl, h2, h3⟩
def RdFs {H : Type} (encH : TypeId × Value → H) (P : Program) (W : World) {α : Type} (l : List Field) (off n : Nat) (enc : α → List AV) (good : α → Prop) : Prop :=
 ∀ (fuel : Nat) (cs : List Value), cs.length = n → (∀ f ∈ l, ∃ x, DataW.trod encH P W 0 (fun _ => true) true fuel f.type ((cs.drop f.offset).take (P.cellsOf f.type)) = some x) →
  ∃ a, good a ∧ CellsHold W.heap (fun _ => False) (enc a) (cs.drop off)
theorem rdf_nil {n : Nat} : RdFs encH P W [] n n (fun _ : Unit => []) (fun _ => True) := by
 intro fuel cs hl _
 refine ⟨(), trivial, by simp [hl], fun i A c hA => by simp at hA⟩
theorem rdf_cons {α β : Type} {f : Field} {l : List Field} {off s n : Nat} {enc : α → List AV} {good : α → Prop} {enc' : β → List AV} {good' : β → Prop} (ho : f.offset = off) (hs : P.cellsOf f.type = s)
  (h : RdL encH P W f.type s enc good) (hr : RdFs encH P W l (off + s) n enc' good') : RdFs encH P W (f :: l) off n (fun p : α × β => enc p.1 ++ enc' p.2) (fun p => good p.1 ∧ good' p.2) := by
 intro fuel cs hl hf
 obtain ⟨x, hx⟩ := hf f (by simp)
 rw [ho, hs] at hx
 obtain ⟨hlen, a, ha, hca⟩ := h _ _ _ hx
 obtain ⟨b, hb, hcb⟩ := hr fuel cs hl fun g hg => hf g (by simp [hg])
 refine ⟨(a, b), ⟨ha, hb⟩, ?_, fun i A c hA hc => ?_⟩
 ·have h1 := hca.1
  have h2 := hcb.1
  have h3 : ((cs.drop off).take s).length = s := hlen
  rw [List.length_append, ← h1, ← h2, hlen]
  simp only [List.length_drop, List.length_take] at h3 ⊢
  omega
 ·have hea : (enc a).length = s := by rw [← hca.1, hlen]
  rw [List.getElem?_append] at hA
  split at hA
  ·rename_i hi
   refine hca.2 i A c hA ?_
   have hi' : i < (enc a).length := hi
   have his : i < s := by omega
   rw [List.getElem?_take, if_pos his]; exact hc
  ·rename_i hi
   refine hcb.2 (i - (enc a).length) A c hA ?_
   have hi' : ¬ i < (enc a).length := hi
   have his : s ≤ i := by omega
   rw [List.getElem?_drop] at hc ⊢
   rw [show (enc (a, b).1).length = s from hea, show off + s + (i - s) = off + i by omega]; exact hc
theorem rdl_struct {α : Type} {t : TypeId} {fs : Array Field} {n : Nat} {enc : α → List AV} {good : α → Prop} (hu : P.underlying t = some (.struct fs)) (hc : P.cellsOf t = n) (h : RdFs encH P W fs.toList 0 n enc good) : RdL encH P W t n enc good := by
 intro fuel cs x ht
 obtain ⟨xs, m, rfl, _, hl, hxl, hx⟩ := DataW.trod_struct hu ht
 refine ⟨by rw [hl, hc], ?_⟩
 obtain ⟨a, h1, h2⟩ := h m cs (by rw [hl, hc]) fun f hf => by
  obtain ⟨i, hi, rfl⟩ := List.getElem_of_mem hf
  have hi' : i < fs.size := by simpa using hi
  have := hx i fs[i] (by simp [hi'])
  refine ⟨xs[i]'(by omega), ?_⟩
  rw [show fs.toList[i] = fs[i] by simp, this]
  exact List.getElem?_eq_getElem _
 exact ⟨a, h1, by simpa using h2⟩
theorem rd_arg {α : Type} {t : TypeId} {sz : Nat} {agg : Bool} {enc : α → AV} {good : α → Prop} {v : Value} {d : DataW H} {ps : List MemPlace} (h : RdC encH P W t sz agg enc good) (hv : v = mkV agg v.cells.toList)
  (ht : DataW.Trod encH P W 0 (fun _ => true) true t v d ps) : ∃ a, good a ∧ (enc a).holds W.heap (fun _ => False) v := by
 obtain ⟨fuel, ht⟩ := ht
 obtain ⟨_, a, h1, h2⟩ := h fuel _ _ ht
 exact ⟨a, h1, by rw [hv]; exact h2⟩
theorem mk_slice {t e : TypeId} {base : Nat} {v : Value} (hu : P.underlying t = some (.slice e)) (h : Value.okWide P W .any base t v) : v = mkV false v.cells.toList := by
 obtain ⟨a, len, cap, rfl⟩ := okWide_slice hu h; rfl
theorem mk_int {t : TypeId} {k : IntKind} {base : Nat} {v : Value} (hu : P.underlying t = some (.int k)) (h : Value.okWide P W .any base t v) : v = mkV false v.cells.toList := by
 obtain ⟨n, rfl⟩ := okWide_int hu h; rfl
theorem mk_struct {t : TypeId} {fs : Array Field} {base : Nat} {v : Value} (hu : P.underlying t = some (.struct fs)) (h : Value.okWide P W .any base t v) : v = mkV true v.cells.toList := by
 simp only [Value.okWide, hu] at h
 obtain ⟨cs, rfl, _⟩ := h; rfl
end
end Go.Cw
