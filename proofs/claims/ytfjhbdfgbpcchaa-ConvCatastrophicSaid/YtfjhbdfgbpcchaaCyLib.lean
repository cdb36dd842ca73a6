/-
  Rules of a calculus for walks.
-/
import Derived.Test.YtfjhbdfgbpcchaaCxLib
set_option linter.unnecessarySimpa false
namespace Go.Cw
set_option linter.unusedSimpArgs false
set_option linter.unusedVariables false
section
variable {P : Program} {E : Env} {st : St}
end
section
variable {P : Program} {E : Env} {s : List (Nat × AV)} {own : List Own}
variable {d : Nat} {ty : TypeId} {pos : String} {af : Array Edge} {g : Option (Nat × Bool)}
def aFull {α : Type} (sz : Nat) (agg : Bool) (enc : α → AV) (xs : List α) : AV where
 holds h O v := (∃ p, v = .slice p xs.length xs.length) ∧ (aSl sz agg enc xs).holds h O v
 mono := fun h h' O O' v ⟨h1, h2⟩ hs hb ho => ⟨h1, (aSl sz agg enc xs).mono h h' O O' v h2 hs hb ho⟩
theorem aFull_sl {α : Type} {sz : Nat} {agg : Bool} {enc : α → AV} {xs : List α} : ∀ h O v, (aFull sz agg enc xs).holds h O v → (aSl sz agg enc xs).holds h O v := fun _ _ _ h => h.2
end
section draws2
variable {P : Program} {E : Env} {own : List Own}
variable {s : List (Nat × AV)} {D : Nat → Nat} {A : Nat → AV} {l : List Oper} {n f f2 : Nat} {listed : Array Bool} {a : Act} {w : World}
theorem DInv.slot2 (inv : DInv E own s D A l n f listed a w) (hn : n ≤ l.length) (hB : drawF l n f2 = true) (hspec : ∀ k o, k < n → l[k]? = some o → o.dst = some (D k) ∧ D k < E.n ∧ Spec P E own l.toArray (stt s D A k) o (A k))
  {j : Nat} {oj : Oper} (hj : l[j]? = some oj) (hjn : j < n) (hun : listed.getD j false = false)
  (hr : ∀ e ∈ oj.after, Region.binds .any e = true → listed.getD e.on false = true) {t : Nat} (ht : t ∈ namesOf l.toArray oj) {B : AV} (hlook : look (stt s D A j) t = some B) :
  ∃ v, a.tmps[t]? = some v ∧ B.holds w.heap (OO E own) v := by
 obtain ⟨hord, _⟩ := drawB_spec hB
 by_cases hex : ∃ i, i < j ∧ D i = t
 ·obtain ⟨i, hij, hit⟩ := hex
  have hil : i < l.length := by omega
  have hoi : l[i]? = some l[i] := List.getElem?_eq_getElem hil
  have hdi := (hspec i _ (by omega) hoi).1
  have hw := ((hord i j _ _ hij hoi hj).1.1 (D i) hdi (by rw [hit]; exact ht))
  have hli : listed.getD i false = true := waits_listed inv.closed _ j i hw (fun oj' h' => by
   have : oj' = oj := by simp only [List.getElem?_toArray] at h'; rw [hj] at h'; exact (Option.some.inj h').symm
   subst this; exact hr)
  have hl2 : look (stt s D A j) (D i) = some (A i) := look_stt_some j hij fun k hk1 hk2 hk3 => by
   have hkl : k < l.length := by omega
   have hok : l[k]? = some l[k] := List.getElem?_eq_getElem hkl
   have := (hord i k _ _ hk1 hoi hok).2.2 (by omega) (D i) hdi
   rw [(hspec k _ (by omega) hok).1] at this
   exact this (by rw [hk3])
  rw [hit, hlook] at hl2
  cases hl2
  rw [← hit]
  exact inv.done i (by omega) hli
 ·have hno : ∀ i, i < j → D i ≠ t := fun i h1 h2 => hex ⟨i, h1, h2⟩
  rw [look_stt_none j hno] at hlook
  refine inv.base t B hlook fun i hin hil hit => ?_
  rcases Nat.lt_trichotomy i j with h | h | h
  ·exact hno i h hit
  ·subst h; rw [hun] at hil; cases hil
  ·have hill : i < l.length := by omega
   have hoi : l[i]? = some l[i] := List.getElem?_eq_getElem hill
   have hw := (hord j i _ _ h hj hoi).1.2 (D i) (hspec i _ hin hoi).1 (by rw [hit]; exact ht)
   have := waits_listed inv.closed _ i j hw (fun oi' h' => inv.closed i oi' h' hil)
   rw [hun] at this; cases this
theorem DInv.step2 (inv : DInv E own s D A l n f listed a w) (hB : drawF l n f2 = true) (hn : n ≤ l.length) (hspec : ∀ k o, k < n → l[k]? = some o → o.dst = some (D k) ∧ D k < E.n ∧ Spec P E own l.toArray (stt s D A k) o (A k))
  {j : Nat} {oj : Oper} (hj : l[j]? = some oj) (hjn : j < n)
  (hr : ∀ e ∈ oj.after, Region.binds .any e = true → listed.getD e.on false = true) {v : Value} {w' : World} (g : Grow w w') (hv : (A j).holds w'.heap (OO E own) v) :
  DInv E own s D A l n f (listed.setIfInBounds j true) (a.put oj.dst v) w' := by
 obtain ⟨hord, _⟩ := drawB_spec hB
 have hdj := (hspec j oj hjn hj)
 have hset : ∀ i, i ≠ j → (listed.setIfInBounds j true).getD i false = listed.getD i false := fun i hi => getD_set_ne false (Ne.symm hi)
 have hmono : ∀ (B : AV) u, B.holds w.heap (OO E own) u → B.holds w'.heap (OO E own) u := fun B u h => B.mono _ _ _ _ _ h g.size (fun b hb _ => g.block b hb) (fun _ _ h => h)
 have hne : ∀ i, i < n → i ≠ j → D i ≠ D j := fun i hin hij he => by
  have hill : i < l.length := by omega
  have hoi : l[i]? = some l[i] := List.getElem?_eq_getElem hill
  rcases Nat.lt_or_gt_of_ne hij with h | h
  ·have := (hord i j _ _ h hoi hj).2.2 hjn (D i) (hspec i _ hin hoi).1
   rw [hdj.1] at this; exact this (by rw [he])
  ·have := (hord j i _ _ h hj hoi).2.2 hin (D j) hdj.1
   rw [(hspec i _ hin hoi).1] at this; exact this (by rw [he])
 refine ⟨by simp [inv.sz], fun i hi => getD_set_true (inv.fl i hi), ?_, ?_, inv.world.grow g, ?_, ?_, ?_, ?_⟩
 ·intro k ok hk hl e he hb
  by_cases hkj : k = j
  ·subst hkj
   have : ok = oj := by simp only [List.getElem?_toArray] at hk; rw [hj] at hk; exact (Option.some.inj hk).symm
   subst this
   exact getD_set_true (hr e he hb)
  ·rw [hset k hkj] at hl
   exact getD_set_true (inv.closed k ok hk hl e he hb)
 ·intro t ht
  rw [hset t (by omega)]; exact inv.tail t ht
 ·rw [hdj.1]; simp [Act.put, inv.size]
 ·rw [hdj.1]; simpa [Act.put] using inv.defers
 ·intro i hin hl
  by_cases hij : i = j
  ·subst hij
   refine ⟨v, ?_, hv⟩
   rw [hdj.1]
   simp only [Act.put]
   rw [Array.getElem?_setIfInBounds_self, if_pos (by rw [inv.size]; exact hdj.2.1)]
  ·rw [hset i hij] at hl
   obtain ⟨u, h1, h2⟩ := inv.done i hin hl
   refine ⟨u, ?_, hmono _ _ h2⟩
   rw [hdj.1]
   simp only [Act.put]
   rw [Array.getElem?_setIfInBounds_ne (Ne.symm (hne i hin hij))]
   exact h1
 ·intro t B hlook hno
  have htj : D j ≠ t := hno j hjn (by
   have hlt : j < listed.size := by rw [inv.sz]; exact (List.getElem?_eq_some_iff.1 hj).1
   simp [hlt])
  obtain ⟨u, h1, h2⟩ := inv.base t B hlook (fun i hin hl => hno i hin (getD_set_true hl))
  refine ⟨u, ?_, hmono _ _ h2⟩
  rw [hdj.1]
  simp only [Act.put]
  rw [Array.getElem?_setIfInBounds_ne htj]
  exact h1
theorem DInv.end2 (inv : DInv E own s D A l n f listed a w) (hB : drawF l n f2 = true) (hn : n ≤ l.length) (hspec : ∀ k o, k < n → l[k]? = some o → o.dst = some (D k) ∧ D k < E.n ∧ Spec P E own l.toArray (stt s D A k) o (A k))
  (hall : ∀ i, i < n → listed.getD i false = true) : Rep E ⟨stt s D A n, own⟩ a w := by
 obtain ⟨hord, _⟩ := drawB_spec hB
 refine ⟨inv.size, inv.defers, fun t B hlook => ?_, inv.world.own, inv.world.apart, inv.world.free, inv.world.xold, inv.world.keep⟩
 by_cases hex : ∃ i, i < n ∧ D i = t
 ·obtain ⟨i, hin, hit⟩ := hex
  have hil : i < l.length := by omega
  have hoi : l[i]? = some l[i] := List.getElem?_eq_getElem hil
  have hdi := (hspec i _ (by omega) hoi).1
  have hl2 : look (stt s D A n) (D i) = some (A i) := look_stt_some n hin fun k hk1 hk2 hk3 => by
   have hkl : k < l.length := by omega
   have hok : l[k]? = some l[k] := List.getElem?_eq_getElem hkl
   have := (hord i k _ _ hk1 hoi hok).2.2 (by omega) (D i) hdi
   rw [(hspec k _ (by omega) hok).1] at this
   exact this (by rw [hk3])
  have hlook' : look (stt s D A n) t = some B := hlook
  rw [← hit, hl2] at hlook'
  cases hlook'
  rw [← hit]
  exact inv.done i hin (hall i hin)
 ·have hno : ∀ i, i < n → D i ≠ t := fun i h1 h2 => hex ⟨i, h1, h2⟩
  have hlook' : look (stt s D A n) t = some B := hlook
  rw [look_stt_none n hno] at hlook'
  exact inv.base t B hlook' fun i hin _ => hno i hin
def FreeRun {α : Type} (P : Program) (m : Sem α) : Prop := (∃ v, ∀ w, m.run P w = .ok v w) ∨ (∀ w v w1, m.run P w ≠ .ok v w1)
set_option maxHeartbeats 1000000 in
theorem freeRun_index (T : TypeId) (x i : Value) : FreeRun P (Instr.indexAt T x i) := by
 unfold FreeRun
 cases i with
 | int k n =>
  cases hu : P.underlying T with
  | none => right; intro w v w1 h; simp [Instr.indexAt, asIntOf, underlying, hu] at h
  | some d =>
   cases d with
   | slice elem =>
    cases x with
    | slice base len cap =>
     cases base with
     | none => right; intro w v w1 h; simp [Instr.indexAt, asIntOf, underlying, hu, boundsPanic] at h; (repeat' split at h) <;> simp [runtimePanic] at h
     | some a =>
      by_cases hb : 0 ≤ n ∧ n < (len : Int)
      ·cases hi : P.info? elem with
       | none => right; intro w v w1 h; simp [Instr.indexAt, asIntOf, underlying, hu, hb, sizeOf, typeInfo, hi] at h
       | some ii => left; exact ⟨_, fun w => by simp [Instr.indexAt, asIntOf, underlying, hu, hb, sizeOf, typeInfo, hi]; rfl⟩
      ·right; intro w v w1 h; simp [Instr.indexAt, asIntOf, underlying, hu, hb, boundsPanic] at h; (repeat' split at h) <;> simp [runtimePanic] at h
    | _ => right; intro w v w1 h; simp [Instr.indexAt, asIntOf, underlying, hu] at h
   | array len elem =>
    cases x with
    | pointer a =>
     cases a with
     | none => right; intro w v w1 h; simp [Instr.indexAt, asIntOf, underlying, hu, Instr.sureAddr] at h
     | some a =>
      by_cases hb : 0 ≤ n ∧ n < (len : Int)
      ·cases hi : P.info? elem with
       | none => right; intro w v w1 h; simp [Instr.indexAt, asIntOf, underlying, hu, hb, sizeOf, typeInfo, hi, Instr.sureAddr] at h
       | some ii => left; exact ⟨_, fun w => by simp [Instr.indexAt, asIntOf, underlying, hu, hb, sizeOf, typeInfo, hi, Instr.sureAddr]; rfl⟩
      ·right; intro w v w1 h
       by_cases ht : len ≤ 1
       ·simp [Instr.indexAt, asIntOf, underlying, hu, hb, boundsPanic, Instr.sureAddr, ht] at h
       ·simp [Instr.indexAt, asIntOf, underlying, hu, hb, boundsPanic, Instr.sureAddr, ht] at h; (repeat' split at h) <;> simp [runtimePanic] at h
    | _ => right; intro w v w1 h; simp [Instr.indexAt, asIntOf, underlying, hu, Instr.sureAddr] at h
   | _ => right; intro w v w1 h; simp [Instr.indexAt, asIntOf, underlying, hu] at h
 | pointer a => right; intro w v w1 h; cases a <;> simp [Instr.indexAt, asIntOf] at h
 | _ => right; intro w v w1 h; simp [Instr.indexAt, asIntOf] at h
def pureOp (o : Oper) : Bool := match o with
 | ⟨some _, .move _, _, _, _, none⟩ => true
 | ⟨some _, .assign _, _, _, _, none⟩ => true
 | ⟨some _, .extract _ _, _, _, _, none⟩ => true
 | ⟨some _, .indexAddr _ _ _, _, _, _, none⟩ => true
 | _ => false
def flB (l : List Oper) (n : Nat) (fl : List Nat) : Bool :=
 let ops := l.toArray
 (fl.all fun i => Nat.ble (i + 1) n && (match ops[i]? with
  | some oi => pureOp oi && ((List.range l.length).all fun j => Nat.beq j i || waits ops l.length i j || (match ops[j]? with
   | some oj => oj.after.any (fun e => Region.binds .any e && e.on == i) || oi.apart ops oj
   | none => true))
  | none => false)) &&
 ((List.range l.length).all fun j => !(Nat.ble n j) || ((List.range n).all fun i => fl.contains i || waits ops l.length j i))
theorem flB_spec {fl : List Nat} (h : flB l n fl = true) :
  (∀ i ∈ fl, i < n ∧ ∃ oi, l[i]? = some oi ∧ pureOp oi = true ∧ ∀ listed : Array Bool, listed.size = l.length → Closed l.toArray listed → i ∈ Region.ready .any l.toArray listed → Region.free .any l.toArray listed i = true) ∧
  (∀ j, n ≤ j → j < l.length → ∀ i, i < n → i ∉ fl → waits l.toArray l.length j i = true) := by
 unfold flB at h
 simp only [Bool.and_eq_true] at h
 obtain ⟨h1, h2⟩ := h
 refine ⟨fun i hi => ?_, fun j hj hjl i hin hfl => ?_⟩
 ·have h3 := List.all_eq_true.1 h1 i hi
  rw [Bool.and_eq_true] at h3
  refine ⟨Nat.le_of_ble_eq_true h3.1, ?_⟩
  have h4 := h3.2
  cases hoi : l.toArray[i]? with
  | none => rw [hoi] at h4; cases h4
  | some oi =>
   rw [hoi] at h4
   simp only [Bool.and_eq_true] at h4
   refine ⟨oi, by simpa using hoi, h4.1, fun listed hsz hcl hrd => ?_⟩
   unfold Region.free
   rw [hoi]
   simp only
   rw [List.all_eq_true]
   intro j hj
   have h5 := List.all_eq_true.1 h4.2 j (by simpa using hj)
   rw [Bool.or_eq_true, Bool.or_eq_true] at h5
   rcases h5 with (h5 | h5) | h5
   ·have := Nat.eq_of_beq_eq_true h5
    subst this; simp
   ·obtain ⟨_, oi', hoi', hall⟩ := mem_ready.1 hrd
    have hlj := waits_listed hcl _ i j h5 (fun o ho => by rw [hoi'] at ho; cases ho; exact hall)
    have hj' : j < listed.size := by rw [hsz]; simpa using hj
    rw [getD_tf hj', hlj]; simp
   ·cases hoj : l.toArray[j]? with
    | none => simp
    | some oj =>
     rw [hoj] at h5
     simp only at h5 ⊢
     rw [h5]; simp
 ·have h3 := List.all_eq_true.1 h2 j (List.mem_range.2 hjl)
  rw [Nat.ble_eq_true_of_le hj] at h3
  simp only [Bool.not_true, Bool.false_or] at h3
  have h4 := List.all_eq_true.1 h3 i (List.mem_range.2 hin)
  rw [Bool.or_eq_true] at h4
  rcases h4 with h4 | h4
  ·exact absurd (by simpa using h4) hfl
  ·exact h4
theorem pure_yields {o : Oper} {d : Nat} {A : AV} {s : List (Nat × AV)} {ops : Array Oper} (hd : o.dst = some d) (hp : pureOp o = true) (ok : OpOK P E s own o A) (r : OpR E s own o a w) (hlt : d < a.tmps.size) :
  ∃ v, Yields P ops o v a ∧ A.holds w.heap (OO E own) v := by
 have key := ok a w r (fun a' w' => ∃ v, a'.tmps[d]? = some v ∧ A.holds w'.heap (OO E own) v) (fun _ _ _ => False) (fun v w' g hh => ⟨v, by
  rw [hd]
  simp only [Act.put]
  rw [Array.getElem?_setIfInBounds_self, if_pos hlt], hh⟩)
 have fin : ∀ v, (∀ w', (execOp a.eval o).run P w' = .ok (.value v) w') → Region.wanted o (yielded ops a.tmps) = true → ∃ v, Yields P ops o v a ∧ A.holds w.heap (OO E own) v := by
  intro v hv hw
  unfold Oper.wp at key
  rw [hv, Oper.upon_value] at key
  obtain ⟨u, h1, h2⟩ := key
  rw [hd] at h1
  simp only [Act.put] at h1
  rw [Array.getElem?_setIfInBounds_self, if_pos hlt] at h1
  cases h1
  exact ⟨v, .inl ⟨hw, hv⟩, h2⟩
 rcases o with ⟨dst, op, ty, pos, af, g⟩
 cases hd
 cases op <;> cases g <;> simp [pureOp] at hp
 ·rename_i x
  exact fin (a.eval x) (fun w' => by simp [execOp]) (by simp [Region.wanted])
 ·rename_i x
  exact fin (a.eval x) (fun w' => by simp [execOp]) (by simp [Region.wanted])
 ·rename_i T x i
  rcases freeRun_index (P := P) T (a.eval x) (a.eval i) with ⟨v, hv⟩ | hno
  ·exact fin v (fun w' => by simp [execOp, hv]) (by simp [Region.wanted])
  ·exfalso
   unfold Oper.wp at key
   have hrun : ∀ n w', (execOp a.eval ⟨some d, .indexAddr T x i, ty, pos, af, none⟩).run P w ≠ .ok n w' := by
    intro n w' h
    cases hr : (Instr.indexAt T (a.eval x) (a.eval i)).run P w with
    | ok v w1 => exact hno w v w1 hr
    | halt y w1 => simp [execOp, hr] at h
   generalize (execOp a.eval ⟨some d, .indexAddr T x i, ty, pos, af, none⟩).run P w = r at key hrun
   cases r with
   | ok n w' => exact hrun n w' rfl
   | halt y w' => cases y <;> simp [Oper.upon] at key
 ·rename_i x i
  cases hx : a.eval x <;> try (exfalso; simp [Oper.wp, execOp, Instr.extract, hx, Oper.upon] at key; done)
  rename_i vs
  by_cases hi : i < vs.size
  ·exact fin vs[i] (fun w' => by simp [execOp, Instr.extract, hx, hi]) (by simp [Region.wanted])
  ·exfalso
   simp [Oper.wp, execOp, Instr.extract, hx, hi, Oper.upon] at key
theorem draw_go2 {Q : Exit → Act → World → Prop} {g : Nat} {fl : List Nat} (hB : drawF l n f2 = true) (hF : flB l n fl = true) (hsel : Region.noSelect l.toArray = true) (hQ : ∀ c a w (d : Nat) v, Q (.panic c) (a.put (some d) v) w → Q (.panic c) a w)
  (hn : n ≤ l.length) (hspec : ∀ k o, k < n → l[k]? = some o → o.dst = some (D k) ∧ D k < E.n ∧ Spec P E own l.toArray (stt s D A k) o (A k))
  (I : Act → World → Prop) (hI : ∀ (j : Nat) (oj : Oper) (v : Value) (a : Act) (w w' : World), j < n → l[j]? = some oj → Grow w w' → I a w → I (a.put oj.dst v) w') (hend : ∀ listed a w, I a w → DInv E own s D A l n 0 listed a w → (∀ i, i < n → listed.getD i false = true) → wpAny P .any l.toArray Q g listed a w) :
  ∀ (c : Nat) (listed : Array Bool) (a : Act) (w : World), ((List.range n).filter fun i => !(listed.getD i false)).length = c → I a w → DInv E own s D A l n 0 listed a w →
   wpAny P .any l.toArray Q (c + g) listed a w
 | 0, listed, a, w, hc, hgr, inv => by
  rw [Nat.zero_add]
  refine hend listed a w hgr inv fun i hi => ?_
  have hnil := List.eq_nil_of_length_eq_zero hc
  have := List.filter_eq_nil_iff.1 hnil i (List.mem_range.2 hi)
  simpa using this
 | c + 1, listed, a, w, hc, hgr, inv => by
  obtain ⟨hord, hlow⟩ := drawB_spec hB
  obtain ⟨hfl1, hfl2⟩ := flB_spec hF
  have hex : ∃ j, j < n ∧ listed.getD j false = false := by
   cases hl : (List.range n).filter fun i => !(listed.getD i false) with
   | nil => rw [hl] at hc; simp at hc
   | cons j r =>
    have : j ∈ (List.range n).filter fun i => !(listed.getD i false) := by rw [hl]; simp
    simp only [List.mem_filter, List.mem_range] at this
    exact ⟨j, this.1, by simpa using this.2⟩
  have hleast : ∃ k, k < n ∧ listed.getD k false = false ∧ ∀ i, i < k → listed.getD i false = true := by
   obtain ⟨j, hj1, hj2⟩ := hex
   clear hc
   induction j using Nat.strongRecOn with
   | _ j ih =>
    by_cases h : ∀ i, i < j → listed.getD i false = true
    ·exact ⟨j, hj1, hj2, h⟩
    ·simp only [Classical.not_forall] at h
     obtain ⟨i, h1, h2⟩ := h
     exact ih i h1 (by omega) (by simpa using h2)
  have hrdy : ∀ k, k < n → listed.getD k false = false → (∀ i, i < k → listed.getD i false = true) → k ∈ Region.ready .any l.toArray listed := by
   intro k hk1 hk2 hk3
   have hkl : k < l.length := by omega
   have hok : l[k]? = some l[k] := List.getElem?_eq_getElem hkl
   exact mem_ready.2 ⟨by rw [getD_tf (by rw [inv.sz]; exact hkl)]; exact hk2, l[k], by simp [hok], fun e he hb => hk3 _ (hlow k _ hok e he hb)⟩
  have hready : Region.ready .any l.toArray listed ≠ [] := by
   obtain ⟨k, hk1, hk2, hk3⟩ := hleast
   intro h0
   have := hrdy k hk1 hk2 hk3
   rw [h0] at this; cases this
  rw [show c + 1 + g = (c + g) + 1 by omega]
  have each : ∀ j, j ∈ Region.ready .any l.toArray listed → j < n → ∃ oj, l[j]? = some oj ∧ OpR E (stt s D A j) own oj a w ∧
    (∀ v w', Grow w w' → (A j).holds w'.heap (OO E own) v → wpAny P .any l.toArray Q (c + g) (listed.setIfInBounds j true) (a.put oj.dst v) w') ∧ listed.getD j false = false ∧
    (∀ e ∈ oj.after, Region.binds .any e = true → listed.getD e.on false = true) := by
   intro j hj hjn
   obtain ⟨hun', oj, hoj', hall⟩ := mem_ready.1 hj
   have hoj : l[j]? = some oj := by simpa using hoj'
   have hjl : j < l.length := (List.getElem?_eq_some_iff.1 hoj).1
   have hun : listed.getD j false = false := by rw [← getD_tf (by rw [inv.sz]; exact hjl)]; exact hun'
   have hcount : ((List.range n).filter fun i => !((listed.setIfInBounds j true).getD i false)).length = c := by
    have key : ∀ m, m ≤ n → ((List.range m).filter fun i => !((listed.setIfInBounds j true).getD i false)).length + (if j < m then 1 else 0) = ((List.range m).filter fun i => !(listed.getD i false)).length := by
     intro m
     induction m with
     | zero => intro _; simp
     | succ m ih =>
      intro hm
      have := ih (by omega)
      rw [List.range_succ, List.filter_append, List.filter_append, List.length_append, List.length_append]
      by_cases hmj : m = j
      ·subst hmj
       have h1 : (listed.setIfInBounds m true).getD m false = true := by simp [inv.sz, hjl]
       rw [if_neg (by omega)] at this
       simp only [List.filter_cons, h1, hun, List.filter_nil]
       simp at this ⊢
       omega
      ·have e0 : (listed.setIfInBounds j true).getD m false = listed.getD m false := getD_set_ne false (fun h => hmj h.symm)
       have e1 : (if j < m + 1 then 1 else 0) = (if j < m then 1 else 0 : Nat) := by
        by_cases hjm : j < m
        ·have : j < m + 1 := by omega
         simp [hjm, this]
        ·have : ¬ j < m + 1 := by omega
         simp [hjm, this]
       rw [e1, List.filter_cons, List.filter_cons, e0]
       simp only [List.filter_nil]
       omega
    have := key n (Nat.le_refl _)
    rw [if_pos hjn, hc] at this
    omega
   have hopR : OpR E (stt s D A j) own oj a w := ⟨inv.world, fun x hx B hB' => by
    cases x with
    | tmp t =>
     have ht : t ∈ namesOf l.toArray oj := by
      unfold namesOf
      refine List.mem_append_left _ (List.mem_append_right _ ?_)
      exact List.mem_filterMap.2 ⟨.tmp t, by simpa using hx, rfl⟩
     obtain ⟨v, h1, h2⟩ := inv.slot2 hn hB hspec hoj hjn hun hall ht hB'
     show B.holds _ _ (a.tmps.getD t undef)
     rw [Array.getD_eq_getD_getElem?, h1]
     exact h2
    | const v => simp only [opd, Option.some.injEq] at hB'; subst hB'; rfl
    | global g => simp only [opd, Option.some.injEq] at hB'; subst hB'; rfl
    | func f => simp only [opd, Option.some.injEq] at hB'; subst hB'; rfl⟩
   exact ⟨oj, hoj, hopR, fun v w' gr hv => draw_go2 hB hF hsel hQ hn hspec I hI hend c _ _ _ hcount (hI j oj v a w w' hjn hoj gr hgr) (inv.step2 hB hn hspec hoj hjn hall gr hv), hun, hall⟩
  by_cases hfl : ∃ i ∈ fl, i ∈ Region.ready .any l.toArray listed
  ·obtain ⟨i, hi1, hi2⟩ := hfl
   obtain ⟨hin, oi, hoi, hpure, hfree⟩ := hfl1 i hi1
   obtain ⟨oj, hoj, hopR, hnext, _, _⟩ := each i hi2 hin
   rw [hoi] at hoj; cases hoj
   obtain ⟨hd1, hd2, hsp⟩ := hspec i oi hin hoi
   have hgd : oi.guard = none := by
    rcases oi with ⟨dst, op, ty, pos, af, g⟩
    cases dst <;> cases op <;> cases g <;> simp [pureOp] at hpure <;> rfl
   unfold Spec at hsp
   rw [hgd] at hsp
   obtain ⟨v, hy, hv⟩ := pure_yields (ops := l.toArray) hd1 hpure hsp hopR (by rw [inv.size]; exact hd2)
   exact wpAny_take (by simpa using hoi) hsel (hfree listed inv.sz inv.closed hi2) (by simpa using hi2) (fun c a w h => by rw [hd1] at h; exact hQ c a w _ _ h) hy (hnext v w (Grow.refl w) hv)
  ·refine ⟨fun h0 => absurd h0 hready, fun j hj => ?_⟩
   have hjn : j < n := by
    rcases Nat.lt_or_ge j n with h | h
    ·exact h
    ·exfalso
     obtain ⟨hun', oj, hoj', hall⟩ := mem_ready.1 hj
     have hoj : l[j]? = some oj := by simpa using hoj'
     have hjl : j < l.length := (List.getElem?_eq_some_iff.1 hoj).1
     obtain ⟨k, hk1, hk2, hk3⟩ := hleast
     by_cases hkf : k ∈ fl
     ·exact hfl ⟨k, hkf, hrdy k hk1 hk2 hk3⟩
     ·have hw := hfl2 j h hjl k hk1 hkf
      have := waits_listed inv.closed _ j k hw (fun oj' h' => by
       have : oj' = oj := by simp only [List.getElem?_toArray] at h'; rw [hoj] at h'; exact (Option.some.inj h').symm
       subst this; exact hall)
      rw [hk2] at this; cases this
   obtain ⟨oj, hoj, hopR, hnext, hun, hall⟩ := each j hj hjn
   have hoj' : l.toArray[j]? = some oj := by simpa using hoj
   obtain ⟨hd1, hd2, hsp⟩ := hspec j oj hjn hoj
   unfold wpOp
   rw [hoj']
   dsimp only
   unfold Spec at hsp
   split at hsp
   ·rename_i hgd
    rw [if_pos (by simp [Region.wanted, hgd])]
    exact .inl (hsp a w hopR _ _ hnext)
   ·rename_i jg want hgd
    obtain ⟨dj, gg, h1, h2, h3⟩ := hsp
    have hname : dj ∈ namesOf l.toArray oj := by
     unfold namesOf
     refine List.mem_append_right _ ?_
     rw [hgd]
     simp only [h1]
     simp
    obtain ⟨v, hv1, hv2⟩ := inv.slot2 hn hB hspec hoj hjn hun hall hname h2
    have hy : yielded l.toArray a.tmps jg = gg := yield_of h1 hv1 hv2
    rcases h3 with ⟨h4, h5⟩ | ⟨h4, h5⟩
    ·rw [if_pos (by simp [Region.wanted, hgd, hy, h4])]
     exact .inl (h5 a w hopR _ _ hnext)
    ·rw [if_neg (by simp [Region.wanted, hgd, hy, h4])]
     exact hnext undef w (Grow.refl w) (h5.holds _ _)
end draws2
section drawsV
variable {P : Program} {E : Env}
def agreeOff (ds : List Nat) (a0 a : Act) : Prop := ∀ i, i ∉ ds → a.tmps[i]? = a0.tmps[i]?
theorem put_tmps (a : Act) (d : Option Nat) (v : Value) (i : Nat) (h : d ≠ some i) : (a.put d v).tmps[i]? = a.tmps[i]? := by
 cases d with
 | none => rfl
 | some d =>
  simp only [Act.put]
  rw [Array.getElem?_setIfInBounds_ne (fun e => h (by rw [e]))]
theorem wp_fr {o : Oper} {a : Act} {w : World} {K K' : Act → World → Prop} {Q Q' : Exit → Act → World → Prop} (hk : ∀ a' w', (∀ i, o.dst ≠ some i → a'.tmps[i]? = a.tmps[i]?) → K a' w' → K' a' w') (hq : ∀ c a w, Q (.panic c) a w → Q' (.panic c) a w) (hl : LetsOut Q → LetsOut Q')
  (h : o.wp P a w K Q) : o.wp P a w K' Q' := by
 unfold Oper.wp at *
 generalize (execOp a.eval o).run P w = r at *
 cases r with
 | ok n w' =>
  cases n <;> simp only [Oper.upon] at h ⊢
  case value v => exact hk _ _ (fun i hi => put_tmps a _ v i hi) h
  case skip => exact hk _ _ (fun i hi => put_tmps a _ _ i hi) h
  case defer d => exact hk _ _ (fun i hi => put_tmps _ _ _ i hi) h
  case enter f args =>
   refine Calls.mono h fun e w'' he => ?_
   cases e with
   | returned u => exact hk _ _ (fun i hi => put_tmps a _ u i hi) he
   | panicked c => exact hq _ _ _ he
   | outgrown => exact hl he
  case row row args => exact Rows.mono h fun u w'' he => hk _ _ (fun i hi => put_tmps a _ u i hi) he
 | halt x w' =>
  cases x <;> simp only [Oper.upon] at h ⊢
  case panic u => exact hq _ _ _ h
theorem wpOp_fr {ops : Array Oper} {i : Nat} {a : Act} {w : World} {K K' : Act → World → Prop} {Q Q' : Exit → Act → World → Prop} (hk : ∀ a' w', (∀ d, (∀ o, ops[i]? = some o → o.dst ≠ some d) → a'.tmps[d]? = a.tmps[d]?) → K a' w' → K' a' w') (hq : ∀ c a w, Q (.panic c) a w → Q' (.panic c) a w) (hl : LetsOut Q → LetsOut Q')
  (h : wpOp P ops Q i K a w) : wpOp P ops Q' i K' a w := by
 unfold wpOp at *
 cases ho : ops[i]? with
 | none => rw [ho] at h; exact hk _ _ (fun _ _ => rfl) h
 | some o =>
  rw [ho] at h
  simp only at h ⊢
  have hk2 : ∀ a' w', (∀ d, o.dst ≠ some d → a'.tmps[d]? = a.tmps[d]?) → K a' w' → K' a' w' := fun a' w' h1 h2 => hk a' w' (fun d hd => h1 d (hd o ho)) h2
  split
  ·rename_i hw
   rw [if_pos hw] at h
   rcases h with h | ⟨h1, h2⟩
   ·exact .inl (wp_fr hk2 hq hl h)
   ·exact .inr ⟨h1, hl h2⟩
  ·rename_i hw
   rw [if_neg hw] at h
   exact hk2 _ _ (fun d hd => put_tmps a _ _ d hd) h
theorem DW.mono {ops : Array Oper} {own : List Own} : ∀ {l : List Oper} {s : List (Nat × AV)} {K K' : List (Nat × AV) → Prop}, DW P E own ops l s K → (∀ s, K s → K' s) → DW P E own ops l s K'
 | [], _, _, _, h, hk => hk _ h
 | _ :: _, _, _, _, ⟨d, A, h1, h2, h3, h4⟩, hk => ⟨d, A, h1, h2, h3, DW.mono h4 hk⟩
def Env.re (E : Env) (w : World) (own : List Own) : Env := ⟨w, E.X, fun b => ∃ o ∈ own, o.has b, E.n, E.ds⟩
theorem Rep.re {st : St} {a : Act} {w : World} (r : Rep E st a w) : Rep (E.re w st.own) st a w :=
 ⟨r.size, r.defers, r.slots, r.own, r.apart, fun o ho b hb => ⟨(r.free o ho b hb).1, .inr ⟨o, ho, hb⟩⟩, fun b hb => Nat.lt_of_lt_of_le (r.xold b hb) r.keep.size, Keeps.refl _ _⟩
theorem Keeps.re {st : St} {a : Act} {w w' : World} (r : Rep E st a w) (k : Keeps (E.re w st.own).M w w') : Keeps E.M E.w0 w' := by
 refine ⟨k.os.trans r.keep.os, k.tape.trans r.keep.tape, k.output.trans r.keep.output, Nat.le_trans r.keep.size k.size, fun b hb hm => ?_⟩
 rw [k.block b (Nat.lt_of_lt_of_le hb r.keep.size) ?_, r.keep.block b hb hm]
 rintro ⟨o, ho, hob⟩
 rcases (r.free o ho b hob).2 with h | h
 ·omega
 ·exact hm h
def offB (ds : List Nat) (old : List (Nat × AV)) : Bool := old.all fun p => !(ds.contains p.1)
theorem look_off {ds : List Nat} : ∀ {old : List (Nat × AV)}, offB ds old = true → ∀ {i : Nat} {A : AV}, look old i = some A → i ∉ ds
 | [], _, i, A, h => by cases h
 | (j, B) :: r, hB, i, A, h => by
  unfold offB at hB
  rw [List.all_cons, Bool.and_eq_true] at hB
  unfold Cw.look at h
  cases hb : Nat.beq j i with
  | true =>
   have := Nat.eq_of_beq_eq_true hb
   subst this
   simpa using hB.1
  | false => rw [hb] at h; exact look_off (old := r) hB.2 h
theorem look_append (T s : List (Nat × AV)) (i : Nat) : look (T ++ s) i = (look T i).or (look s i) := by
 induction T with
 | nil => simp [look]
 | cons p T ih =>
  obtain ⟨j, B⟩ := p
  show (bif Nat.beq j i then some B else look (T ++ s) i) = _
  show _ = ((bif Nat.beq j i then some B else look T i)).or (look s i)
  cases Nat.beq j i <;> simp [ih]
def dstsOf (l : List Oper) : List Nat := l.filterMap (·.dst)
theorem Own.later {st : St} {a : Act} {w w' : World} (r : Rep E st a w) (g : Grow w w') {news : List Own} (hnew : ∀ o ∈ news, ∀ b, o.has b → w.heap.size ≤ b) :
  (∀ o ∈ st.own, o.holds w'.heap (OO E (news ++ st.own))) ∧ (∀ i A, look st.slots i = some A → ∃ v, a.tmps[i]? = some v ∧ A.holds w'.heap (OO E (news ++ st.own)) v) := by
 have hO : ∀ b, b < w.heap.size → OO E (news ++ st.own) b → OO E st.own b := by
  rintro b hb (h | ⟨o, ho, hob⟩)
  ·exact .inl h
  ·rcases List.mem_append.1 ho with ho | ho
   ·have := hnew o ho b hob; omega
   ·exact .inr ⟨o, ho, hob⟩
 refine ⟨fun o ho => o.mono _ _ _ _ (r.own o ho) g.size (fun b hb _ => g.block b hb) hO, fun i A hi => ?_⟩
 obtain ⟨v, h1, h2⟩ := r.slots i A hi
 exact ⟨v, h1, A.mono _ _ _ _ _ h2 g.size (fun b hb _ => g.block b hb) hO⟩
end drawsV
section
variable {P : Program} {E : Env} {st : St} {Q : Exit → Act → World → Prop} {s : List (Nat × AV)} {own : List Own}
variable {d : Nat} {ty : TypeId} {pos : String} {af : Array Edge} {g : Option (Nat × Bool)}
end
section
variable {P : Program} {E : Env} {st : St} {Q : Exit → Act → World → Prop} {ops : Array Oper} {rest : List Oper} {s : List (Nat × AV)} {own : List Own}
variable {d : Nat} {ty : TypeId} {pos : String} {af : Array Edge} {g : Option (Nat × Bool)}
def NewVec {α : Type} (w : World) (O : Nat → Prop) (e : TypeId) (sz : Nat) (agg : Bool) (enc : α → AV) (xs : List α) (v : Value) (w' : World) : Prop :=
 ∃ r cap, v = vec r xs.length cap ∧ (oVec r cap e sz agg enc xs).holds w'.heap (fun b => O b ∨ r = some b) ∧ (∀ b, r = some b → w.heap.size ≤ b) ∧ Grow w w'
def CtrN {α : Type} (P : Program) (f : FuncId) (As : List AV) (e : TypeId) (sz : Nat) (agg : Bool) (enc : α → AV) (xs : List α) : Prop :=
 (∀ args w, (callFunc f args).run P w = .ok (.enter f args) w) ∧
 ∀ (w : World) (O : Nat → Prop) (vs : List Value), (∀ b, O b → b < w.heap.size) → HoldsAll As w.heap O vs →
  Calls P f vs.toArray w (fun en w' => ∃ v, en = .returned v ∧ NewVec w O e sz agg enc xs v w')
theorem CtrN.ctr {α : Type} {f : FuncId} {As : List AV} {e : TypeId} {sz : Nat} {agg : Bool} {enc : α → AV} {xs : List α} (c : CtrN P f As e sz agg enc xs) : Ctr P f As (aSl sz agg enc xs) :=
 ⟨c.1, fun w O vs hO ha => (c.2 w O vs hO ha).mono fun _ _ ⟨v, h1, r, cap, h2, h3, h4, h5⟩ => ⟨v, h1, by
  rw [h2]
  exact vec_sl h3 (fun _ hb => .inl hb) (fun b hb hO' => by have := h4 b hb; have := hO b hO'; omega), h5⟩⟩
end
section
variable {P : Program} {E : Env} {s : List (Nat × AV)} {own : List Own}
variable {d : Nat} {ty : TypeId} {pos : String} {af : Array Edge} {g : Option (Nat × Bool)}
theorem ok_buildNF {α : Type} {T e : TypeId} {bytes : Nat} {z : Value} {n : Nat} {parts : List (Nat × Operand)} (enc : α → AV) (ys : List α) (ht : VecTy P T e 1 bytes false z) (hn : n ≤ 1000000) (hn0 : Nat.beq n 0 = false)
  (hf : FillOK s ((List.range n).map fun i => (i, 1)) parts (List.replicate n aAny) (ys.map enc)) (hl : ys.length = n) (hpl : ∀ p ∈ parts, p.1 < n := by decide) (hops : ∀ p ∈ parts, p.2 ∈ (Op.buildSlice T n parts.toArray).operands := by simp [Op.operands]) :
  OpOK P E s own ⟨some d, .buildSlice T n parts.toArray, ty, pos, af, g⟩ (aFull 1 false enc ys) := by
 intro a w r K Q hK
 obtain ⟨ii, i1, i2, i3, i4⟩ := ht.info
 have hinit : CellsHold w.heap (OO E own) (List.replicate n aAny) (List.replicate n (z.cells[0 % z.cells.size]!)) := ⟨by simp, fun i A c hA hc => by
  rw [List.getElem?_replicate] at hA
  split at hA
  ·cases hA; exact trivial
  ·cases hA⟩
 obtain ⟨cs', e1, e2⟩ := fill_ok (h := w.heap) (O := OO E own) (a := a) parts _ _ _ hf (fun x hx B hB => by
  first
   | exact r.ev x hx B hB
   | (obtain ⟨p, hp, rfl⟩ := hx; exact r.ev p.2 (hops p hp) B hB)
   | (obtain ⟨p, hp, rfl⟩ := List.mem_map.1 hx; exact r.ev p.2 (hops p hp) B hB)) hinit
 have hzs : z.cells.size = 1 := ht.zs
 have hn1 : n ≠ 0 := fun h => by rw [h] at hn0; cases hn0
 have hcells : ((Array.range (n * 1)).map (z.cells[· % z.cells.size]!)) = (List.replicate n (z.cells[0 % z.cells.size]!)).toArray := by
  apply Array.ext
  ·simp
  ·intro i h1 h2
   simp [hzs, Nat.mod_one]
 have hfill : Instr.fill (fun i => some (i * 1, 1)) ((Array.range (n * 1)).map (z.cells[· % z.cells.size]!)) (parts.map fun p => (p.1, a.eval p.2)) = some cs'.toArray := by
  rw [hcells, ← e1]
  refine fill_congr _ _ fun p hp => ?_
  obtain ⟨q, hq, rfl⟩ := List.mem_map.1 hp
  have := hpl q hq
  simp [this]
 have hlen : cs'.length = n := by rw [e2.1]; simp [hl]
 have gr := Grow.alloc w (.cells cs'.toArray e)
 have hbig : ¬ (16777216 < n) := by omega
 have hrun : (execOp a.eval ⟨some d, .buildSlice T n parts.toArray, ty, pos, af, g⟩).run P w = .ok (.value (.slice (some ⟨w.heap.size, 0, none⟩) n n)) (w.alloc (.cells cs'.toArray e)) := by
  simp only [Nat.mul_one] at hfill
  simp [execOp, Instr.buildSlice, run_underlying ht.und, ht.sl.size, zeroValue, typeInfo, i1, i2, newRow, hbig, hn1, hfill]
 unfold Oper.wp
 rw [hrun, Oper.upon_value]
 refine hK _ _ gr ⟨⟨_, by rw [hl]⟩, some ⟨w.heap.size, 0, none⟩, n, by rw [hl], by rw [hl]; exact Nat.le_refl _, by simp only [maxLen]; omega, fun _ => rfl, fun i y hy => ?_⟩
 have hi : i < ys.length := (List.getElem?_eq_some_iff.1 hy).1
 have hic : i < cs'.length := by omega
 have hA := e2.2 i (enc y) cs'[i] (by rw [List.getElem?_map, hy]; rfl) (List.getElem?_eq_getElem hic)
 refine ⟨w.heap.size, 0, [cs'[i]], rfl, rfl, ⟨fun hO => absurd (r.lt _ hO) (by omega), cs'.toArray, e, (0, 0), heap_alloc_new w _, fun j u hu => ?_⟩, ?_⟩
 ·match j, hu with
  | 0, hu =>
   simp only [List.getElem?_cons_zero, Option.some.injEq] at hu
   subst hu
   simp [hic]
  | j + 1, hu => simp at hu
 ·exact (enc y).mono _ _ _ _ _ hA gr.size (fun b hb _ => gr.block b hb) (fun _ _ h => h)
end
section
variable {P : Program} {E : Env} {st : St} {own : List Own}
end
end Go.Cw
