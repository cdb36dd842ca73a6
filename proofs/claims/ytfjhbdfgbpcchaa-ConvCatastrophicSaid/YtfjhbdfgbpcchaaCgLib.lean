/-
  Rules of a calculus for walks.
-/
import Derived.Test.YtfjhbdfgbpcchaaCzLib
import Derived.Lib.AppendZeros
set_option linter.unnecessarySimpa false
namespace Go.Cw
set_option linter.unusedSimpArgs false
set_option linter.unusedVariables false
section
variable {P : Program} {E : Env} {st : St} {Q : Exit → Act → World → Prop} {ops : Array Oper} {rest : List Oper} {s : List (Nat × AV)} {own : List Own}
variable {d : Nat} {ty : TypeId} {pos : String} {af : Array Edge} {g : Option (Nat × Bool)}
theorem ok_cutTo0 {T El : TypeId} {x hi : Operand} {sz n cap : Nat} {p : Option Addr} (hs : SlInfo P T El sz) (hx : opd s x = some (aEx (.slice p n cap))) (hp : ∀ a, p = some a → a.off = 0 ∧ a.spot = none) (hh : opd s hi = some (aInt ((0 : Nat) : Int))) :
  OpOK P E s own ⟨some d, .slice T x none (some hi) none, ty, pos, af, g⟩ (aEx (.slice p 0 cap)) :=
 ok_val (fun a w r => by
  have g1 : a.eval x = .slice p n cap := r.ex hx (by simp [Op.operands])
  have g2 : a.eval hi = .int .i64 0 := r.ex hh (by simp [Op.operands])
  have hbl : (Instr.sliceBounds true n cap none (some (a.eval hi)) none).run P w = .ok (0, 0, cap) w := by
   simp [Instr.sliceBounds, g2, Instr.sliceBound, asIntOf]
  have hpp : (p.map fun a => a.add 0) = p := by
   cases p with
   | none => rfl
   | some q => obtain ⟨b, o, t⟩ := q; obtain ⟨h1, h2⟩ := hp _ rfl; simp only at h1 h2; subst h1 h2; simp [addr_add]
  refine ⟨.slice p 0 cap, ?_, rfl⟩
  by_cases hc : cap = 0
  ·subst hc; simp [execOp, g1, Instr.sliceAt, Instr.slice, hs.und, hs.size, hbl]
  ·simp [execOp, g1, Instr.sliceAt, Instr.slice, hs.und, hs.size, hbl, hc, hpp])
theorem ok_cutNil {T El : TypeId} {x hi : Operand} {sz : Nat} (hs : SlInfo P T El sz) (hx : opd s x = some (aEx (vec none 0 0))) (hh : opd s hi = some (aInt ((0 : Nat) : Int))) :
  OpOK P E s own ⟨some d, .slice T x none (some hi) none, ty, pos, af, g⟩ (aEx (vec none 0 0)) :=
 ok_cutTo0 hs hx (fun a h => by cases h) hh
end
section
variable {P : Program} {E : Env} {st : St} {Q : Exit → Act → World → Prop} {ops : Array Oper} {rest : List Oper} {s : List (Nat × AV)} {own : List Own}
variable {d : Nat} {ty : TypeId} {pos : String} {af : Array Edge} {g : Option (Nat × Bool)}
end
section drawsS
variable {P : Program} {E : Env} {own : List Own}
variable {s : List (Nat × AV)} {D : Nat → Nat} {A : Nat → AV} {l : List Oper} {n f f2 : Nat} {listed : Array Bool} {a : Act} {w : World}
theorem DInv.slot4 (inv : DInv E own s D A l n f listed a w) (hn : n ≤ l.length) (hB : drawF l n f2 = true) (hspec : ∀ k o, k < n → l[k]? = some o → o.dst = some (D k) ∧ D k < E.n)
  {j : Nat} {oj : Oper} (hj : l[j]? = some oj) (hjn : j < n) (hun : listed.getD j false = false)
  (hr : ∀ e ∈ oj.after, Region.binds .any e = true → listed.getD e.on false = true) {t : Nat} (ht : t ∈ namesOf l.toArray oj) {B : AV} (hlook : look (stt s D A j) t = some B) :
  ∃ v, a.tmps[t]? = some v ∧ B.holds w.heap (OO E own) v := by
 obtain ⟨hord, _⟩ := drawB_spec hB
 by_cases hex : ∃ i, i < j ∧ D i = t
 ·obtain ⟨i, hij, hit⟩ := hex
  have hil : i < l.length := by omega
  have hoi : l[i]? = some l[i] := List.getElem?_eq_getElem hil
  have hdi := (hspec i _ (by omega) hoi).1
  have hw := ((hord i j _ _ hij hoi hj).1.1 (D i) hdi (by rw [hit]; exact ht))
  have hli : listed.getD i false = true := waits_listed inv.closed _ j i hw (fun oj' h' => by
   have : oj' = oj := by simp only [List.getElem?_toArray] at h'; rw [hj] at h'; exact (Option.some.inj h').symm
   subst this; exact hr)
  have hl2 : look (stt s D A j) (D i) = some (A i) := look_stt_some j hij fun k hk1 hk2 hk3 => by
   have hkl : k < l.length := by omega
   have hok : l[k]? = some l[k] := List.getElem?_eq_getElem hkl
   have := (hord i k _ _ hk1 hoi hok).2.2 (by omega) (D i) hdi
   rw [(hspec k _ (by omega) hok).1] at this
   exact this (by rw [hk3])
  rw [hit, hlook] at hl2
  cases hl2
  rw [← hit]
  exact inv.done i (by omega) hli
 ·have hno : ∀ i, i < j → D i ≠ t := fun i h1 h2 => hex ⟨i, h1, h2⟩
  rw [look_stt_none j hno] at hlook
  refine inv.base t B hlook fun i hin hil hit => ?_
  rcases Nat.lt_trichotomy i j with h | h | h
  ·exact hno i h hit
  ·subst h; rw [hun] at hil; cases hil
  ·have hill : i < l.length := by omega
   have hoi : l[i]? = some l[i] := List.getElem?_eq_getElem hill
   have hw := (hord j i _ _ h hj hoi).1.2 (D i) (hspec i _ hin hoi).1 (by rw [hit]; exact ht)
   have := waits_listed inv.closed _ i j hw (fun oi' h' => inv.closed i oi' h' hil)
   rw [hun] at this; cases this
theorem DInv.step4 (inv : DInv E own s D A l n f listed a w) (hB : drawF l n f2 = true) (hn : n ≤ l.length) (hspec : ∀ k o, k < n → l[k]? = some o → o.dst = some (D k) ∧ D k < E.n)
  {j : Nat} {oj : Oper} (hj : l[j]? = some oj) (hjn : j < n)
  (hr : ∀ e ∈ oj.after, Region.binds .any e = true → listed.getD e.on false = true) {v : Value} {w' : World} (g : Grow w w') (hv : (A j).holds w'.heap (OO E own) v) :
  DInv E own s D A l n f (listed.setIfInBounds j true) (a.put oj.dst v) w' := by
 obtain ⟨hord, _⟩ := drawB_spec hB
 have hdj := (hspec j oj hjn hj)
 have hset : ∀ i, i ≠ j → (listed.setIfInBounds j true).getD i false = listed.getD i false := fun i hi => getD_set_ne false (Ne.symm hi)
 have hmono : ∀ (B : AV) u, B.holds w.heap (OO E own) u → B.holds w'.heap (OO E own) u := fun B u h => B.mono _ _ _ _ _ h g.size (fun b hb _ => g.block b hb) (fun _ _ h => h)
 have hne : ∀ i, i < n → i ≠ j → D i ≠ D j := fun i hin hij he => by
  have hill : i < l.length := by omega
  have hoi : l[i]? = some l[i] := List.getElem?_eq_getElem hill
  rcases Nat.lt_or_gt_of_ne hij with h | h
  ·have := (hord i j _ _ h hoi hj).2.2 hjn (D i) (hspec i _ hin hoi).1
   rw [hdj.1] at this; exact this (by rw [he])
  ·have := (hord j i _ _ h hj hoi).2.2 hin (D j) hdj.1
   rw [(hspec i _ hin hoi).1] at this; exact this (by rw [he])
 refine ⟨by simp [inv.sz], fun i hi => getD_set_true (inv.fl i hi), ?_, ?_, inv.world.grow g, ?_, ?_, ?_, ?_⟩
 ·intro k ok hk hl e he hb
  by_cases hkj : k = j
  ·subst hkj
   have : ok = oj := by simp only [List.getElem?_toArray] at hk; rw [hj] at hk; exact (Option.some.inj hk).symm
   subst this
   exact getD_set_true (hr e he hb)
  ·rw [hset k hkj] at hl
   exact getD_set_true (inv.closed k ok hk hl e he hb)
 ·intro t ht
  rw [hset t (by omega)]; exact inv.tail t ht
 ·rw [hdj.1]; simp [Act.put, inv.size]
 ·rw [hdj.1]; simpa [Act.put] using inv.defers
 ·intro i hin hl
  by_cases hij : i = j
  ·subst hij
   refine ⟨v, ?_, hv⟩
   rw [hdj.1]
   simp only [Act.put]
   rw [Array.getElem?_setIfInBounds_self, if_pos (by rw [inv.size]; exact hdj.2)]
  ·rw [hset i hij] at hl
   obtain ⟨u, h1, h2⟩ := inv.done i hin hl
   refine ⟨u, ?_, hmono _ _ h2⟩
   rw [hdj.1]
   simp only [Act.put]
   rw [Array.getElem?_setIfInBounds_ne (Ne.symm (hne i hin hij))]
   exact h1
 ·intro t B hlook hno
  have htj : D j ≠ t := hno j hjn (by
   have hlt : j < listed.size := by rw [inv.sz]; exact (List.getElem?_eq_some_iff.1 hj).1
   simp [hlt])
  obtain ⟨u, h1, h2⟩ := inv.base t B hlook (fun i hin hl => hno i hin (getD_set_true hl))
  refine ⟨u, ?_, hmono _ _ h2⟩
  rw [hdj.1]
  simp only [Act.put]
  rw [Array.getElem?_setIfInBounds_ne htj]
  exact h1
theorem DInv.end4 (inv : DInv E own s D A l n f listed a w) (hB : drawF l n f2 = true) (hn : n ≤ l.length) (hspec : ∀ k o, k < n → l[k]? = some o → o.dst = some (D k) ∧ D k < E.n)
  (hall : ∀ i, i < n → listed.getD i false = true) : Rep E ⟨stt s D A n, own⟩ a w := by
 obtain ⟨hord, _⟩ := drawB_spec hB
 refine ⟨inv.size, inv.defers, fun t B hlook => ?_, inv.world.own, inv.world.apart, inv.world.free, inv.world.xold, inv.world.keep⟩
 by_cases hex : ∃ i, i < n ∧ D i = t
 ·obtain ⟨i, hin, hit⟩ := hex
  have hil : i < l.length := by omega
  have hoi : l[i]? = some l[i] := List.getElem?_eq_getElem hil
  have hdi := (hspec i _ (by omega) hoi).1
  have hl2 : look (stt s D A n) (D i) = some (A i) := look_stt_some n hin fun k hk1 hk2 hk3 => by
   have hkl : k < l.length := by omega
   have hok : l[k]? = some l[k] := List.getElem?_eq_getElem hkl
   have := (hord i k _ _ hk1 hoi hok).2.2 (by omega) (D i) hdi
   rw [(hspec k _ (by omega) hok).1] at this
   exact this (by rw [hk3])
  have hlook' : look (stt s D A n) t = some B := hlook
  rw [← hit, hl2] at hlook'
  cases hlook'
  rw [← hit]
  exact inv.done i hin (hall i hin)
 ·have hno : ∀ i, i < n → D i ≠ t := fun i h1 h2 => hex ⟨i, h1, h2⟩
  have hlook' : look (stt s D A n) t = some B := hlook
  rw [look_stt_none n hno] at hlook'
  exact inv.base t B hlook' fun i hin _ => hno i hin
theorem draw_goS {Q : Exit → Act → World → Prop} {g : Nat} {fl : List Nat} (hB : drawF l n f2 = true) (hF : flB l n fl = true) (hsel : Region.noSelect l.toArray = true) (hQ : ∀ c a w (d : Nat) v, Q (.panic c) (a.put (some d) v) w → Q (.panic c) a w)
  (hn : n ≤ l.length) (S : Nat → Bool) (hdst : ∀ k o, k < n → l[k]? = some o → o.dst = some (D k) ∧ D k < E.n) (hspec : ∀ k o, k < n → l[k]? = some o → S k = false → Spec P E own l.toArray (stt s D A k) o (A k))
  (p : Nat) (hpfl : p ∉ fl) (hp2 : ∀ (c : Nat) (listed : Array Bool) (a : Act) (w : World), p < n → ((List.range n).filter fun i => !((listed.setIfInBounds p true).getD i false)).length = c → DInv E own s D A l n 0 listed a w → listed.getD p false = false → (∀ k, k < n → S k = true → k = p ∨ listed.getD k false = true) → (∀ op, l[p]? = some op → OpR E (stt s D A p) own op a w ∧ ∀ e ∈ op.after, Region.binds .any e = true → listed.getD e.on false = true) →
   wpOp P l.toArray Q p (wpAny P .any l.toArray Q (c + g) (listed.setIfInBounds p true)) a w)
  (hend : n ≤ p → ∀ listed a w, DInv E own s D A l n 0 listed a w → (∀ i, i < n → listed.getD i false = true) → wpAny P .any l.toArray Q g listed a w) :
  ∀ (c : Nat) (listed : Array Bool) (a : Act) (w : World), ((List.range n).filter fun i => !(listed.getD i false)).length = c → DInv E own s D A l n 0 listed a w → listed.getD p false = false → (∀ k, k < n → S k = true → k = p ∨ listed.getD k false = true) →
   wpAny P .any l.toArray Q (c + g) listed a w
 | 0, listed, a, w, hc, inv, hunp, hSl => by
  have hnil := List.eq_nil_of_length_eq_zero hc
  have hall : ∀ i, i < n → listed.getD i false = true := fun i hi => by
   have := List.filter_eq_nil_iff.1 hnil i (List.mem_range.2 hi)
   simpa using this
  rw [Nat.zero_add]
  refine hend (Nat.le_of_not_lt fun h => ?_) listed a w inv hall
  rw [hall p h] at hunp; cases hunp
 | c + 1, listed, a, w, hc, inv, hunp, hSl => by
  obtain ⟨hord, hlow⟩ := drawB_spec hB
  obtain ⟨hfl1, hfl2⟩ := flB_spec hF
  have hex : ∃ j, j < n ∧ listed.getD j false = false := by
   cases hl : (List.range n).filter fun i => !(listed.getD i false) with
   | nil => rw [hl] at hc; simp at hc
   | cons j r =>
    have : j ∈ (List.range n).filter fun i => !(listed.getD i false) := by rw [hl]; simp
    simp only [List.mem_filter, List.mem_range] at this
    exact ⟨j, this.1, by simpa using this.2⟩
  have hleast : ∃ k, k < n ∧ listed.getD k false = false ∧ ∀ i, i < k → listed.getD i false = true := by
   obtain ⟨j, hj1, hj2⟩ := hex
   clear hc
   induction j using Nat.strongRecOn with
   | _ j ih =>
    by_cases h : ∀ i, i < j → listed.getD i false = true
    ·exact ⟨j, hj1, hj2, h⟩
    ·simp only [Classical.not_forall] at h
     obtain ⟨i, h1, h2⟩ := h
     exact ih i h1 (by omega) (by simpa using h2)
  have hrdy : ∀ k, k < n → listed.getD k false = false → (∀ i, i < k → listed.getD i false = true) → k ∈ Region.ready .any l.toArray listed := by
   intro k hk1 hk2 hk3
   have hkl : k < l.length := by omega
   have hok : l[k]? = some l[k] := List.getElem?_eq_getElem hkl
   exact mem_ready.2 ⟨by rw [getD_tf (by rw [inv.sz]; exact hkl)]; exact hk2, l[k], by simp [hok], fun e he hb => hk3 _ (hlow k _ hok e he hb)⟩
  have hready : Region.ready .any l.toArray listed ≠ [] := by
   obtain ⟨k, hk1, hk2, hk3⟩ := hleast
   intro h0
   have := hrdy k hk1 hk2 hk3
   rw [h0] at this; cases this
  rw [show c + 1 + g = (c + g) + 1 by omega]
  have hcnt : ∀ j, j < n → j < l.length → listed.getD j false = false → ((List.range n).filter fun i => !((listed.setIfInBounds j true).getD i false)).length = c := by
   intro j hjn hjl hun
   have key : ∀ m, m ≤ n → ((List.range m).filter fun i => !((listed.setIfInBounds j true).getD i false)).length + (if j < m then 1 else 0) = ((List.range m).filter fun i => !(listed.getD i false)).length := by
    intro m
    induction m with
    | zero => intro _; simp
    | succ m ih =>
     intro hm
     have := ih (by omega)
     rw [List.range_succ, List.filter_append, List.filter_append, List.length_append, List.length_append]
     by_cases hmj : m = j
     ·subst hmj
      have h1 : (listed.setIfInBounds m true).getD m false = true := by simp [inv.sz, hjl]
      rw [if_neg (by omega)] at this
      simp only [List.filter_cons, h1, hun, List.filter_nil]
      simp at this ⊢
      omega
     ·have e0 : (listed.setIfInBounds j true).getD m false = listed.getD m false := getD_set_ne false (fun h => hmj h.symm)
      have e1 : (if j < m + 1 then 1 else 0) = (if j < m then 1 else 0 : Nat) := by
       by_cases hjm : j < m
       ·have : j < m + 1 := by omega
        simp [hjm, this]
       ·have : ¬ j < m + 1 := by omega
        simp [hjm, this]
      rw [e1, List.filter_cons, List.filter_cons, e0]
      simp only [List.filter_nil]
      omega
   have := key n (Nat.le_refl _)
   rw [if_pos hjn, hc] at this
   omega
  have each : ∀ j, j ∈ Region.ready .any l.toArray listed → j < n → ∃ oj, l[j]? = some oj ∧ OpR E (stt s D A j) own oj a w ∧
    (j ≠ p → ∀ v w', Grow w w' → (A j).holds w'.heap (OO E own) v → wpAny P .any l.toArray Q (c + g) (listed.setIfInBounds j true) (a.put oj.dst v) w') ∧ listed.getD j false = false ∧
    (∀ e ∈ oj.after, Region.binds .any e = true → listed.getD e.on false = true) := by
   intro j hj hjn
   obtain ⟨hun', oj, hoj', hall⟩ := mem_ready.1 hj
   have hoj : l[j]? = some oj := by simpa using hoj'
   have hjl : j < l.length := (List.getElem?_eq_some_iff.1 hoj).1
   have hun : listed.getD j false = false := by rw [← getD_tf (by rw [inv.sz]; exact hjl)]; exact hun'
   have hcount := hcnt j hjn hjl hun
   have hopR : OpR E (stt s D A j) own oj a w := ⟨inv.world, fun x hx B hB' => by
    cases x with
    | tmp t =>
     have ht : t ∈ namesOf l.toArray oj := by
      unfold namesOf
      refine List.mem_append_left _ (List.mem_append_right _ ?_)
      exact List.mem_filterMap.2 ⟨.tmp t, by simpa using hx, rfl⟩
     obtain ⟨v, h1, h2⟩ := inv.slot4 hn hB hdst hoj hjn hun hall ht hB'
     show B.holds _ _ (a.tmps.getD t undef)
     rw [Array.getD_eq_getD_getElem?, h1]
     exact h2
    | const v => simp only [opd, Option.some.injEq] at hB'; subst hB'; rfl
    | global g => simp only [opd, Option.some.injEq] at hB'; subst hB'; rfl
    | func f => simp only [opd, Option.some.injEq] at hB'; subst hB'; rfl⟩
   exact ⟨oj, hoj, hopR, fun hjp v w' gr hv => draw_goS hB hF hsel hQ hn S hdst hspec p hpfl hp2 hend c _ _ _ hcount (inv.step4 hB hn hdst hoj hjn hall gr hv) (by rw [getD_set_ne false hjp]; exact hunp) (fun k hk hs => (hSl k hk hs).imp id fun h => getD_set_true h), hun, hall⟩
  by_cases hfl : ∃ i ∈ fl, i ∈ Region.ready .any l.toArray listed
  ·obtain ⟨i, hi1, hi2⟩ := hfl
   obtain ⟨hin, oi, hoi, hpure, hfree⟩ := hfl1 i hi1
   obtain ⟨oj, hoj, hopR, hnext0, hun, _⟩ := each i hi2 hin
   have hnext := hnext0 (fun e => hpfl (e ▸ hi1))
   rw [hoi] at hoj; cases hoj
   obtain ⟨hd1, hd2⟩ := hdst i oi hin hoi
   have hsp := hspec i oi hin hoi (by
    cases hs : S i with
    | false => rfl
    | true =>
     rcases hSl i hin hs with h | h
     ·exact absurd (h ▸ hi1) hpfl
     ·rw [h] at hun; cases hun)
   have hgd : oi.guard = none := by
    rcases oi with ⟨dst, op, ty, pos, af, g⟩
    cases dst <;> cases op <;> cases g <;> simp [pureOp] at hpure <;> rfl
   unfold Spec at hsp
   rw [hgd] at hsp
   obtain ⟨v, hy, hv⟩ := pure_yields (ops := l.toArray) hd1 hpure hsp hopR (by rw [inv.size]; exact hd2)
   exact wpAny_take (by simpa using hoi) hsel (hfree listed inv.sz inv.closed hi2) (by simpa using hi2) (fun c a w h => by rw [hd1] at h; exact hQ c a w _ _ h) hy (hnext v w (Grow.refl w) hv)
  ·refine ⟨fun h0 => absurd h0 hready, fun j hj => ?_⟩
   have hjn : j < n := by
    rcases Nat.lt_or_ge j n with h | h
    ·exact h
    ·exfalso
     obtain ⟨hun', oj, hoj', hall⟩ := mem_ready.1 hj
     have hoj : l[j]? = some oj := by simpa using hoj'
     have hjl : j < l.length := (List.getElem?_eq_some_iff.1 hoj).1
     obtain ⟨k, hk1, hk2, hk3⟩ := hleast
     by_cases hkf : k ∈ fl
     ·exact hfl ⟨k, hkf, hrdy k hk1 hk2 hk3⟩
     ·have hw := hfl2 j h hjl k hk1 hkf
      have := waits_listed inv.closed _ j k hw (fun oj' h' => by
       have : oj' = oj := by simp only [List.getElem?_toArray] at h'; rw [hoj] at h'; exact (Option.some.inj h').symm
       subst this; exact hall)
      rw [hk2] at this; cases this
   obtain ⟨oj, hoj, hopR, hnext0, hun, hall⟩ := each j hj hjn
   by_cases hjp : j = p
   ·subst hjp
    exact hp2 c listed a w hjn (hcnt j hjn (by omega) hunp) inv hunp hSl (fun op hop => by rw [hoj] at hop; cases hop; exact ⟨hopR, hall⟩)
   have hnext := hnext0 hjp
   have hoj' : l.toArray[j]? = some oj := by simpa using hoj
   obtain ⟨hd1, hd2⟩ := hdst j oj hjn hoj
   have hsp := hspec j oj hjn hoj (by
    cases hs : S j with
    | false => rfl
    | true =>
     rcases hSl j hjn hs with h | h
     ·exact absurd h hjp
     ·rw [h] at hun; cases hun)
   unfold wpOp
   rw [hoj']
   dsimp only
   unfold Spec at hsp
   split at hsp
   ·rename_i hgd
    rw [if_pos (by simp [Region.wanted, hgd])]
    exact .inl (hsp a w hopR _ _ hnext)
   ·rename_i jg want hgd
    obtain ⟨dj, gg, h1, h2, h3⟩ := hsp
    have hname : dj ∈ namesOf l.toArray oj := by
     unfold namesOf
     refine List.mem_append_right _ ?_
     rw [hgd]
     simp only [h1]
     simp
    obtain ⟨v, hv1, hv2⟩ := inv.slot4 hn hB hdst hoj hjn hun hall hname h2
    have hy : yielded l.toArray a.tmps jg = gg := yield_of h1 hv1 hv2
    rcases h3 with ⟨h4, h5⟩ | ⟨h4, h5⟩
    ·rw [if_pos (by simp [Region.wanted, hgd, hy, h4])]
     exact .inl (h5 a w hopR _ _ hnext)
    ·rw [if_neg (by simp [Region.wanted, hgd, hy, h4])]
     exact hnext undef w (Grow.refl w) (h5.holds _ _)
def aNo : AV := ⟨fun _ _ _ => False, fun _ _ _ _ _ h _ _ _ => h⟩
theorem ok_no {s : List (Nat × AV)} {o : Oper} {B : AV} {x : Operand} (hm : x ∈ o.op.operands) (hx : opd s x = some aNo) : OpOK P E s own o B := fun _ _ r => (r.ev x hm _ hx).elim
def DWS (P : Program) (E : Env) (own : List Own) (sk : List Nat) : Nat → List Oper → List (Nat × AV) → List (Nat × AV) → (List (Nat × AV) → Prop) → Prop
 | _, [], [], s, K => K s
 | i, o :: r, (d, A) :: ls, s, K => o.dst = some d ∧ (sk.contains i = false → o.guard = none ∧ OpOK P E s own o A) ∧ DWS P E own sk (i + 1) r ls ((d, A) :: s) K
 | _, _, _, _, _ => False
theorem dws_o {sk : List Nat} {i : Nat} {o : Oper} {r : List Oper} {d : Nat} {A : AV} {ls s : List (Nat × AV)} {K : List (Nat × AV) → Prop} (h1 : o.dst = some d) (h2 : o.guard = none) (h3 : OpOK P E s own o A) (h4 : DWS P E own sk (i + 1) r ls ((d, A) :: s) K) : DWS P E own sk i (o :: r) ((d, A) :: ls) s K := ⟨h1, fun _ => ⟨h2, h3⟩, h4⟩
theorem dws_s {sk : List Nat} {i : Nat} {o : Oper} {r : List Oper} {d : Nat} {A : AV} {ls s : List (Nat × AV)} {K : List (Nat × AV) → Prop} (h1 : o.dst = some d) (h2 : sk.contains i = true) (h4 : DWS P E own sk (i + 1) r ls ((d, A) :: s) K) : DWS P E own sk i (o :: r) ((d, A) :: ls) s K := ⟨h1, (fun h => by rw [h2] at h; cases h), h4⟩
theorem dws_nil {sk : List Nat} {i : Nat} {s : List (Nat × AV)} {K : List (Nat × AV) → Prop} (h : K s) : DWS P E own sk i [] [] s K := h
theorem dws_fun {sk : List Nat} : ∀ (i : Nat) (os : List Oper) (Ls s : List (Nat × AV)) (K : List (Nat × AV) → Prop), DWS P E own sk i os Ls s K →
  os.length = Ls.length ∧ (∀ (k : Nat) (o : Oper) (p : Nat × AV), os[k]? = some o → Ls[k]? = some p → o.dst = some p.1 ∧ (sk.contains (i + k) = false → o.guard = none ∧ OpOK P E (sttL s Ls k) own o p.2)) ∧ K (sttL s Ls os.length)
 | i, [], [], s, K, h => ⟨rfl, fun k o p hk => by simp at hk, h⟩
 | i, o :: os, (d, A) :: Ls, s, K, h => by
  obtain ⟨h1, h2, h4⟩ := h
  obtain ⟨g1, g2, g3⟩ := dws_fun (i + 1) os Ls _ K h4
  refine ⟨by simp [g1], fun k o' p hk hp => ?_, ?_⟩
  ·cases k with
   | zero =>
    simp only [List.getElem?_cons_zero, Option.some.injEq] at hk hp
    subst hk; subst hp
    exact ⟨h1, h2⟩
   | succ k =>
    simp only [List.getElem?_cons_succ] at hk hp
    rw [sttL_shift, show i + (k + 1) = i + 1 + k by omega]
    exact g2 k o' p hk hp
  ·rw [List.length_cons, sttL_shift]; exact g3
 | _, [], _ :: _, _, _, h => h.elim
 | _, _ :: _, [], _, _, h => h.elim
theorem dws_spec {sk : List Nat} {os : List Oper} {Ls s : List (Nat × AV)} {K : List (Nat × AV) → Prop} (ops : Array Oper) (h : DWS P E own sk 0 os Ls s K) (hE : (Ls.all fun q => Nat.ble (q.1 + 1) E.n) = true) :
  os.length = Ls.length ∧ (∀ k o, os[k]? = some o → o.dst = some (DLs Ls k) ∧ DLs Ls k < E.n) ∧ (∀ k o, os[k]? = some o → sk.contains k = false → Spec P E own ops (stt s (DLs Ls) (ALs Ls) k) o (ALs Ls k)) ∧ K (stt s (DLs Ls) (ALs Ls) os.length) := by
 obtain ⟨h1, h2, h3⟩ := dws_fun 0 os Ls s K h
 have key : ∀ k o, os[k]? = some o → (o.dst = some (DLs Ls k) ∧ DLs Ls k < E.n) ∧ (sk.contains k = false → Spec P E own ops (stt s (DLs Ls) (ALs Ls) k) o (ALs Ls k)) := fun k o hk => by
  have hlt : k < os.length := (List.getElem?_eq_some_iff.1 hk).1
  have hp : Ls[k]? = some Ls[k] := List.getElem?_eq_getElem (by omega)
  obtain ⟨g1, g2⟩ := h2 k o _ hk hp
  have e1 : DLs Ls k = Ls[k].1 := by simp [DLs, List.getD, hp]
  have e2 : ALs Ls k = Ls[k].2 := by simp [ALs, List.getD, hp]
  rw [e1, e2]
  refine ⟨⟨g1, Nat.le_of_ble_eq_true (List.all_eq_true.1 hE _ (List.getElem_mem (by omega)))⟩, fun hs => ?_⟩
  obtain ⟨g3, g4⟩ := g2 (by rw [Nat.zero_add]; exact hs)
  unfold Spec
  rw [g3]
  rw [sttL_stt s k (by omega)] at g4
  exact g4
 exact ⟨h1, fun k o hk => (key k o hk).1, fun k o hk => (key k o hk).2, by rw [sttL_stt s _ (by omega)] at h3; exact h3⟩
def SimL (p : Nat) : Nat → List (Nat × AV) → List (Nat × AV) → Prop
 | _, [], [] => True
 | i, (d, A) :: l, (d', A') :: l' => d' = d ∧ (i = p ∨ A' = A ∨ A = aNo ∨ A' = aAny) ∧ SimL p (i + 1) l l'
 | _, _, _ => False
theorem SimL.get {p : Nat} : ∀ {i : Nat} {L L' : List (Nat × AV)}, SimL p i L L' → ∀ k, DLs L' k = DLs L k ∧ (i + k = p ∨ ALs L' k = ALs L k ∨ ALs L k = aNo ∨ ALs L' k = aAny)
 | i, [], [], _, k => ⟨rfl, .inr (.inl rfl)⟩
 | i, (d, A) :: l, (d', A') :: l', ⟨h1, h2, h3⟩, 0 => ⟨h1, by simpa [ALs] using h2⟩
 | i, (d, A) :: l, (d', A') :: l', ⟨h1, h2, h3⟩, k + 1 => by
  have := SimL.get h3 k
  rw [show i + 1 + k = i + (k + 1) by omega] at this
  simpa [DLs, ALs] using this
 | _, [], _ :: _, h, _ => h.elim
 | _, _ :: _, [], h, _ => h.elim
theorem DInv.jump {own' : List Own} {A' : Nat → AV} {p : Nat} {op : Oper} {v : Value} {w' : World} (inv : DInv E own s D A l n 0 listed a w) (hB : drawF l n f2 = true) (hn : n ≤ l.length) (hdst : ∀ k o, k < n → l[k]? = some o → o.dst = some (D k) ∧ D k < E.n)
  (hp : l[p]? = some op) (hpn : p < n) (hrdy : ∀ e ∈ op.after, Region.binds .any e = true → listed.getD e.on false = true)
  (hRW : RepW E own' w') (hav : ∀ (B : AV) u, B.holds w.heap (OO E own) u → B.holds w'.heap (OO E own') u) (hA : ∀ i, i = p ∨ A' i = A i ∨ A i = aNo ∨ A' i = aAny) (hv : (A' p).holds w'.heap (OO E own') v) :
  DInv E own' s D A' l n 0 (listed.setIfInBounds p true) (a.put op.dst v) w' := by
 obtain ⟨hord, _⟩ := drawB_spec hB
 have hdj := hdst p op hpn hp
 have hset : ∀ i, i ≠ p → (listed.setIfInBounds p true).getD i false = listed.getD i false := fun i hi => getD_set_ne false (Ne.symm hi)
 have hne : ∀ i, i < n → i ≠ p → D i ≠ D p := fun i hin hij he => by
  have hill : i < l.length := by omega
  have hoi : l[i]? = some l[i] := List.getElem?_eq_getElem hill
  rcases Nat.lt_or_gt_of_ne hij with h | h
  ·have := (hord i p _ _ h hoi hp).2.2 hpn (D i) (hdst i _ hin hoi).1
   rw [hdj.1] at this; exact this (by rw [he])
  ·have := (hord p i _ _ h hp hoi).2.2 hin (D p) hdj.1
   rw [(hdst i _ hin hoi).1] at this; exact this (by rw [he])
 refine ⟨by simp [inv.sz], fun i hi => by omega, ?_, ?_, hRW, ?_, ?_, ?_, ?_⟩
 ·intro k ok hk hl e he hb
  by_cases hkj : k = p
  ·subst hkj
   have : ok = op := by simp only [List.getElem?_toArray] at hk; rw [hp] at hk; exact (Option.some.inj hk).symm
   subst this
   exact getD_set_true (hrdy e he hb)
  ·rw [hset k hkj] at hl
   exact getD_set_true (inv.closed k ok hk hl e he hb)
 ·intro t ht
  rw [hset t (by omega)]; exact inv.tail t ht
 ·rw [hdj.1]; simp [Act.put, inv.size]
 ·rw [hdj.1]; simpa [Act.put] using inv.defers
 ·intro i hin hl
  by_cases hij : i = p
  ·subst hij
   refine ⟨v, ?_, hv⟩
   rw [hdj.1]
   simp only [Act.put]
   rw [Array.getElem?_setIfInBounds_self, if_pos (by rw [inv.size]; exact hdj.2)]
  ·rw [hset i hij] at hl
   obtain ⟨u, h1, h2⟩ := inv.done i hin hl
   refine ⟨u, ?_, ?_⟩
   ·rw [hdj.1]
    simp only [Act.put]
    rw [Array.getElem?_setIfInBounds_ne (Ne.symm (hne i hin hij))]
    exact h1
   ·rcases hA i with h | h | h | h
    ·exact absurd h hij
    ·rw [h]; exact hav _ _ h2
    ·rw [h] at h2; exact h2.elim
    ·rw [h]; exact trivial
 ·intro t B hlook hno
  have htj : D p ≠ t := hno p hpn (by
   have hlt : p < listed.size := by rw [inv.sz]; exact (List.getElem?_eq_some_iff.1 hp).1
   simp [hlt])
  obtain ⟨u, h1, h2⟩ := inv.base t B hlook (fun i hin hl => hno i hin (getD_set_true hl))
  refine ⟨u, ?_, hav _ _ h2⟩
  rw [hdj.1]
  simp only [Act.put]
  rw [Array.getElem?_setIfInBounds_ne htj]
  exact h1
theorem app0_run {α : Type} {T e : TypeId} {bytes : Nat} {z : Value} {enc : α → AV} {ys : List α} {x yv : Operand} {B : AV} {d : Nat} {ty : TypeId} {pos : String} {af : Array Edge} {g : Option (Nat × Bool)}
  (r : OpR E s own ⟨some d, .call { callee := .builtin .append, args := #[x, yv], argTypes := #[T, T] }, ty, pos, af, g⟩ a w)
  (ht : VecTy P T e 1 bytes false z) (hx : opd s x = some aNil0) (hy : opd s yv = some B) (hc : Cv E own (OO E own) B (aSl 1 false enc ys))
  (hn : ys.length * bytes ≤ 140737488355328) (hn2 : ys.length ≤ 140737488355328) (h0 : 0 < ys.length) (hone : ∀ y ∈ ys, One (enc y)) :
  ∃ b cap w', (execOp a.eval ⟨some d, .call { callee := .builtin .append, args := #[x, yv], argTypes := #[T, T] }, ty, pos, af, g⟩).run P w = .ok (.value (vec (some b) ys.length cap)) w' ∧ Grow w w' ∧ w.heap.size ≤ b ∧
   (oVec (some b) cap e 1 false enc ys).holds w'.heap (OO E (oVec (some b) cap e 1 false enc ys :: own)) := by
 obtain ⟨ii, i1, i2, i3, i4⟩ := ht.info
 obtain ⟨p, c, hv, hle, hmax, _, hel⟩ := hc w _ r.world (r.ev yv (by simp [Op.operands, Call.operands]) B hy)
 obtain ⟨ad, hxe⟩ := r.ev x (by simp [Op.operands, Call.operands]) _ hx
 obtain ⟨b0, off0, us0, hp, _, _, _⟩ := hel 0 ys[0] (List.getElem?_eq_getElem h0)
 have hcell : ∀ i, ∃ u, ∀ y, ys[i]? = some y → w.cell? ⟨b0, off0 + i, none⟩ = some u ∧ (enc y).holds w.heap (OO E own) u := by
  intro i
  by_cases hi : i < ys.length
  ·obtain ⟨b, off, us, hp', hl, hcc, henc⟩ := hel i ys[i] (List.getElem?_eq_getElem hi)
   rw [hp] at hp'; cases hp'
   match us, hl with
   | [u], _ =>
    refine ⟨u, fun y hy => ?_⟩
    rw [List.getElem?_eq_getElem hi] at hy; cases hy
    have := hcc.cell (j := 0) (u := u) rfl
    exact ⟨by simpa using this, henc⟩
  ·exact ⟨undef, fun y hy => by rw [List.getElem?_eq_none (by omega)] at hy; cases hy⟩
 let f : Nat → Value := fun i => Classical.choose (hcell i)
 have hf : ∀ i y, ys[i]? = some y → w.cell? ⟨b0, off0 + i, none⟩ = some (f i) ∧ (enc y).holds w.heap (OO E own) (f i) := fun i => Classical.choose_spec (hcell i)
 let news := (List.range ys.length).map f
 have hlen : news.length = ys.length := by simp [news]
 have hget : ∀ (j : Nat) u, news[j]? = some u → ∃ hj : j < ys.length, u = f j := by
  intro j u hu
  have hj : j < ys.length := by rw [← hlen]; exact (List.getElem?_eq_some_iff.1 hu).1
  refine ⟨hj, ?_⟩
  have : news[j]? = some (f j) := by simp [news, hj]
  rw [this] at hu; cases hu; rfl
 have hr := run_append_grow (P := P) w T ty e ii z ht.und i1 i2 ad 0 0 [] (by simp) (fun j u hu => by simp at hu) ⟨b0, off0, none⟩ ys.length c news (by rw [i3, hlen, Nat.mul_one])
  (fun j u hu => by
   obtain ⟨hj, rfl⟩ := hget j u hu
   rw [addr_add]; exact (hf j _ (List.getElem?_eq_getElem hj)).1) (by omega) (by omega) (by rw [i4]; exact growslice_fits (by omega) (by rw [Nat.zero_add]; exact hn))
 have hge := grownCap_ge w (0 + ys.length) 0 e
 have hle2 := grownCap_le_maxLen w (0 + ys.length) 0 e (by simp only [maxLen]; omega)
 have gr := (Grow.drew w).trans (Grow.alloc w.drew (.cells (([] : List Value).toArray ++ news.toArray ++ Builtin.zeroCells z.cells (grownCap w (0 + ys.length) 0 e - (0 + ys.length))) e))
 refine ⟨w.heap.size, grownCap w (0 + ys.length) 0 e, _, ?_, gr, Nat.le_refl _, ⟨hn2, fun _ => rfl, .inr ⟨w.heap.size, _, rfl, heap_alloc_new w.drew _, by omega, hle2, ?_, fun i y hy => ?_⟩⟩⟩
 ·simp only [execOp, resolve, invoke, builtin, Sem.run_bind, Sem.run_pure, Result.andThen_ok, List.map_toArray, List.map_cons, List.map_nil, hxe, hv, hp, hr]
  rw [Nat.zero_add]; rfl
 ·rw [Array.size_append, size_zeroCells, ht.zs]
  simp only [List.size_toArray, List.nil_append, List.append_toArray, hlen]
  omega
 ·have hi : i < ys.length := (List.getElem?_eq_some_iff.1 hy).1
  refine ⟨[f i], rfl, fun j u hu => ?_, AV.new (o := oVec (some w.heap.size) (grownCap w (0 + ys.length) 0 e) e 1 false enc ys) (hf i y hy).2 (fun b hb => Nat.le_of_eq (Option.some.inj hb)) gr⟩
  match j, hu with
  | 0, hu =>
   simp only [List.getElem?_cons_zero, Option.some.injEq] at hu
   subst hu
   refine ⟨?_, hone y (List.mem_of_getElem? hy) _ _ _ (hf i y hy).2⟩
   have h5 : i < news.length := by omega
   rw [Array.getElem?_append_left (by simp; omega)]
   simp [news, hi]
  | j + 1, hu => simp at hu
theorem app_run {α : Type} {T e : TypeId} {bytes : Nat} {z : Value} {enc : α → AV} {xs ys : List α} {r : Option Nat} {cap k : Nat} {x yv : Operand} {B : AV} {d : Nat} {ty : TypeId} {pos : String} {af : Array Edge} {g : Option (Nat × Bool)}
  (r0 : OpR E s own ⟨some d, .call { callee := .builtin .append, args := #[x, yv], argTypes := #[T, T] }, ty, pos, af, g⟩ a w)
  (ht : VecTy P T e 1 bytes false z) (hk : own[k]? = some (oVec r cap e 1 false enc xs)) (hx : opd s x = some (aEx (vec r xs.length cap))) (hy : opd s yv = some B) (hc : Cv E own (OO E own) B (aSl 1 false enc ys))
  (hn : (xs.length + ys.length) * bytes ≤ 140737488355328) (hn2 : xs.length + ys.length ≤ 140737488355328) (hone : ∀ y ∈ ys, One (enc y)) :
  ∃ r' cap' w', (execOp a.eval ⟨some d, .call { callee := .builtin .append, args := #[x, yv], argTypes := #[T, T] }, ty, pos, af, g⟩).run P w = .ok (.value (vec r' (xs ++ ys).length cap')) w' ∧ Touch (oVec r cap e 1 false enc xs) w w' ∧ (∀ b, (oVec r' cap' e 1 false enc (xs ++ ys)).has b → (oVec r cap e 1 false enc xs).has b ∨ w.heap.size ≤ b) ∧
   (oVec r' cap' e 1 false enc (xs ++ ys)).holds w'.heap (OO E (own.set k (oVec r' cap' e 1 false enc (xs ++ ys)))) := by
 obtain ⟨ii, i1, i2, i3, i4⟩ := ht.info
 obtain ⟨p, c, hv, hle, hmax, _, hel⟩ := hc w _ r0.world (r0.ev yv (by simp [Op.operands, Call.operands]) B hy)
 have hxe : a.eval x = vec r xs.length cap := r0.ex hx (by simp [Op.operands, Call.operands])
 have hown := r0.world.own _ (List.mem_of_getElem? hk)
 by_cases h0 : ys = []
 ·subst h0
  have hcap : xs.length ≤ cap := by
   rcases hown.2.2 with ⟨_, h2, _⟩ | ⟨b, cur, _, _, g3, _⟩
   ·rw [h2]; exact Nat.zero_le _
   ·exact g3
  have hrun : (Builtin.append_ #[T, T] ty #[vec r xs.length cap, .slice p 0 c]).run P w = .ok (vec r xs.length cap) w := by
   cases r <;> cases p <;> simp [Builtin.append_, run_underlying ht.und, sizeOf, typeInfo, i1, i3, Builtin.lenOf, Builtin.firstCells, loadCells, loadCellsFrom, hcap, storeCells, vec]
  rw [List.append_nil]
  refine ⟨r, cap, w, ?_, (Grow.refl w).touch, fun b hb => .inl hb, by rw [list_set_self hk]; exact hown⟩
  simp only [List.length_nil] at hv
  simp only [execOp, resolve, invoke, builtin, Sem.run_bind, Sem.run_pure, Result.andThen_ok, List.map_toArray, List.map_cons, List.map_nil, hxe, hv, hrun]
 ·have hpos : 0 < ys.length := List.length_pos_iff.2 h0
  obtain ⟨b0, off0, us0, hp, _, _, _⟩ := hel 0 ys[0] (List.getElem?_eq_getElem hpos)
  have hcell : ∀ i, ∃ u, ∀ y, ys[i]? = some y → w.cell? ⟨b0, off0 + i, none⟩ = some u ∧ (enc y).holds w.heap (OO E own) u := by
   intro i
   by_cases hi : i < ys.length
   ·obtain ⟨b, off, us, hp', hl, hcc, henc⟩ := hel i ys[i] (List.getElem?_eq_getElem hi)
    rw [hp] at hp'; cases hp'
    match us, hl with
    | [u], _ =>
     refine ⟨u, fun y hy => ?_⟩
     rw [List.getElem?_eq_getElem hi] at hy; cases hy
     have := hcc.cell (j := 0) (u := u) rfl
     exact ⟨by simpa using this, henc⟩
   ·exact ⟨undef, fun y hy => by rw [List.getElem?_eq_none (by omega)] at hy; cases hy⟩
  let g : Nat → Value := fun i => Classical.choose (hcell i)
  have hg : ∀ i y, ys[i]? = some y → w.cell? ⟨b0, off0 + i, none⟩ = some (g i) ∧ (enc y).holds w.heap (OO E own) (g i) := fun i => Classical.choose_spec (hcell i)
  have hlen : ((List.range ys.length).map g).length = ys.length := by simp
  have hget : ∀ j u, ((List.range ys.length).map g)[j]? = some u → ∃ hj : j < ys.length, u = g j := by
   intro j u hu
   have hj : j < ys.length := by rw [← hlen]; exact (List.getElem?_eq_some_iff.1 hu).1
   refine ⟨hj, ?_⟩
   have : ((List.range ys.length).map g)[j]? = some (g j) := by simp [hj]
   rw [this] at hu; cases hu; rfl
  have hsrc : Src w (OO E own) 1 false enc ys ⟨b0, off0, none⟩ ((List.range ys.length).map g) := by
   refine ⟨by simp, fun j u hu => ?_, fun u hu => ?_, fun i y hy => ?_⟩
   ·obtain ⟨hj, rfl⟩ := hget j u hu
    rw [addr_add]; exact (hg j _ (List.getElem?_eq_getElem hj)).1
   ·obtain ⟨j, hj0⟩ := List.mem_iff_getElem?.1 hu
    obtain ⟨hj, rfl⟩ := hget j u hj0
    exact hone _ (List.getElem_mem hj) _ _ _ (hg j _ (List.getElem?_eq_getElem hj)).2
   ·have hi : i < ys.length := (List.getElem?_eq_some_iff.1 hy).1
    have : ((List.range ys.length).map g)[i]? = some (g i) := by simp [hi]
    rw [Nat.mul_one, drop_take_one _ _ _ this]
    exact (hg i y hy).2
  obtain ⟨b', cap', w', h1, h2, h3, h4⟩ := append_core (P := P) (E := E) (own := own) (c := c) ht hk hown hsrc hn hn2 hpos ty
  refine ⟨some b', cap', w', ?_, h2, fun b hb => by cases hb; exact h3, h4⟩
  simp only [execOp, resolve, invoke, builtin, Sem.run_bind, Sem.run_pure, Result.andThen_ok, List.map_toArray, List.map_cons, List.map_nil, hxe, hv, hp, h1, List.length_append]
theorem ok_append00 {α : Type} {T e : TypeId} {bytes : Nat} {z : Value} {enc : α → AV} {ys : List α} {x yv : Operand} {B : AV} {d : Nat} {ty : TypeId} {pos : String} {af : Array Edge} {g : Option (Nat × Bool)} {s : List (Nat × AV)}
  (ht : VecTy P T e 1 bytes false z) (hx : opd s x = some aNil0) (hy : opd s yv = some B) (hc : Cv E own (OO E own) B (aSl 1 false enc ys)) (h0 : ys = []) :
  OpOK P E s own ⟨some d, .call { callee := .builtin .append, args := #[x, yv], argTypes := #[T, T] }, ty, pos, af, g⟩ aNil0 :=
 ok_val (fun a w r => by
  obtain ⟨ii, i1, i2, i3, i4⟩ := ht.info
  obtain ⟨p, c, hv, hle, hmax, _, hel⟩ := hc w _ r.world (r.ev yv (by simp [Op.operands, Call.operands]) B hy)
  obtain ⟨ad, hxe⟩ := r.ev x (by simp [Op.operands, Call.operands]) _ hx
  subst h0
  have hrun : (Builtin.append_ #[T, T] ty #[.slice (some ad) 0 0, .slice p 0 c]).run P w = .ok (.slice (some ad) 0 0) w := by
   cases p <;> simp [Builtin.append_, run_underlying ht.und, sizeOf, typeInfo, i1, i3, Builtin.lenOf, Builtin.firstCells, loadCells, loadCellsFrom, storeCells]
  refine ⟨.slice (some ad) 0 0, ?_, ad, rfl⟩
  simp only [List.length_nil] at hv
  simp only [execOp, resolve, invoke, builtin, Sem.run_bind, Sem.run_pure, Result.andThen_ok, List.map_toArray, List.map_cons, List.map_nil, hxe, hv, hrun])
theorem ent_drawA3 {st : St} {Q : Exit → Act → World → Prop} {id : Nat} {l : List Oper} {α : Type} {T e : TypeId} {bytes : Nat} {z : Value} {enc : α → AV} {xs ys : List α} {x1 y1 x2 y2 : Operand} {B1 : AV} {B2 : AV} {d1 d2 : Nat} {ty1 ty2 : TypeId} {pos1 pos2 : String} {af1 af2 : Array Edge}
  (n : Nat) (fl : List Nat) (p1 p2 : Nat) (L0 : List (Nat × AV)) (L1 : Nat → Nat → List (Nat × AV)) (L2 : List (Nat × AV)) (hm : P.follows .mixedOrders = true) (hn : Nat.ble n l.length = true) (hB : drawF l n n = true) (hF : flB l n fl = true) (hsel : Region.noSelect l.toArray = true)
  (hS : Region.seqB .any l.toArray (l.length - n) n (Array.replicate n true ++ Array.replicate (l.length - n) false) = true) (hQ : ∀ c a w (d : Nat) v, Q (.panic c) (a.put (some d) v) w → Q (.panic c) a w)
  (ht : VecTy P T e 1 bytes false z)
  (hp1 : l[p1]? = some ⟨some d1, .call { callee := .builtin .append, args := #[x1, y1], argTypes := #[T, T] }, ty1, pos1, af1, none⟩) (hpn1 : Nat.ble (p1 + 1) n = true) (hfl1 : fl.contains p1 = false)
  (hp2 : l[p2]? = some ⟨some d2, .call { callee := .builtin .append, args := #[x2, y2], argTypes := #[T, T] }, ty2, pos2, af2, none⟩) (hpn2 : Nat.ble (p2 + 1) n = true) (hfl2 : fl.contains p2 = false) (hlt : Nat.ble (p1 + 1) p2 = true)
  (hone1 : ∀ y ∈ xs, One (enc y)) (hone2 : ∀ y ∈ ys, One (enc y)) (h0 : 0 < xs.length) (hz : (xs.length + ys.length) * bytes ≤ 140737488355328) (hz2 : xs.length + ys.length ≤ 140737488355328)
  (hE0 : (L0.all fun q => Nat.ble (q.1 + 1) E.n) = true) (hE1 : ∀ b c, ((L1 b c).all fun q => Nat.ble (q.1 + 1) E.n) = true) (hE2 : (L2.all fun q => Nat.ble (q.1 + 1) E.n) = true)
  (hx1 : opd (sttL st.slots L0 p1) x1 = some aNil0) (hy1 : opd (sttL st.slots L0 p1) y1 = some B1) (hc1 : Cv E st.own (OO E st.own) B1 (aSl 1 false enc xs))
  (hx2 : ∀ b c, opd (sttL st.slots (L1 b c) p2) x2 = some (aEx (vec (some b) xs.length c))) (hy2 : ∀ b c, opd (sttL st.slots (L1 b c) p2) y2 = some B2) (hc2 : ∀ b c, Cv E (oVec (some b) c e 1 false enc xs :: st.own) (OO E (oVec (some b) c e 1 false enc xs :: st.own)) B2 (aSl 1 false enc ys))
  (ha0 : L0[p2]? = some (d2, aNo)) (hs1 : ∀ b c, SimL p1 0 L0 (L1 b c)) (hs2 : ∀ b c, SimL p2 0 (L1 b c) L2) (ha1 : ∀ b c, (L1 b c)[p1]? = some (d1, aEx (vec (some b) xs.length c))) (ha2 : L2[p2]? = some (d2, aSl 1 false enc (xs ++ ys)))
  (h1 : DWS P E st.own [p1] 0 (l.take n) L0 st.slots (fun _ => True))
  (h2 : ∀ b c, DWS P E (oVec (some b) c e 1 false enc xs :: st.own) [p1, p2] 0 (l.take n) (L1 b c) st.slots (fun _ => True))
  (h3 : DWS P E st.own [p1, p2] 0 (l.take n) L2 st.slots (fun s' => Ent E ⟨s', st.own⟩ (wpList P l.toArray Q (l.drop n)))) :
  Ent E st ((Code.region id l.toArray true).wp P Q) := by
 intro a w r
 have hnl : n ≤ l.length := Nat.le_of_ble_eq_true hn
 have hpn1' : p1 < n := Nat.le_of_ble_eq_true hpn1
 have hpn2' : p2 < n := Nat.le_of_ble_eq_true hpn2
 have hlt' : p1 < p2 := Nat.le_of_ble_eq_true hlt
 have hlen : (l.take n).length = n := by simp [hnl]
 have hto : ∀ k o, k < n → l[k]? = some o → (l.take n)[k]? = some o := fun k o hk ho => by rw [List.getElem?_take, if_pos hk]; exact ho
 obtain ⟨g1, g2, g3, _⟩ := dws_spec l.toArray h1 hE0
 rw [hlen] at g1
 have hdst : ∀ k o, k < n → l[k]? = some o → o.dst = some (DLs L0 k) ∧ DLs L0 k < E.n := fun k o hk ho => g2 k o (hto k o hk ho)
 have hD1 : ∀ b c, DLs (L1 b c) = DLs L0 := fun b c => funext fun k => ((hs1 b c).get k).1
 have hA1 : ∀ b c i, i = p1 ∨ ALs (L1 b c) i = ALs L0 i ∨ ALs L0 i = aNo ∨ ALs (L1 b c) i = aAny := fun b c i => by
  have := ((hs1 b c).get i).2; rwa [Nat.zero_add] at this
 have hD2 : DLs L2 = DLs L0 := by rw [← hD1 0 0]; exact funext fun k => ((hs2 0 0).get k).1
 have hA2 : ∀ b c i, i = p2 ∨ ALs L2 i = ALs (L1 b c) i ∨ ALs (L1 b c) i = aNo ∨ ALs L2 i = aAny := fun b c i => by
  have := ((hs2 b c).get i).2; rwa [Nat.zero_add] at this
 have hnf1 : p1 ∉ fl := fun hm => by have := List.contains_iff_mem.2 hm; rw [this] at hfl1; cases hfl1
 have hnf2 : p2 ∉ fl := fun hm => by have := List.contains_iff_mem.2 hm; rw [this] at hfl2; cases hfl2
 refine wp_region_any hm ?_
 have r1 : Rep E st a w.drew := r.grow (Grow.drew w)
 have inv := rep_start (D := DLs L0) (A := ALs L0) (l := l) (n := n) r1
 have hz0 : (Array.replicate 0 true ++ Array.replicate (l.length - 0) false) = Array.replicate l.length false := by simp
 rw [hz0] at inv
 have hff : ∀ i, (Array.replicate l.length false).getD i false = false := fun i => by
  rw [Array.getD_eq_getD_getElem?]
  by_cases hi : i < l.length
  ·simp [hi]
  ·simp [hi]
 have hcount : ((List.range n).filter fun i => !((Array.replicate l.length false).getD i false)).length = n := by
  rw [List.filter_eq_self.2 (fun i _ => by simp [hff i])]; simp
 have hc1' : ∀ k, k < n → [p1].contains k = true → k = p1 ∨ (Array.replicate l.length false).getD k false = true := fun k _ h => by
  simp at h; exact .inl h
 have := draw_goS (P := P) (Q := Q) (g := l.length - n) (f2 := n) hB hF hsel hQ hnl [p1].contains hdst (fun k o hk ho hs => g3 k o (hto k o hk ho) hs) p1 hnf1 ?_ (fun h => by omega) n _ a w.drew hcount inv (hff p1) hc1'
 ·rw [show n + (l.length - n) = l.length by omega] at this
  simpa using this
 ·-- the first append
  intro cc listed a w _ hcount inv hunp _ hop0
  obtain ⟨hopR, hrdy⟩ := hop0 _ hp1
  have hpLs : p1 ≤ L0.length := by omega
  have hx1' := hx1; have hy1' := hy1
  rw [sttL_stt st.slots p1 hpLs] at hx1' hy1'
  obtain ⟨b, cap, w', hrun, gr, hb, ho⟩ := app0_run hopR ht hx1' hy1' hc1 (by
   have : xs.length * bytes ≤ (xs.length + ys.length) * bytes := Nat.mul_le_mul_right _ (Nat.le_add_right _ _)
   omega) (by omega) h0 hone1
  have hop : l.toArray[p1]? = some ⟨some d1, .call { callee := .builtin .append, args := #[x1, y1], argTypes := #[T, T] }, ty1, pos1, af1, none⟩ := by simpa using hp1
  unfold wpOp
  rw [hop]
  dsimp only
  rw [if_pos (by simp [Region.wanted])]
  refine .inl ?_
  unfold Oper.wp
  rw [hrun, Oper.upon_value]
  obtain ⟨k1, k2, k3, _⟩ := dws_spec l.toArray (h2 b cap) (hE1 b cap)
  rw [hlen] at k1
  have hbn : ∀ b', (oVec (some b) cap e 1 false enc xs).has b' → w.heap.size ≤ b' := fun b' hb' => by cases hb'; exact hb
  have hRW := inv.world.new gr _ hbn ho a inv.size inv.defers
  have hal : ALs (L1 b cap) p1 = aEx (vec (some b) xs.length cap) := by simp [ALs, List.getD, ha1 b cap]
  have inv2 := inv.jump (own' := oVec (some b) cap e 1 false enc xs :: st.own) (A' := ALs (L1 b cap)) (v := vec (some b) xs.length cap) hB hnl hdst hp1 hpn1' hrdy hRW (fun B u h => AV.new h hbn gr) (hA1 b cap) (by rw [hal]; rfl)
  rw [hD1] at k2 k3
  have hsz : p1 < listed.size := by rw [inv.sz]; omega
  refine draw_goS (P := P) (Q := Q) (g := l.length - n) (f2 := n) hB hF hsel hQ hnl [p1, p2].contains (fun k o hk ho => k2 k o (hto k o hk ho)) (fun k o hk ho hs => k3 k o (hto k o hk ho) hs) p2 hnf2 ?_ (fun h => by omega) cc _ _ _ hcount inv2 ?_ ?_
  ·-- the second append
   intro cc listed a w _ hcount inv hunp hSl hop0
   obtain ⟨hopR, hrdy⟩ := hop0 _ hp2
   have hpLs : p2 ≤ (L1 b cap).length := by omega
   have hx2' := hx2 b cap; have hy2' := hy2 b cap
   rw [sttL_stt st.slots p2 hpLs, hD1] at hx2' hy2'
   obtain ⟨r', cap', w', hrun, tch, hbs, ho⟩ := app_run (k := 0) hopR ht rfl hx2' hy2' (hc2 b cap) hz hz2 hone2
   have hop : l.toArray[p2]? = some ⟨some d2, .call { callee := .builtin .append, args := #[x2, y2], argTypes := #[T, T] }, ty2, pos2, af2, none⟩ := by simpa using hp2
   unfold wpOp
   rw [hop]
   dsimp only
   rw [if_pos (by simp [Region.wanted])]
   refine .inl ?_
   unfold Oper.wp
   rw [hrun, Oper.upon_value]
   obtain ⟨m1, m2, m3, m4⟩ := dws_spec l.toArray h3 hE2
   rw [hlen] at m1 m4
   rw [hD2] at m2 m3 m4
   have r0 : Rep E ⟨[], oVec (some b) cap e 1 false enc xs :: st.own⟩ a w := ⟨inv.size, inv.defers, (fun i A h => by cases h), inv.world.own, inv.world.apart, inv.world.free, inv.world.xold, inv.world.keep⟩
   have r2 := r0.change (k := 0) (o' := oVec r' cap' e 1 false enc (xs ++ ys)) rfl tch hbs ho
   have r3 := r2.erase 0
   have hwd : RepW E (oVec r' cap' e 1 false enc (xs ++ ys) :: st.own) w' := r2.w
   have hal : ALs L2 p2 = aSl 1 false enc (xs ++ ys) := by simp [ALs, List.getD, ha2]
   have hv : (aSl 1 false enc (xs ++ ys)).holds w'.heap (OO E st.own) (vec r' (xs ++ ys).length cap') :=
    (cv_vec (k := 0) (own := oVec r' cap' e 1 false enc (xs ++ ys) :: st.own) (off_erase rfl) rfl rfl : Cv E _ (OO E st.own) (aEx (vec r' (xs ++ ys).length cap')) (aSl 1 false enc (xs ++ ys))) w' _ hwd rfl
   have inv3 := inv.jump (own' := st.own) (A' := ALs L2) (v := vec r' (xs ++ ys).length cap') hB hnl (fun k o hk ho => k2 k o (hto k o hk ho)) hp2 hpn2' hrdy r3.w (fun B u h => AV.less (AV.touch (k := 0) h rfl tch hbs) fun b' _ hb' => by
    rcases hb' with hb' | ⟨o, ho, hob⟩
    ·exact .inl hb'
    ·exact .inr ⟨o, List.mem_cons_of_mem _ ho, hob⟩) (hA2 b cap) (by rw [hal]; exact hv)
   have hsz : p2 < listed.size := by rw [inv.sz]; omega
   refine draw_goS (P := P) (Q := Q) (g := l.length - n) (f2 := n) hB hF hsel hQ hnl [p1, p2].contains (fun k o hk ho => m2 k o (hto k o hk ho)) (fun k o hk ho hs => m3 k o (hto k o hk ho) hs) l.length (fun hm => by
    have := ((flB_spec hF).1 _ hm).1; omega) (fun _ _ _ _ h => by omega) ?_ cc _ _ _ hcount inv3 ?_ ?_
   ·intro _ listed' a' w'' inv' hall
    have hrep := inv'.end4 hB hnl (fun k o hk ho => m2 k o (hto k o hk ho)) hall
    have hlisted : listed' = Array.replicate n true ++ Array.replicate (l.length - n) false := by
     apply Array.ext
     ·simp [inv'.sz]; omega
     ·intro i hi1 hi2
      have hd : listed'.getD i false = listed'[i] := by simp [hi1]
      rcases Nat.lt_or_ge i n with h | h
      ·rw [← hd, hall i h, Array.getElem_append_left (by simpa using h)]; simp
      ·rw [← hd, inv'.tail i h, Array.getElem_append_right (by simpa using h)]; simp
    have hdl : (l.drop n).length = l.length - n := by simp
    rw [← hdl]
    refine wpAny_of_seq (l.drop n) n listed' a' w'' (fun j => by simp [List.getElem?_drop]) ?_ (m4 a' w'' hrep)
    rw [hdl, hlisted]
    exact hS
   ·rw [getD_set_ne false (by omega)]
    rw [Array.getD_eq_getD_getElem?, Array.getElem?_eq_none (by rw [inv.sz]; omega)]; rfl
   ·intro k hk hs
    right
    by_cases hk2 : k = p2
    ·subst hk2; simp [hsz]
    ·rcases hSl k hk hs with h | h
     ·exact absurd h hk2
     ·exact getD_set_true h
  ·rw [getD_set_ne false (by omega)]
   cases hq : listed.getD p2 false with
   | false => rfl
   | true =>
    obtain ⟨u, _, e2⟩ := inv.done p2 hpn2' hq
    rw [show ALs L0 p2 = aNo by simp [ALs, List.getD, ha0]] at e2
    exact e2.elim
  ·intro k hk hs
   simp only [List.contains_cons, List.contains_nil, Bool.or_false, Bool.or_eq_true, beq_iff_eq] at hs
   rcases hs with h | h
   ·right; subst h; simp [hsz]
   ·exact .inl h
end drawsS
end Go.Cw
