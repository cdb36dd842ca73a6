/-
  Rules of a calculus for walks.
-/
import Derived.Test.YtcilbmggiahciaaCiLib
namespace Go.Cw
set_option linter.unusedSimpArgs false
set_option linter.unnecessarySimpa false
set_option linter.unusedVariables false
section vecFields
variable {P : Program} {E : Env} {st : St} {ops : Array Oper} {rest : List Oper} {s : List (Nat × AV)} {own : List Own} {Q : Exit → Act → World → Prop}
variable {d : Nat} {ty : TypeId} {pos : String} {af : Array Edge} {g : Option (Nat × Bool)}
theorem ok_loadVF {α : Type} {T T' : TypeId} {k b cap sz off : Nat} {x : Operand} {enc : α → AV} {xs : List α} {n : Int} (dflt : α) {As : α → List AV} {A : AV} (ht : ∀ w, (isAgg T).run P w = .ok false w)
  (hk : own[k]? = some (oVec (some b) cap T' sz true enc xs)) (henc : ∀ z, enc z = aAgg (As z)) (hA : (As (ix dflt xs n))[off]? = some A)
  (hx : opd s x = some (aEx (.pointer (some ⟨b, n.toNat * sz + off, none⟩)))) (h0 : 0 ≤ n) (h1 : n < xs.length) : OpOK P E s own ⟨some d, .load T x, ty, pos, af, g⟩ A :=
 ok_val (fun a w r => by
  obtain ⟨g0, gone, g1⟩ := r.world.own _ (List.mem_of_getElem? hk)
  rcases g1 with ⟨g1, _⟩ | ⟨b', cur, hb', g2, g3, g4, g5, g6⟩
  ·cases g1
  cases hb'
  obtain ⟨us, k1, k2, k3⟩ := g6 _ _ (ix_get dflt xs n h0 h1)
  rw [henc] at k3
  obtain ⟨cs, c1, c2, c3⟩ := k3
  have hus : us = cs := by
   simp only [mkV, if_true] at c1
   injection c1 with c1
   exact List.toArray_inj c1
  subst hus
  have hlt : off < us.length := by rw [c2]; exact (List.getElem?_eq_some_iff.1 hA).1
  have hc : us[off]? = some us[off] := List.getElem?_eq_getElem hlt
  have hcell : w.cell? ⟨b, n.toNat * sz + off, none⟩ = some us[off] := cell_of_block g2 (k2 off _ hc).1
  refine ⟨us[off], ?_, c3 _ _ _ hA hc⟩
  simp [execOp, r.ex hx (by simp [Op.operands, Call.operands]), Instr.loadAt, Instr.sureAddr, loadVar, ht, hcell])
theorem ent_storeVF {α : Type} {T T' : TypeId} {k b cap sz off : Nat} {x y : Operand} {enc : α → AV} {xs : List α} {n : Int} (dflt z : α) {As : α → List AV} {A : AV} (ht : ∀ w, (sizeOf T).run P w = .ok 1 w)
  (hk : st.own[k]? = some (oVec (some b) cap T' sz true enc xs)) (henc : ∀ z, enc z = aAgg (As z)) (hx : opd st.slots x = some (aEx (.pointer (some ⟨b, n.toNat * sz + off, none⟩)))) (hy : opd st.slots y = some A) (hone : One A)
  (h0 : 0 ≤ n) (h1 : n < xs.length) (hz : As z = (As (ix dflt xs n)).set off A) (hoff : off < sz) (hsz : (As (ix dflt xs n)).length = sz)
  (kk : Ent E ⟨st.slots, st.own.set k (oVec (some b) cap T' sz true enc (xs.set n.toNat z))⟩ (wpList P ops Q rest)) :
  Ent E st (wpList P ops Q (⟨none, .store T x y, ty, pos, af, none⟩ :: rest)) := by
 refine ent_write (γ := Unit) rfl (fun _ h => by cases h) hk (fun _ => oVec (some b) cap T' sz true enc (xs.set n.toNat z)) (fun _ => undef) (fun _ => .skip) (fun _ => .inr ⟨rfl, rfl⟩) (fun _ => True)
  (fun a w r => ?_) (fun _ _ => kk)
 obtain ⟨g0, gone, g1⟩ := r.own _ (List.mem_of_getElem? hk)
 rcases g1 with ⟨g1, _⟩ | ⟨b', cur, hb', g2, g3, g4, g5, g6⟩
 ·cases g1
 cases hb'
 have hv := r.eval hy
 have hv1 := hone _ _ _ hv
 have hcl : (a.eval y).cells.toList = [a.eval y] := by
  generalize a.eval y = v at hv1
  cases v <;> first | rfl | cases hv1
 have hfit : n.toNat * sz + off + 1 ≤ cur.size := by
  rw [g5]
  have : (n.toNat + 1) * sz ≤ cap * sz := Nat.mul_le_mul_right _ (by omega)
  rw [Nat.add_mul] at this; omega
 have hcs : (a.eval y).cells.size = 1 := by rw [← Array.length_toList, hcl]; rfl
 have hrun := run_storeCells_list (P := P) (us := [a.eval y]) g2 (by simpa using hfit) (fun u hu => by rw [List.mem_singleton.1 hu]; exact hv1)
 let cs' : Array Value := (cur.toList.take (n.toNat * sz + off) ++ [a.eval y] ++ cur.toList.drop (n.toNat * sz + off + 1)).toArray
 have hget : ∀ p : Nat, cs'[p]? = if p = n.toNat * sz + off then some (a.eval y) else cur[p]? := fun p => by
  show (cur.toList.take (n.toNat * sz + off) ++ [a.eval y] ++ cur.toList.drop (n.toNat * sz + off + 1)).toArray[p]? = _
  rw [List.getElem?_toArray, List.append_assoc]
  have hl : (cur.toList.take (n.toNat * sz + off)).length = n.toNat * sz + off := by simp; omega
  rcases Nat.lt_trichotomy p (n.toNat * sz + off) with h | h | h
  ·rw [if_neg (by omega), List.getElem?_append_left (by omega), List.getElem?_take, if_pos h]; simp
  ·rw [if_pos h, List.getElem?_append_right (by omega), hl, h, Nat.sub_self]; rfl
  ·rw [if_neg (by omega), List.getElem?_append_right (by omega), hl, List.getElem?_append_right (by simp; omega), List.getElem?_drop]
   rw [show n.toNat * sz + off + 1 + (p - (n.toNat * sz + off) - [a.eval y].length) = p by simp; omega]; simp
 refine ⟨(), w.setRow b cs', trivial, ?_, touch_setRow (b := b) rfl, fun _ h => .inl h, ?_⟩
 ·simp [execOp, r.evalEx hx, Instr.storeAt, Instr.sureAddr, storeVar, ht, hcs, hcl, hrun, cs']
 ·have tch : Touch (oVec (some b) cap T' sz true enc xs) w (w.setRow b cs') := touch_setRow (b := b) rfl
  refine ⟨by simpa using g0, gone, .inr ⟨b, _, rfl, setRow_heap w b cur _ T' _ g2, by simpa using g3, g4, ?_, fun i x hx => ?_⟩⟩
  ·show cs'.size = _
   simp only [cs', List.size_toArray, List.length_append, List.length_take, List.length_drop, Array.length_toList, List.length_cons, List.length_nil]
   omega
  ·have hil : i < xs.length := by have := (List.getElem?_eq_some_iff.1 hx).1; simpa using this
   by_cases hin : i = n.toNat
   ·subst hin
    rw [List.getElem?_set_self hil] at hx
    cases hx
    obtain ⟨us, k1, k2, k3⟩ := g6 _ _ (ix_get dflt xs n h0 h1)
    rw [henc] at k3
    obtain ⟨cs, c1, c2, c3⟩ := k3
    have hus : us = cs := by
     simp only [mkV, if_true] at c1
     injection c1 with c1
     exact List.toArray_inj c1
    subst hus
    refine ⟨us.set off (a.eval y), by rw [List.length_set]; exact k1, fun j u hu => ?_, ?_⟩
    ·show cs'[n.toNat * sz + j]? = some u ∧ _
     have hj : j < us.length := by have := (List.getElem?_eq_some_iff.1 hu).1; simpa using this
     rw [hget]
     by_cases e : off = j
     ·subst e
      rw [List.getElem?_set_self hj] at hu
      cases hu
      exact ⟨if_pos rfl, hv1⟩
     ·rw [List.getElem?_set_ne e] at hu
      rw [if_neg (by omega)]
      exact k2 j u hu
    ·rw [henc, hz]
     refine ⟨us.set off (a.eval y), by simp [mkV], by simp [c2], fun j B u hB hu => ?_⟩
     by_cases e : off = j
     ·subst e
      rw [List.getElem?_set_self (by omega)] at hB
      rw [List.getElem?_set_self (by omega)] at hu
      cases hB; cases hu
      exact AV.touch hv hk tch (fun _ h => .inl h)
     ·rw [List.getElem?_set_ne e] at hB hu
      exact AV.touch (c3 j B u hB hu) hk tch (fun _ h => .inl h)
   ·rw [List.getElem?_set_ne (Ne.symm hin)] at hx
    obtain ⟨us', k1, k2, k3⟩ := g6 i x hx
    refine ⟨us', k1, fun j u hu => ⟨?_, (k2 j u hu).2⟩, AV.touch k3 hk tch (fun _ h => .inl h)⟩
    have hj : j < sz := by rw [← k1]; exact (List.getElem?_eq_some_iff.1 hu).1
    show cs'[i * sz + j]? = some u
    rw [hget, if_neg]
    ·exact (k2 j u hu).1
    ·rcases Nat.lt_or_gt_of_ne hin with h | h
     ·have hm : (i + 1) * sz ≤ n.toNat * sz := Nat.mul_le_mul_right _ h
      rw [Nat.add_mul] at hm; omega
     ·have hm : (n.toNat + 1) * sz ≤ i * sz := Nat.mul_le_mul_right _ h
      rw [Nat.add_mul] at hm; omega
end vecFields
section makeCap
variable {P : Program} {E : Env} {st : St} {ops : Array Oper} {rest : List Oper} {Q : Exit → Act → World → Prop}
variable {d : Nat} {ty : TypeId} {pos : String} {af : Array Edge}
theorem ent_makeC {α : Type} {T e : TypeId} {sz bytes : Nat} {agg : Bool} {z : Value} {x y : Operand} {m n : Int} (enc : α → AV) (x0 : α) (hd : Nat.ble (d + 1) E.n = true) (ht : VecTy P T e sz bytes agg z)
  (hx : opd st.slots x = some (aInt m)) (hy : opd st.slots y = some (aInt n)) (h0 : 0 ≤ m) (hmn : m ≤ n) (hb : n * bytes ≤ 140737488355328) (hn : n ≤ 140737488355328)
  (hz : ∀ h O, (enc x0).holds h O (mkV agg z.cells.toList)) (h1 : ∀ u ∈ z.cells.toList, u.oneCell' = true)
  (k : ∀ b, Ent E ⟨(d, aEx (vec (some b) m.toNat n.toNat)) :: st.slots, oVec (some b) n.toNat e sz agg enc (List.replicate m.toNat x0) :: st.own⟩ (wpList P ops Q rest)) :
  Ent E st (wpList P ops Q (⟨some d, .makeSlice T x y, ty, pos, af, none⟩ :: rest)) := by
 refine ent_new (d := d) rfl rfl hd (fun b => oVec (some b) n.toNat e sz agg enc (List.replicate m.toNat x0)) (fun b => vec (some b) m.toNat n.toNat) (fun a w r => ?_) k
 obtain ⟨i, i1, i2, i3, i4⟩ := ht.info
 have hr := run_make (P := P) w T e i z ht.und i1 i2 .i64 .i64 m n h0 hmn (by rw [i4, Int.mul_comm]; omega) (by omega)
 refine ⟨_, by simp only [execOp, r.evalEx hx, r.evalEx hy, Sem.run_bind, hr]; rfl, Grow.alloc _ _, (fun b hb => (Option.some.inj hb).symm), ?_⟩
 refine ⟨by simp; omega, ht.one, .inr ⟨w.heap.size, _, rfl, heap_alloc_new w _, by simp; omega, by simp only [maxLen]; omega, by rw [size_madeCells, i3], fun j x hx => ?_⟩⟩
 obtain ⟨hjl, hxe⟩ := List.getElem?_eq_some_iff.1 hx
 have hj : j < m.toNat := by simpa using hjl
 have hx0 : x = x0 := by rw [← hxe]; simp
 subst hx0
 refine ⟨z.cells.toList, by simpa using ht.zs, fun j' u hu => ⟨?_, h1 u (List.mem_of_getElem? hu)⟩, hz _ _⟩
 rw [i3]
 exact getElem?_madeCells ht.zs (by omega) (by simpa using hu)
end makeCap
end Go.Cw
