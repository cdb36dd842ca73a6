/-
  Rules of a calculus for walks.
-/
import Derived.Test.YtcilbmggiahciaaGreatCiLib
namespace Go.Cw
set_option linter.unusedSimpArgs false
set_option linter.unnecessarySimpa false
set_option linter.unusedVariables false
section vecFields
variable {P : Program} {E : Env} {st : St} {ops : Array Oper} {rest : List Oper} {s : List (Nat × AV)} {own : List Own} {Q : Exit -> Act -> World -> Prop}
variable {d : Nat} {ty : TypeId} {pos : String} {af : Array Edge} {g : Option (Nat × Bool)}
end vecFields
section makeCap
variable {P : Program} {E : Env} {st : St} {ops : Array Oper} {rest : List Oper} {Q : Exit -> Act -> World -> Prop}
variable {d : Nat} {ty : TypeId} {pos : String} {af : Array Edge}
theorem ent_makeC {α : Type} {T e : TypeId} {sz bytes : Nat} {agg : Bool} {z : Value} {x y : Operand} {m n : Int} (enc : α -> AV) (x0 : α) (hd : Nat.ble (d + 1) E.n = true) (ht : VecTy P T e sz bytes agg z)
  (hx : opd st.slots x = some (aInt m)) (hy : opd st.slots y = some (aInt n)) (h0 : 0 <= m) (hmn : m <= n) (hb : n * bytes <= 140737488355328) (hn : n <= 140737488355328)
  (hz : ∀ h O, (enc x0).holds h O (mkV agg z.cells.toList)) (h1 : ∀ u ∈ z.cells.toList, u.oneCell' = true)
  (k : ∀ b, Ent E ⟨(d, aEx (vec (some b) m.toNat n.toNat)) :: st.slots, oVec (some b) n.toNat e sz agg enc (List.replicate m.toNat x0) :: st.own⟩ (wpList P ops Q rest)) :
  Ent E st (wpList P ops Q (⟨some d, .makeSlice T x y, ty, pos, af, none⟩ :: rest)) := by
 refine ent_new (d := d) rfl rfl hd (fun b => oVec (some b) n.toNat e sz agg enc (List.replicate m.toNat x0)) (fun b => vec (some b) m.toNat n.toNat) (fun a w r => ?_) k
 obtain ⟨i, i1, i2, i3, i4⟩ := ht.info
 have hr := run_make (P := P) w T e i z ht.und i1 i2 .i64 .i64 m n h0 hmn (by rw [i4, Int.mul_comm]; omega) (by omega)
 refine ⟨_, by simp only [execOp, r.evalEx hx, r.evalEx hy, Sem.run_bind, hr]; rfl, Grow.alloc _ _, (fun b hb => (Option.some.inj hb).symm), ?_⟩
 refine ⟨by simp; omega, ht.one, .inr ⟨w.heap.size, _, rfl, heap_alloc_new w _, by simp; omega, by simp only [maxLen]; omega, by rw [size_madeCells, i3], fun j x hx => ?_⟩⟩
 obtain ⟨hjl, hxe⟩ := List.getElem?_eq_some_iff.1 hx
 have hj : j < m.toNat := by simpa using hjl
 have hx0 : x = x0 := by rw [<- hxe]; simp
 subst hx0
 refine ⟨z.cells.toList, by simpa using ht.zs, fun j' u hu => ⟨?_, h1 u (List.mem_of_getElem? hu)⟩, hz _ _⟩
 rw [i3]
 exact getElem?_madeCells ht.zs (by omega) (by simpa using hu)
end makeCap
end Go.Cw
