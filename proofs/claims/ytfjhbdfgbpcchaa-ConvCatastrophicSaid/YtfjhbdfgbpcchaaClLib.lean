/-
  Rules of a calculus for walks.
-/
import Derived.Test.YtfjhbdfgbpcchaaCjLib
namespace Go.Cw
set_option linter.unusedSimpArgs false
set_option linter.unnecessarySimpa false
set_option linter.unusedVariables false
section
variable {P : Program} {E : Env} {s : List (Nat × AV)} {own : List Own}
variable {d : Nat} {ty : TypeId} {pos : String} {af : Array Edge} {g : Option (Nat × Bool)}
def FrTo (n : Nat) : List AV → List AV → Prop
 | [], [] => True
 | A :: As, B :: Bs => (∀ h O v, A.holds h (fun b => O b ∨ b < n) v → B.holds h O v) ∧ FrTo n As Bs
 | _, _ => False
theorem FrTo.get {n : Nat} : ∀ {As Bs : List AV}, FrTo n As Bs → As.length = Bs.length ∧ ∀ (i : Nat) (B : AV), Bs[i]? = some B → ∃ A, As[i]? = some A ∧ ∀ h O v, A.holds h (fun b => O b ∨ b < n) v → B.holds h O v
 | [], [], _ => ⟨rfl, fun i B h => by cases h⟩
 | A :: As, B :: Bs, h => by
  obtain ⟨h1, h2⟩ := FrTo.get h.2
  refine ⟨by simp [h1], fun i C hC => ?_⟩
  cases i with
  | zero => exact ⟨A, rfl, by cases hC; exact h.1⟩
  | succ i => exact h2 i C hC
 | [], _ :: _, h => h.elim
 | _ :: _, [], h => h.elim
theorem CtrF.vec {α : Type} {f : FuncId} {As : List AV} {e : TypeId} {enc : α → AV} {xs : List α} (h : CtrF P f As (aVec e 1 false enc xs)) :
  CtrW P f [] As (fun _ : Option Nat × Nat => True) (fun y => aEx (vec y.1 xs.length y.2)) (fun y => [oVec y.1 y.2 e 1 false enc xs]) :=
 ⟨h.1, fun w O vs hO _ ha => by
  have ha' : HoldsAll As w.heap O vs := ⟨ha.1, fun i A v hA hv => AV.less (ha.2 i A v hA hv) fun b _ hb => .inl hb⟩
  refine (h.2 w O vs hO ha').mono fun en w' ⟨v, h1, ⟨r, cap, h2, h3, h4⟩, h5⟩ => ?_
  have hnb : ∀ b, r = some b → w.heap.size ≤ b := fun b hb => Nat.le_of_not_lt (h4 b hb)
  have hbl : ∀ b, Blks [oVec r cap e 1 false enc xs] b ↔ r = some b := fun b => ⟨fun ⟨o, ho, hb⟩ => by rw [List.mem_singleton] at ho; subst ho; exact hb, fun hb => ⟨_, List.mem_singleton.2 rfl, hb⟩⟩
  refine ⟨v, (r, cap), h1, trivial, h2, ⟨fun o ho => ?_, List.pairwise_singleton _ _, fun o ho b hb hOb => ?_⟩, fun o ho b hb => ?_, ?_⟩
  ·rw [List.mem_singleton] at ho; subst ho
   exact (oVec r cap e 1 false enc xs).mono _ _ _ _ h3 (Nat.le_refl _) (fun _ _ _ => rfl) fun b _ hb => by
    rcases hb with hb | hb
    ·exact .inl (hO b hb)
    ·exact .inr ((hbl b).1 hb)
  ·rw [List.mem_singleton] at ho; subst ho
   have := hO b hOb; have := hnb b hb; omega
  ·rw [List.mem_singleton] at ho; subst ho
   exact .inr (hnb b hb)
  ·exact ⟨h5.os, h5.tape, h5.output, h5.size, fun b hb _ => h5.block b hb⟩⟩
end
section
variable {P : Program} {E : Env} {st : St}
end
section
variable {P : Program} {E : Env} {st : St} {Q : Exit → Act → World → Prop} {ops : Array Oper} {rest : List Oper} {s : List (Nat × AV)} {own : List Own}
variable {d : Nat} {ty : TypeId} {pos : String} {af : Array Edge} {g : Option (Nat × Bool)}
end
section
variable {P : Program} {E : Env} {s : List (Nat × AV)} {own : List Own}
variable {d : Nat} {ty : TypeId} {pos : String} {af : Array Edge} {g : Option (Nat × Bool)}
end
end Go.Cw
