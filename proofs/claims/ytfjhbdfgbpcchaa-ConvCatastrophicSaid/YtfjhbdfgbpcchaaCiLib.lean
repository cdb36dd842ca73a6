/-
  Rules of a calculus for walks.
-/
import Derived.Test.YtfjhbdfgbpcchaaChLib
import Derived.RangeFuncRecord
import Derived.OrdersIn
import Derived.TacticsIn
namespace Go.Cw
set_option linter.unusedSimpArgs false
set_option linter.unnecessarySimpa false
set_option linter.unusedVariables false
section rounds
variable {P : Program} {E : Env} {st : St} {Q : Exit → Act → World → Prop} {ops : Array Oper} {rest : List Oper}
variable {ro : Option Nat}
def NoDef (o : Oper) : Bool := match o.op with
 | .defer _ => false
 | _ => true
theorem NoDef.ne {o : Oper} (h : NoDef o = true) (c : Call) : o.op ≠ .defer c := fun e => by unfold NoDef at h; rw [e] at h; cases h
variable {own : List Own} {s : List (Nat × AV)} {D : Nat → Nat} {A : Nat → AV} {l : List Oper} {n f : Nat} {listed : Array Bool} {a : Act} {w : World}
end rounds
section rangefn
variable {P : Program} {E : Env} {st : St} {Q : Exit → Act → World → Prop} {ops : Array Oper} {rest : List Oper} {ro : Option Nat}
variable {d : Nat} {ty : TypeId} {pos : String} {af : Array Edge} {g : Option (Nat × Bool)}
theorem Keeps.trans {M M' : Nat → Prop} {a b c : World} (h : Keeps M a b) (k : Keeps M' b c) (hM : ∀ x, x < a.heap.size → M' x → M x) : Keeps M a c :=
 ⟨k.os.trans h.os, k.tape.trans h.tape, k.output.trans h.output, Nat.le_trans h.size k.size, fun b hb hm => (k.block b (Nat.lt_of_lt_of_le hb h.size) fun h' => hm (hM b hb h')).trans (h.block b hb hm)⟩
theorem Keeps.more {M M' : Nat → Prop} {a b : World} (h : Keeps M a b) (hM : ∀ x, M x → M' x) : Keeps M' a b := ⟨h.os, h.tape, h.output, h.size, fun b hb hm => h.block b hb fun h' => hm (hM b h')⟩
end rangefn
section leaves
variable {P : Program} {E : Env} {st : St}
end leaves
section knots
variable {P : Program} {E : Env} {st : St} {own : List Own}
theorem CvL.append {O : Nat → Prop} : ∀ {As Bs As' Bs' : List AV}, CvL E own O As Bs → CvL E own O As' Bs' → CvL E own O (As ++ As') (Bs ++ Bs')
 | [], [], _, _, _, h => h
 | _ :: _, _ :: _, _, _, ⟨h1, h2⟩, h => ⟨h1, CvL.append h2 h⟩
 | [], _ :: _, _, _, h, _ => h.elim
 | _ :: _, [], _, _, h, _ => h.elim
end knots
end Go.Cw
