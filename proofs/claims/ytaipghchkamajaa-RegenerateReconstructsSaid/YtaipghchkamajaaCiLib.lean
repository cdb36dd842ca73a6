/-
  Rules.
-/
import Derived.Test.YtaipghchkamajaaChLib
import Derived.RangeFuncRecord
import Derived.OrdersIn
import Derived.TacticsIn
namespace Go.Cw
set_option linter.unusedSimpArgs false
set_option linter.unnecessarySimpa false
set_option linter.unusedVariables false
section rounds
variable {P : Program} {E : Env} {st : St} {Q : Exit -> Act -> World -> Prop} {ops : Array Oper} {rest : List Oper}
variable {ro : Option Nat}
variable {own : List Own} {s : List (Nat × AV)} {D : Nat -> Nat} {A : Nat -> AV} {l : List Oper} {n f : Nat} {listed : Array Bool} {a : Act} {w : World}
end rounds
section rangefn
variable {P : Program} {E : Env} {st : St} {Q : Exit -> Act -> World -> Prop} {ops : Array Oper} {rest : List Oper} {ro : Option Nat}
variable {d : Nat} {ty : TypeId} {pos : String} {af : Array Edge} {g : Option (Nat × Bool)}
end rangefn
section leaves
variable {P : Program} {E : Env} {st : St}
end leaves
section knots
variable {P : Program} {E : Env} {st : St} {own : List Own}
end knots
end Go.Cw
