/-
  Rules.
-/
import Derived.Test.YtaipghchkamajaaCzLib
import Derived.Lib.AppendZeros
set_option linter.unnecessarySimpa false
namespace Go.Cw
set_option linter.unusedSimpArgs false
set_option linter.unusedVariables false
section
variable {P : Program} {E : Env} {st : St} {Q : Exit -> Act -> World -> Prop} {ops : Array Oper} {rest : List Oper} {s : List (Nat × AV)} {own : List Own}
variable {d : Nat} {ty : TypeId} {pos : String} {af : Array Edge} {g : Option (Nat × Bool)}
end
section
variable {P : Program} {E : Env} {st : St} {Q : Exit -> Act -> World -> Prop} {ops : Array Oper} {rest : List Oper} {s : List (Nat × AV)} {own : List Own}
variable {d : Nat} {ty : TypeId} {pos : String} {af : Array Edge} {g : Option (Nat × Bool)}
end
section drawsS
variable {P : Program} {E : Env} {own : List Own}
variable {s : List (Nat × AV)} {D : Nat -> Nat} {A : Nat -> AV} {l : List Oper} {n f f2 : Nat} {listed : Array Bool} {a : Act} {w : World}
end drawsS
end Go.Cw
