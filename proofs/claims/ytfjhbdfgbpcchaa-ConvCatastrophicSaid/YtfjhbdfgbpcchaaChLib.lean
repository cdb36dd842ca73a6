/-
  Rules of a calculus for walks.
-/
import Derived.Test.YtfjhbdfgbpcchaaCgLib
namespace Go.Cw
set_option linter.unusedSimpArgs false
set_option linter.unusedVariables false
section packs
variable {P : Program} {E : Env} {st : St} {Q : Exit → Act → World → Prop} {ops : Array Oper} {rest : List Oper} {s : List (Nat × AV)} {own : List Own}
variable {d : Nat} {ty : TypeId} {pos : String} {af : Array Edge} {g : Option (Nat × Bool)}
end packs
section fvals
variable {P : Program} {E : Env} {st : St} {Q : Exit → Act → World → Prop} {ops : Array Oper} {rest : List Oper} {s : List (Nat × AV)} {own : List Own}
variable {d : Nat} {ty : TypeId} {pos : String} {af : Array Edge} {g : Option (Nat × Bool)}
end fvals
end Go.Cw
