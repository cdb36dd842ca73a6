/-
  Rules of a calculus for walks.
-/
import Derived.Test.YtfjhbdfgbpcchaaCiLib
namespace Go.Cw
set_option linter.unusedSimpArgs false
set_option linter.unnecessarySimpa false
set_option linter.unusedVariables false
section vecFields
variable {P : Program} {E : Env} {st : St} {ops : Array Oper} {rest : List Oper} {s : List (Nat × AV)} {own : List Own} {Q : Exit → Act → World → Prop}
variable {d : Nat} {ty : TypeId} {pos : String} {af : Array Edge} {g : Option (Nat × Bool)}
end vecFields
section makeCap
variable {P : Program} {E : Env} {st : St} {ops : Array Oper} {rest : List Oper} {Q : Exit → Act → World → Prop}
variable {d : Nat} {ty : TypeId} {pos : String} {af : Array Edge}
end makeCap
end Go.Cw
