/-
  Rules of a calculus for walks.
-/
import Derived.Test.YtaipghchkamajaaCzLib
import Derived.Lib.AppendZeros
set_option linter.unnecessarySimpa false
namespace Go.Cw
set_option linter.unusedSimpArgs false
set_option linter.unusedVariables false
section
variable {P : Program} {E : Env} {st : St} {Q : Exit -> Act -> World -> Prop} {ops : Array Oper} {rest : List Oper} {s : List (Nat × AV)} {own : List Own}
variable {d : Nat} {ty : TypeId} {pos : String} {af : Array Edge} {g : Option (Nat × Bool)}
end
section
variable {P : Program} {E : Env} {st : St} {Q : Exit -> Act -> World -> Prop} {ops : Array Oper} {rest : List Oper} {s : List (Nat × AV)} {own : List Own}
variable {d : Nat} {ty : TypeId} {pos : String} {af : Array Edge} {g : Option (Nat × Bool)}
end
section drawsS
variable {P : Program} {E : Env} {own : List Own}
variable {s : List (Nat × AV)} {D : Nat -> Nat} {A : Nat -> AV} {l : List Oper} {n f f2 : Nat} {listed : Array Bool} {a : Act} {w : World}
def aNo:AV:=⟨fun _ _ _=>False,fun _ _ _ _ _ h _ _ _=>h⟩
def SimL (p:Nat):Nat->List (Nat×AV)->List (Nat×AV)->Prop
 | _,[],[]=>True
 | i,(d,A)::l,(d',A')::l'=>d'=d/\(i=p\/A'=A\/A=aNo\/A'=aAny)/\SimL p (i+1) l l'
 | _,_,_=>False
theorem SimL.get {p:Nat}:∀ {i:Nat} {L L':List (Nat×AV)},SimL p i L L'->∀k,DLs L' k=DLs L k/\(i+k=p\/ALs L' k=ALs L k\/ALs L k=aNo\/ALs L' k=aAny)
 | i,[],[],_,k=>⟨rfl,.inr (.inl rfl)⟩
 | i,(d,A)::l,(d',A')::l',⟨h1,h2,h3⟩,0=>⟨h1,by simpa [ALs] using h2⟩
 | i,(d,A)::l,(d',A')::l',⟨h1,h2,h3⟩,k+1=>by
  have:=SimL.get h3 k
  rw [show i+1+k=i+(k+1) by omega] at this
  simpa [DLs,ALs] using this
 | _,[],_::_,h,_=>h.elim
 | _,_::_,[],h,_=>h.elim
end drawsS
end Go.Cw
