/-
  Rules of a calculus for walks.
-/
import Derived.Test.YtcilbmggiahciaaGreatCgLib
namespace Go.Cw
set_option linter.unusedSimpArgs false
set_option linter.unusedVariables false
section packs
variable {P : Program} {E : Env} {st : St} {Q : Exit -> Act -> World -> Prop} {ops : Array Oper} {rest : List Oper} {s : List (Nat × AV)} {own : List Own}
variable {d : Nat} {ty : TypeId} {pos : String} {af : Array Edge} {g : Option (Nat × Bool)}
def oFact (v:Value) (A:AV):Own where
 has _:=False
 holds h O:=A.holds h O v
 mono:=fun h h' O O' hv hs hb ho=>A.mono h h' O O' v hv hs (fun b hlt hn=>hb b hlt (.inl hn)) ho
 lt:=fun _ _ _ _ h=>h.elim
theorem cv_fact {O:Nat->Prop} {k:Nat} {v:Value} {A:AV} (hk:own[k]? = some (oFact v A)) (hO:SubO E own O):Cv E own O (aEx v) A:=fun w u rp h=>by
 rw [show u=v from h]
 exact AV.less (rp.own _ (List.mem_of_getElem? hk)) fun b _ hb=>hO b hb
end packs
section fvals
variable {P : Program} {E : Env} {st : St} {Q : Exit -> Act -> World -> Prop} {ops : Array Oper} {rest : List Oper} {s : List (Nat × AV)} {own : List Own}
variable {d : Nat} {ty : TypeId} {pos : String} {af : Array Edge} {g : Option (Nat × Bool)}
theorem ok_callFV {dd:Option Tmp} {f:FuncId} {x:Operand} {xs:List Operand} {tys:Array TypeId} {As Bs:List AV} {A:AV}
  (c:Ctr P f (As++Bs) A) (hv:opd s x=some (aClo f Bs)) (hx:ArgsA E s own (OO E own) xs As):OpOK P E s own ⟨dd,.call { callee:=.value x,args:=xs.toArray,argTypes:=tys },ty,pos,af,g⟩ A:=by
 intro a w r K Q hK
 obtain ⟨us,hu,hB⟩:=r.ev x (by simp [Op.operands,Call.operands]) _ hv
 have hrun:(execOp a.eval ⟨dd,.call { callee:=.value x,args:=xs.toArray,argTypes:=tys },ty,pos,af,g⟩).run P w = .ok (.enter f (xs.map a.eval++us).toArray) w:=run_clo c.1 hu
 unfold Oper.wp
 rw [hrun,Oper.upon_enter]
 refine (c.2 w (OO E own) _ r.lt (HoldsAll.append (hx.holds r (fun x hx=>by simp [Op.operands,Call.operands,hx])) hB)).mono ?_
 rintro e w' ⟨v,rfl,hA,hg⟩
 exact hK v w' hg hA
theorem cv_func {O:Nat->Prop} {f:FuncId}:Cv E own O (aEx (vClo f [])) (aClo f []):=cv_clo (us:=[]) trivial
end fvals
end Go.Cw
