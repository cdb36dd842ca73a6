/-
  Rules of a calculus for walks.
-/
import Derived.Test.YtcilbmggiahciaaGreatChLib
import Derived.RangeFuncRecord
import Derived.OrdersIn
import Derived.TacticsIn
namespace Go.Cw
set_option linter.unusedSimpArgs false
set_option linter.unnecessarySimpa false
set_option linter.unusedVariables false
section rounds
variable {P : Program} {E : Env} {st : St} {Q : Exit -> Act -> World -> Prop} {ops : Array Oper} {rest : List Oper}
variable {ro : Option Nat}
variable {own : List Own} {s : List (Nat × AV)} {D : Nat -> Nat} {A : Nat -> AV} {l : List Oper} {n f : Nat} {listed : Array Bool} {a : Act} {w : World}
end rounds
section rangefn
variable {P : Program} {E : Env} {st : St} {Q : Exit -> Act -> World -> Prop} {ops : Array Oper} {rest : List Oper} {ro : Option Nat}
variable {d : Nat} {ty : TypeId} {pos : String} {af : Array Edge} {g : Option (Nat × Bool)}
theorem Keeps.trans {M M':Nat->Prop} {a b c:World} (h:Keeps M a b) (k:Keeps M' b c) (hM:∀x,x<a.heap.size->M' x->M x):Keeps M a c :=
 ⟨k.os.trans h.os,k.tape.trans h.tape,k.output.trans h.output,Nat.le_trans h.size k.size,fun b hb hm=>(k.block b (Nat.lt_of_lt_of_le hb h.size) fun h'=>hm (hM b hb h')).trans (h.block b hb hm)⟩
theorem Keeps.more {M M':Nat->Prop} {a b:World} (h:Keeps M a b) (hM:∀x,M x->M' x):Keeps M' a b:=⟨h.os,h.tape,h.output,h.size,fun b hb hm=>h.block b hb fun h'=>hm (hM b h')⟩
end rangefn
section leaves
variable {P : Program} {E : Env} {st : St}
end leaves
section knots
variable {P : Program} {E : Env} {st : St} {own : List Own}
theorem ent_giveF {K:Act->World->Prop} (k:Nat) (v:Value) {A':AV} (c:Cv E st.own (OO E (st.own.eraseIdx k)) (aEx v) A') (h:Ent E ⟨st.slots,oFact v A'::st.own.eraseIdx k⟩ K):Ent E st K:=by
 intro a w rp
 have hA:=c w v rp.w rfl
 have r2:=rp.erase k
 have hO:∀b,OO E (oFact v A'::st.own.eraseIdx k) b->OO E (st.own.eraseIdx k) b:=by
  rintro b (h | ⟨o,ho,hb⟩)
  ·exact .inl h
  ·cases ho with
   | head=>exact hb.elim
   | tail _ h=>exact .inr ⟨o,h,hb⟩
 refine h a w ⟨r2.size,r2.defers,fun j B hj=>?_,fun o ho=>?_,List.Pairwise.cons (fun _ _ b hb=>hb.elim) r2.apart,fun o ho b hb=>?_,r2.xold,r2.keep⟩
 ·obtain ⟨u,u1,u2⟩:=r2.slots j B hj
  exact ⟨u,u1,AV.less u2 fun b _ hb=>hO b hb⟩
 ·cases ho with
  | head=>exact AV.less hA fun b _ hb=>hO b hb
  | tail _ h=>exact Own.less (r2.own o h) hO
 ·cases ho with
  | head=>exact hb.elim
  | tail _ h=>exact r2.free o h b hb
def aFrm (f:FuncId) (As:List AV):Nat->AV
 | 0=>aAny
 | m+1=>aAt 1 false (aClo f (As++[aFrm f As m]))
theorem CvL.append {O:Nat->Prop}:∀ {As Bs As' Bs':List AV},CvL E own O As Bs->CvL E own O As' Bs'->CvL E own O (As++As') (Bs++Bs')
 | [],[],_,_,_,h=>h
 | _::_,_::_,_,_,⟨h1,h2⟩,h=>⟨h1,CvL.append h2 h⟩
 | [],_::_,_,_,h,_=>h.elim
 | _::_,[],_,_,h,_=>h.elim
theorem cv_knot {k b:Nat} {T:TypeId} {f:FuncId} {us:List Value} {As:List AV} (hk:own[k]? = some (oBox b T [aEx (vClo f (us++[.pointer (some ⟨b,0,none⟩)]))])) (hf:CvL E own (OO E (own.eraseIdx k)) (us.map aEx) As) :
  ∀m,Cv E own (OO E (own.eraseIdx k)) (aEx (.pointer (some ⟨b,0,none⟩))) (aFrm f As m)
 | 0=>cv_any
 | m+1=>cv_box1 (off_erase hk) (cv_clo (by rw [List.map_append];exact hf.append ⟨cv_knot hk hf m,trivial⟩))
end knots
end Go.Cw
