/-
  Rules of a calculus for walks.
-/
import Derived.Test.YtcilbmggiahciaaGreatCjLib
import Derived.Maps.OwnSet
import Derived.Maps.Views
namespace Go.Cw
set_option linter.unusedSimpArgs false
set_option linter.unnecessarySimpa false
set_option linter.unusedVariables false
section maps
open Go.WideElems (Fit rg)
variable {P : Program} {E : Env} {st : St} {Q : Exit -> Act -> World -> Prop} {ops : Array Oper} {rest : List Oper} {s : List (Nat × AV)} {own : List Own}
variable {d : Nat} {ty : TypeId} {pos : String} {af : Array Edge} {g : Option (Nat × Bool)}
def MapB (P:Program) (k e:TypeId) (h:Heap) (b n:Nat) (D:DataW Unit):Prop :=
 ∃es clock,h[b]? = some (.map es clock)/\Fit P k (plainElem (H:=Unit) P e) es clock/\es.size<=n/\D = .map ((es.toList.map (rg P k (plainElem P e))).foldr DataW.insert [])
def MapF (D:DataW Unit) (f:Int->Option Int):Prop :=
 ∀x:Int,-9223372036854775808<=x/\x<=9223372036854775807->Maps.has D (.int .i64 x)=(f x).isSome/\D.atKey (.int .i64 x) (.lit (.int .i64 0)) = .lit (.int .i64 ((f x).getD 0))
def oMap (P:Program) (k e:TypeId) (b n:Nat) (f:Int->Option Int):Own where
 has x:=x=b
 holds h _:=∃D,MapB P k e h b n D/\MapF D f
 mono:=by
  rintro h h' O O' ⟨D,⟨es,clock,g1,g2,g3,g4⟩,hf⟩ hs hb ho
  exact ⟨D,⟨es,clock,by rw [hb b (Array.getElem?_eq_some_iff.1 g1).1 (.inr rfl)];exact g1,g2,g3,g4⟩,hf⟩
 lt:=by
  rintro h O b' ⟨D,⟨es,clock,g1,_⟩,_⟩ hb
  subst hb
  exact (Array.getElem?_eq_some_iff.1 g1).1
abbrev oMp (P:Program) (k e:TypeId) (b:Nat) (s:(Int->Option Int)×Nat):Own:=oMap P k e b s.2 s.1
structure MapTy (P:Program) (t k e:TypeId):Prop where
 und:P.underlying t=some (.map k e)
 key:P.underlying k=some (.int .i64)
 elt:P.underlying e=some (.int .i64)
 zero:∀w,(zeroValue e).run P w = .ok (.int .i64 0) w
theorem wf64 {x:Int} (h : -9223372036854775808<=x/\x<=9223372036854775807):(Lit.int .i64 x).wf=true:=by
 show (decide (IntKind.i64.min<=x) && decide (x<=IntKind.i64.max))=true
 have h1:IntKind.i64.min = -9223372036854775808:=by decide
 have h2:IntKind.i64.max=9223372036854775807:=by decide
 rw [h1,h2,decide_eq_true h.1,decide_eq_true h.2]
 rfl
theorem ok_lookT {t k e:TypeId} {j b n:Nat} {f:Int->Option Int} {m x:Operand} {v:Int} (mt:MapTy P t k e) (hk:own[j]? = some (oMap P k e b n f)) (hm:opd s m=some (aEx (.map (some b)))) (hx:opd s x=some (aInt v))
  (hv : -9223372036854775808<=v/\v<=9223372036854775807):OpOK P E s own ⟨some d,.lookup t m x true,ty,pos,af,g⟩ (aTup [aInt ((f v).getD 0),aBool (decide ((f v).isSome=true))]) :=
 ok_val (fun a w r=>by
  obtain ⟨D,hB,hF⟩:=r.world.own _ (List.mem_of_getElem? hk)
  have hO:w.ownsMap P k (plainElem P e) b n D:=hB
  obtain ⟨u,ps,hrun,hu⟩:=hO.look_ok (Maps.int_keyed mt.key) mt.und (mt.zero w) (plainElem_int mt.elt (by decide)) (key:=.int .i64 v) (kl:=.int .i64 v) (Maps.keyOf_int_mk mt.key (wf64 hv))
  obtain ⟨c,rfl,hc,hwc⟩:=plainElem_int_inv mt.elt hu
  have hf:=hF v hv
  simp only [Prod.mk.injEq] at hc
  rw [hf.2] at hc
  have hce:c=(f v).getD 0:=by have:=hc.1;simp at this;exact this.symm
  refine ⟨_,by simp only [execOp,r.ex hm (by simp [Op.operands,Call.operands]),r.ex hx (by simp [Op.operands,Call.operands]),Sem.run_bind,hrun];rfl,?_⟩
  rw [hf.1,hce,Bool.decide_eq_true]
  exact aTup_two rfl rfl)
theorem ok_lookF {t k e:TypeId} {j b n:Nat} {f:Int->Option Int} {m x:Operand} {v:Int} (mt:MapTy P t k e) (hk:own[j]? = some (oMap P k e b n f)) (hm:opd s m=some (aEx (.map (some b)))) (hx:opd s x=some (aInt v))
  (hv : -9223372036854775808<=v/\v<=9223372036854775807):OpOK P E s own ⟨some d,.lookup t m x false,ty,pos,af,g⟩ (aInt ((f v).getD 0)) :=
 ok_val (fun a w r=>by
  obtain ⟨D,hB,hF⟩:=r.world.own _ (List.mem_of_getElem? hk)
  have hO:w.ownsMap P k (plainElem P e) b n D:=hB
  obtain ⟨c,hrun,hat,hwc⟩:=hO.lookup_int (Maps.int_keyed mt.key) mt.und mt.elt (mt.zero w) (key:=.int .i64 v) (kl:=.int .i64 v) (Maps.keyOf_int_mk mt.key (wf64 hv))
  have hf:=hF v hv
  rw [hf.2] at hat
  have hce:(f v).getD 0=c:=by simpa using hat
  refine ⟨_,by simp only [execOp,r.ex hm (by simp [Op.operands,Call.operands]),r.ex hx (by simp [Op.operands,Call.operands]),Sem.run_bind,hrun];rfl,?_⟩
  rw [hce]
  rfl)
theorem ent_makeMap {t k e:TypeId} (mt:MapTy P t k e) (hd:Nat.ble (d+1) E.n=true)
  (kk:∀b,Ent E ⟨(d,aEx (.map (some b)))::st.slots,oMp P k e b (fun _=>none,0)::st.own⟩ (wpList P ops Q rest)) :
  Ent E st (wpList P ops Q (⟨some d,.makeMap t none,ty,pos,af,none⟩::rest)):=by
 refine ent_new (d:=d) rfl rfl hd (fun b=>oMap P k e b 0 (fun _=>none)) (fun b=>.map (some b)) (fun a w r=>?_) kk
 refine ⟨w.alloc (.map #[] 0),by simp only [execOp,Sem.run_bind,Option.map_none,Go.RowKit.run_makeMap];rfl,Grow.alloc _ _,fun b hb=>hb,.map [],World.ownsMap_made w P k (plainElem P e),fun x _=>⟨rfl,rfl⟩⟩
theorem mapF_put {D:DataW Unit} {f:Int->Option Int} {n:Nat} (hF:MapF D f) (hm:Maps.IsMap D) {x y:Int} (hx : -9223372036854775808<=x/\x<=9223372036854775807):MapF (D.put (.int .i64 x) (.lit (.int .i64 y))) (fun z=>if z=x then some y else f z):=by
 intro z hz
 have hkl:WideAt.IsKeyLit (.int .i64 x):=by simp [WideAt.IsKeyLit]
 by_cases e:z=x
 ·subst e
  dsimp only
  rw [if_pos rfl,Maps.has_put_same hm hkl,Maps.atKey_put_same hm hkl]
  exact ⟨rfl,rfl⟩
 ·have hne:(Lit.int .i64 z) ≠ .int .i64 x:=fun h=>e (by injection h)
  dsimp only
  rw [if_neg e,Maps.has_put_other hne,Maps.atKey_put_other hne]
  exact hF z hz
theorem ent_mapUpd {t k e:TypeId} {j b n:Nat} {f:Int->Option Int} {m xo yo:Operand} {x y:Int} {op:Op} (hop:op = .mapUpdate t m xo yo\/op = .insert t m xo yo) (mt:MapTy P t k e) (hk:st.own[j]? = some (oMap P k e b n f)) (hm:opd st.slots m=some (aEx (.map (some b))))
  (hx:opd st.slots xo=some (aInt x)) (hy:opd st.slots yo=some (aInt y)) (hx64 : -9223372036854775808<=x/\x<=9223372036854775807) (hy64 : -9223372036854775808<=y/\y<=9223372036854775807) (hn:n<4611686018427387904)
  (kk:Ent E ⟨st.slots,st.own.set j (oMap P k e b (n+1) (fun z=>if z=x then some y else f z))⟩ (wpList P ops Q rest)) :
  Ent E st (wpList P ops Q (⟨none,op,ty,pos,af,none⟩::rest)):=by
 refine ent_write (γ:=Unit) rfl (fun _ h=>by cases h) hk (fun _=>oMap P k e b (n+1) (fun z=>if z=x then some y else f z)) (fun _=>undef) (fun _=>.skip) (fun _=>.inr ⟨rfl,rfl⟩) (fun _=>True)
  (fun a w r=>?_) (fun _ _=>kk)
 obtain ⟨D,hB,hF⟩:=r.own _ (List.mem_of_getElem? hk)
 have hO:w.ownsMap P k (plainElem P e) b n D:=hB
 obtain ⟨w',hrun,hO',hg⟩:=hO.update (Maps.int_keyed mt.key) mt.und (Nat.lt_of_lt_of_le hn (by simp only [maxLen];omega)) (key:=.int .i64 x) (val:=.int .i64 y) (kl:=.int .i64 x) (Maps.keyOf_int_mk mt.key (wf64 hx64)) (plainElem_int mt.elt (wf64 hy64))
 refine ⟨(),w',trivial,?_,⟨hg.os,hg.tape,hg.output,hg.size,fun b' hb' hne=>hg.block b' hb' (fun h=>hne (by injection h))⟩,fun _ h=>.inl h,_,hO',mapF_put (n:=n) hF hO.isMap hx64⟩
 rcases hop with rfl | rfl <;> simp [execOp,r.evalEx hm,r.evalEx hx,r.evalEx hy,hrun]
end maps
end Go.Cw
