/-
  Rules.
-/
import Derived.Test.YtaipghchkamajaaCxLib
set_option linter.unnecessarySimpa false
namespace Go.Cw
set_option linter.unusedSimpArgs false
set_option linter.unusedVariables false
section
variable {P : Program} {E : Env} {st : St}
def pickOps (ops:Array Oper):List Nat->List Oper
 | []=>[]
 | k::ks=>match ops[k]? with
  | some o=>o::pickOps ops ks
  | none=>[]
theorem wpList_move {ops:Array Oper} {Q:Exit->Act->World->Prop} {a:Act} {w:World} {rest:List Oper} {d:Nat} {x:Operand} {ty:TypeId} {pos:String} {af:Array Edge}
  (h:wpList P ops Q (⟨some d,.move x,ty,pos,af,none⟩::rest) a w):wpList P ops Q rest (a.put (some d) (a.eval x)) w:=by
 unfold wpList at h
 simp only [Region.wanted,if_true] at h
 rcases h with h | ⟨h,_⟩
 ·simpa [Oper.wp,execOp,Oper.upon] using h
 ·simp [Oper.asks,execOp] at h
  have h':noRoomEvent∈(#[]:Array Event):=h
  simp at h'
theorem wpList_assign {ops:Array Oper} {Q:Exit->Act->World->Prop} {a:Act} {w:World} {rest:List Oper} {d:Nat} {x:Operand} {ty:TypeId} {pos:String} {af:Array Edge}
  (h:wpList P ops Q (⟨some d,.assign x,ty,pos,af,none⟩::rest) a w):wpList P ops Q rest (a.put (some d) (a.eval x)) w:=by
 unfold wpList at h
 simp only [Region.wanted,if_true] at h
 rcases h with h | ⟨h,_⟩
 ·simpa [Oper.wp,execOp,Oper.upon] using h
 ·simp [Oper.asks,execOp] at h
  have h':noRoomEvent∈(#[]:Array Event):=h
  simp at h'
end
section
variable {P : Program} {E : Env} {s : List (Nat × AV)} {own : List Own}
variable {d : Nat} {ty : TypeId} {pos : String} {af : Array Edge} {g : Option (Nat × Bool)}
def aFull {α:Type} (sz:Nat) (agg:Bool) (enc:α->AV) (xs:List α):AV where
 holds h O v:=(∃p,v = .slice p xs.length xs.length)/\(aSl sz agg enc xs).holds h O v
 mono:=fun h h' O O' v ⟨h1,h2⟩ hs hb ho=>⟨h1,(aSl sz agg enc xs).mono h h' O O' v h2 hs hb ho⟩
theorem aFull_sl {α:Type} {sz:Nat} {agg:Bool} {enc:α->AV} {xs:List α}:∀h O v,(aFull sz agg enc xs).holds h O v->(aSl sz agg enc xs).holds h O v:=fun _ _ _ h=>h.2
theorem ok_build1F {α:Type} {T e:TypeId} {sz bytes:Nat} {agg:Bool} {z:Value} {enc:α->AV} {y:α} {yv:Operand} {B:AV} (ht:VecTy P T e sz bytes agg z) (hy:opd s yv=some B) (hc:Cv E own (OO E own) B (enc y)) (he:ElemOK (enc y) agg sz) (hsz:sz<=16777216) :
  OpOK P E s own ⟨some d,.buildSlice T 1 #[(0,yv)],ty,pos,af,g⟩ (aFull sz agg enc [y]):=by
 intro a w r K Q hK
 obtain ⟨ii,i1,i2,i3,i4⟩:=ht.info
 have hv:=hc w _ r.world (r.ev yv (by simp [Op.operands,Call.operands]) _ hy)
 obtain ⟨us,u1,u2,u3,u4⟩:=he _ _ _ hv
 have hcs:(a.eval yv).cells=us.toArray:=by rw [<- u3]
 have hb1:(execOp a.eval ⟨some d,.buildSlice T 1 #[(0,yv)],ty,pos,af,g⟩).run P w = .ok (.value (.slice (some ⟨w.heap.size,0,none⟩) 1 1)) (w.alloc (.cells us.toArray e)):=by
  have hfill:=fill_one (cells:=(Array.range (1*sz)).map (z.cells[· % z.cells.size]!)) (a.eval yv) hcs (by simp [u1])
  have hsize:us.toArray.size=sz:=by simp [u1]
  rw [hsize] at hfill
  have hp:=ht.pos
  have hz0':¬(sz=0):=by omega
  have hbig':¬(16777216<sz):=by omega
  simp only [Nat.one_mul] at hfill
  simp [execOp,Instr.buildSlice,run_underlying ht.und,ht.sl.size,zeroValue,typeInfo,i1,i2,newRow,hz0',hbig',hfill]
 unfold Oper.wp
 rw [hb1,Oper.upon_value]
 have gr:=Grow.alloc w (.cells us.toArray e)
 refine hK _ _ gr ⟨⟨_,rfl⟩,some ⟨w.heap.size,0,none⟩,1,rfl,Nat.le_refl _,by simp [maxLen],ht.one,fun i x hx=>?_⟩
 match i,hx with
 | 0,hx =>
  simp only [List.getElem?_cons_zero,Option.some.injEq] at hx
  subst hx
  refine ⟨w.heap.size,0,us,rfl,u1,⟨fun hO=>?_,us.toArray,e,(0,0),heap_alloc_new w _,fun j u hu=>by simpa using hu⟩,?_⟩
  ·exact absurd (r.lt _ hO) (by omega)
  ·rw [<- u2];exact (enc y).mono _ _ _ _ _ hv gr.size (fun b hb _=>gr.block b hb) (fun _ _ h=>h)
 | i+1,hx=>simp at hx
end
section draws2
variable {P : Program} {E : Env} {own : List Own}
variable {s : List (Nat × AV)} {D : Nat -> Nat} {A : Nat -> AV} {l : List Oper} {n f f2 : Nat} {listed : Array Bool} {a : Act} {w : World}
theorem DInv.slot2 (inv:DInv E own s D A l n f listed a w) (hn:n<=l.length) (hB:drawF l n f2=true) (hspec:∀k o,k<n->l[k]? = some o->o.dst=some (D k)/\D k<E.n/\Spec P E own l.toArray (stt s D A k) o (A k))
  {j:Nat} {oj:Oper} (hj:l[j]? = some oj) (hjn:j<n) (hun:listed.getD j false=false)
  (hr:∀e∈oj.after,Region.binds .any e=true->listed.getD e.on false=true) {t:Nat} (ht:t∈namesOf l.toArray oj) {B:AV} (hlook:look (stt s D A j) t=some B) :
  ∃v,a.tmps[t]? = some v/\B.holds w.heap (OO E own) v:=by
 obtain ⟨hord,_⟩:=B_z hB
 by_cases hex:∃i,i<j/\D i=t
 ·obtain ⟨i,hij,hit⟩:=hex
  have hil:i<l.length:=by omega
  have hoi:l[i]? = some l[i]:=g_E hil
  have hdi:=(hspec i _ (by omega) hoi).1
  have hw:=((hord i j _ _ hij hoi hj).1.1 (D i) hdi (by rw [hit];exact ht))
  have hli:listed.getD i false=true:=B_o inv.closed _ j i hw (fun oj' h'=>by
   have : oj'=oj:=by simp only [List.getElem?_toArray] at h';rw [hj] at h';exact (Option.some.inj h').symm
   subst this;exact hr)
  have hl2:look (stt s D A j) (D i)=some (A i):=C_i j hij fun k hk1 hk2 hk3=>by
   have hkl:k<l.length:=by omega
   have hok:l[k]? = some l[k]:=g_E hkl
   have:=(hord i k _ _ hk1 hoi hok).2.2 (by omega) (D i) hdi
   rw [(hspec k _ (by omega) hok).1] at this
   exact this (by rw [hk3])
  rw [hit,hlook] at hl2
  cases hl2
  rw [<- hit]
  exact inv.done i (by omega) hli
 ·have hno:∀i,i<j->D i≠t:=fun i h1 h2=>hex ⟨i,h1,h2⟩
  rw [C_j j hno] at hlook
  refine inv.base t B hlook fun i hin hil hit=>?_
  rcases Nat.lt_trichotomy i j with h | h | h
  ·exact hno i h hit
  ·subst h;rw [hun] at hil;cases hil
  ·have hill:i<l.length:=by omega
   have hoi:l[i]? = some l[i]:=g_E hill
   have hw:=(hord j i _ _ h hj hoi).1.2 (D i) (hspec i _ hin hoi).1 (by rw [hit];exact ht)
   have:=B_o inv.closed _ i j hw (fun oi' h'=>inv.closed i oi' h' hil)
   rw [hun] at this;cases this
theorem DInv.step2 (inv:DInv E own s D A l n f listed a w) (hB:drawF l n f2=true) (hn:n<=l.length) (hspec:∀k o,k<n->l[k]? = some o->o.dst=some (D k)/\D k<E.n/\Spec P E own l.toArray (stt s D A k) o (A k))
  {j:Nat} {oj:Oper} (hj:l[j]? = some oj) (hjn:j<n)
  (hr:∀e∈oj.after,Region.binds .any e=true->listed.getD e.on false=true) {v:Value} {w':World} (g:Grow w w') (hv:(A j).holds w'.heap (OO E own) v) :
  DInv E own s D A l n f (listed.setIfInBounds j true) (a.put oj.dst v) w':=by
 obtain ⟨hord,_⟩:=B_z hB
 have hdj:=(hspec j oj hjn hj)
 have hset:∀i,i≠j->(listed.setIfInBounds j true).getD i false=listed.getD i false:=fun i hi=>getD_set_ne false (Ne.symm hi)
 have hmono:∀(B:AV) u,B.holds w.heap (OO E own) u->B.holds w'.heap (OO E own) u:=fun B u h=>B.mono _ _ _ _ _ h g.size (fun b hb _=>g.block b hb) (fun _ _ h=>h)
 have hne:∀i,i<n->i≠j->D i≠D j:=fun i hin hij he=>by
  have hill:i<l.length:=by omega
  have hoi:l[i]? = some l[i]:=g_E hill
  rcases Nat.lt_or_gt_of_ne hij with h | h
  ·have:=(hord i j _ _ h hoi hj).2.2 hjn (D i) (hspec i _ hin hoi).1
   rw [hdj.1] at this;exact this (by rw [he])
  ·have:=(hord j i _ _ h hj hoi).2.2 hin (D j) hdj.1
   rw [(hspec i _ hin hoi).1] at this;exact this (by rw [he])
 refine ⟨by simp [inv.sz],fun i hi=>getD_set_true (inv.fl i hi),?_,?_,inv.world.grow g,?_,?_,?_,?_⟩
 ·intro k ok hk hl e he hb
  by_cases hkj:k=j
  ·subst hkj
   have : ok=oj:=by simp only [List.getElem?_toArray] at hk;rw [hj] at hk;exact (Option.some.inj hk).symm
   subst this
   exact getD_set_true (hr e he hb)
  ·rw [hset k hkj] at hl
   exact getD_set_true (inv.closed k ok hk hl e he hb)
 ·intro t ht
  rw [hset t (by omega)];exact inv.tail t ht
 ·rw [hdj.1];simp [Act.put,inv.size]
 ·rw [hdj.1];simpa [Act.put] using inv.defers
 ·intro i hin hl
  by_cases hij:i=j
  ·subst hij
   refine ⟨v,?_,hv⟩
   rw [hdj.1]
   simp only [Act.put]
   rw [Array.getElem?_setIfInBounds_self,i_P (by rw [inv.size];exact hdj.2.1)]
  ·rw [hset i hij] at hl
   obtain ⟨u,h1,h2⟩:=inv.done i hin hl
   refine ⟨u,?_,hmono _ _ h2⟩
   rw [hdj.1]
   simp only [Act.put]
   rw [Array.getElem?_setIfInBounds_ne (Ne.symm (hne i hin hij))]
   exact h1
 ·intro t B hlook hno
  have htj:D j≠t:=hno j hjn (by
   have hlt:j<listed.size:=by rw [inv.sz];exact (g_S hj).1
   simp [hlt])
  obtain ⟨u,h1,h2⟩:=inv.base t B hlook (fun i hin hl=>hno i hin (getD_set_true hl))
  refine ⟨u,?_,hmono _ _ h2⟩
  rw [hdj.1]
  simp only [Act.put]
  rw [Array.getElem?_setIfInBounds_ne htj]
  exact h1
theorem DInv.end2 (inv:DInv E own s D A l n f listed a w) (hB:drawF l n f2=true) (hn:n<=l.length) (hspec:∀k o,k<n->l[k]? = some o->o.dst=some (D k)/\D k<E.n/\Spec P E own l.toArray (stt s D A k) o (A k))
  (hall:∀i,i<n->listed.getD i false=true):Rep E ⟨stt s D A n,own⟩ a w:=by
 obtain ⟨hord,_⟩:=B_z hB
 refine ⟨inv.size,inv.defers,fun t B hlook=>?_,inv.world.own,inv.world.apart,inv.world.free,inv.world.xold,inv.world.keep⟩
 by_cases hex:∃i,i<n/\D i=t
 ·obtain ⟨i,hin,hit⟩:=hex
  have hil:i<l.length:=by omega
  have hoi:l[i]? = some l[i]:=g_E hil
  have hdi:=(hspec i _ (by omega) hoi).1
  have hl2:look (stt s D A n) (D i)=some (A i):=C_i n hin fun k hk1 hk2 hk3=>by
   have hkl:k<l.length:=by omega
   have hok:l[k]? = some l[k]:=g_E hkl
   have:=(hord i k _ _ hk1 hoi hok).2.2 (by omega) (D i) hdi
   rw [(hspec k _ (by omega) hok).1] at this
   exact this (by rw [hk3])
  have hlook':look (stt s D A n) t=some B:=hlook
  rw [<- hit,hl2] at hlook'
  cases hlook'
  rw [<- hit]
  exact inv.done i hin (hall i hin)
 ·have hno:∀i,i<n->D i≠t:=fun i h1 h2=>hex ⟨i,h1,h2⟩
  have hlook':look (stt s D A n) t=some B:=hlook
  rw [C_j n hno] at hlook'
  exact inv.base t B hlook' fun i hin _=>hno i hin
def FreeRun {α:Type} (P:Program) (m:Sem α):Prop:=(∃v,∀w,m.run P w = .ok v w)\/(∀w v w1,m.run P w ≠ .ok v w1)
set_option maxHeartbeats 1000000 in
theorem freeRun_index (T:TypeId) (x i:Value):FreeRun P (Instr.indexAt T x i):=by
 unfold FreeRun
 cases i with
 | int k n =>
  cases hu:P.underlying T with
  | none=>right;intro w v w1 h;simp [Instr.indexAt,asIntOf,underlying,hu] at h
  | some d =>
   cases d with
   | slice elem =>
    cases x with
    | slice base len cap =>
     cases base with
     | none=>right;intro w v w1 h;simp [Instr.indexAt,asIntOf,underlying,hu,boundsPanic] at h;(repeat' split at h) <;> simp [runtimePanic] at h
     | some a =>
      by_cases hb:0<=n/\n<(len:Int)
      ·cases hi:P.info? elem with
       | none=>right;intro w v w1 h;simp [Instr.indexAt,asIntOf,underlying,hu,hb,sizeOf,typeInfo,hi] at h
       | some ii=>left;exact ⟨_,fun w=>by simp [Instr.indexAt,asIntOf,underlying,hu,hb,sizeOf,typeInfo,hi];rfl⟩
      ·right;intro w v w1 h;simp [Instr.indexAt,asIntOf,underlying,hu,hb,boundsPanic] at h;(repeat' split at h) <;> simp [runtimePanic] at h
    | _=>right;intro w v w1 h;simp [Instr.indexAt,asIntOf,underlying,hu] at h
   | array len elem =>
    cases x with
    | pointer a =>
     cases a with
     | none=>right;intro w v w1 h;simp [Instr.indexAt,asIntOf,underlying,hu,Instr.sureAddr] at h
     | some a =>
      by_cases hb:0<=n/\n<(len:Int)
      ·cases hi:P.info? elem with
       | none=>right;intro w v w1 h;simp [Instr.indexAt,asIntOf,underlying,hu,hb,sizeOf,typeInfo,hi,Instr.sureAddr] at h
       | some ii=>left;exact ⟨_,fun w=>by simp [Instr.indexAt,asIntOf,underlying,hu,hb,sizeOf,typeInfo,hi,Instr.sureAddr];rfl⟩
      ·right;intro w v w1 h
       by_cases ht:len<=1
       ·simp [Instr.indexAt,asIntOf,underlying,hu,hb,boundsPanic,Instr.sureAddr,ht] at h
       ·simp [Instr.indexAt,asIntOf,underlying,hu,hb,boundsPanic,Instr.sureAddr,ht] at h;(repeat' split at h) <;> simp [runtimePanic] at h
    | _=>right;intro w v w1 h;simp [Instr.indexAt,asIntOf,underlying,hu,Instr.sureAddr] at h
   | _=>right;intro w v w1 h;simp [Instr.indexAt,asIntOf,underlying,hu] at h
 | pointer a=>right;intro w v w1 h;cases a <;> simp [Instr.indexAt,asIntOf] at h
 | _=>right;intro w v w1 h;simp [Instr.indexAt,asIntOf] at h
def pureOp (o:Oper):Bool:=match o with
 | ⟨some _,.move _,_,_,_,none⟩=>true
 | ⟨some _,.assign _,_,_,_,none⟩=>true
 | ⟨some _,.extract _ _,_,_,_,none⟩=>true
 | ⟨some _,.indexAddr _ _ _,_,_,_,none⟩=>true
 | _=>false
def flB (l:List Oper) (n:Nat) (fl:List Nat):Bool :=
 let ops:=l.toArray
 (fl.all fun i=>Nat.ble (i+1) n && (match ops[i]? with
  | some oi=>pureOp oi && ((List.range l.length).all fun j=>Nat.beq j i || waits ops l.length i j || (match ops[j]? with
   | some oj=>oj.after.any (fun e=>Region.binds .any e && e.on == i) || oi.apart ops oj
   | none=>true))
  | none=>false)) &&
 ((List.range l.length).all fun j=>!(Nat.ble n j) || ((List.range n).all fun i=>fl.contains i || waits ops l.length j i))
theorem flB_spec {fl:List Nat} (h:flB l n fl=true) :
  (∀i∈fl,i<n/\∃oi,l[i]? = some oi/\pureOp oi=true/\∀listed:Array Bool,listed.size=l.length->Closed l.toArray listed->i∈Region.ready .any l.toArray listed->Region.free .any l.toArray listed i=true) /\
  (∀j,n<=j->j<l.length->∀i,i<n->i∉fl->waits l.toArray l.length j i=true):=by
 unfold flB at h
 simp only [Bool.and_eq_true] at h
 obtain ⟨h1,h2⟩:=h
 refine ⟨fun i hi=>?_,fun j hj hjl i hin hfl=>?_⟩
 ·have h3:=List.all_eq_true.1 h1 i hi
  rw [Bool.and_eq_true] at h3
  refine ⟨b_L h3.1,?_⟩
  have h4:=h3.2
  cases hoi:l.toArray[i]? with
  | none=>rw [hoi] at h4;cases h4
  | some oi =>
   rw [hoi] at h4
   simp only [Bool.and_eq_true] at h4
   refine ⟨oi,by simpa using hoi,h4.1,fun listed hsz hcl hrd=>?_⟩
   unfold Region.free
   rw [hoi]
   simp only
   rw [List.all_eq_true]
   intro j hj
   have h5:=List.all_eq_true.1 h4.2 j (by simpa using hj)
   rw [Bool.or_eq_true,Bool.or_eq_true] at h5
   rcases h5 with (h5 | h5) | h5
   ·have:=Nat.eq_of_beq_eq_true h5
    subst this;simp
   ·obtain ⟨_,oi',hoi',hall⟩:=mem_ready.1 hrd
    have hlj:=B_o hcl _ i j h5 (fun o ho=>by rw [hoi'] at ho;cases ho;exact hall)
    have hj':j<listed.size:=by rw [hsz];simpa using hj
    rw [C_u hj',hlj];simp
   ·cases hoj:l.toArray[j]? with
    | none=>simp
    | some oj =>
     rw [hoj] at h5
     simp only at h5 ⊢
     rw [h5];simp
 ·have h3:=List.all_eq_true.1 h2 j (List.mem_range.2 hjl)
  rw [Nat.ble_eq_true_of_le hj] at h3
  simp only [Bool.not_true,Bool.false_or] at h3
  have h4:=List.all_eq_true.1 h3 i (List.mem_range.2 hin)
  rw [Bool.or_eq_true] at h4
  rcases h4 with h4 | h4
  ·exact absurd (by simpa using h4) hfl
  ·exact h4
theorem E_M {o:Oper} {d:Nat} {A:AV} {s:List (Nat×AV)} {ops:Array Oper} (hd:o.dst=some d) (hp:pureOp o=true) (ok:OpOK P E s own o A) (r:OpR E s own o a w) (hlt:d<a.tmps.size) :
  ∃v,Yields P ops o v a/\A.holds w.heap (OO E own) v:=by
 have key:=ok a w r (fun a' w'=>∃v,a'.tmps[d]? = some v/\A.holds w'.heap (OO E own) v) (fun _ _ _=>False) (fun v w' g hh=>⟨v,by
  rw [hd]
  simp only [Act.put]
  rw [Array.getElem?_setIfInBounds_self,i_P hlt],hh⟩)
 have fin:∀v,(∀w',(execOp a.eval o).run P w' = .ok (.value v) w')->Region.wanted o (yielded ops a.tmps)=true->∃v,Yields P ops o v a/\A.holds w.heap (OO E own) v:=by
  intro v hv hw
  unfold Oper.wp at key
  rw [hv,Oper.upon_value] at key
  obtain ⟨u,h1,h2⟩:=key
  rw [hd] at h1
  simp only [Act.put] at h1
  rw [Array.getElem?_setIfInBounds_self,i_P hlt] at h1
  cases h1
  exact ⟨v,.inl ⟨hw,hv⟩,h2⟩
 rcases o with ⟨dst,op,ty,pos,af,g⟩
 cases hd
 cases op <;> cases g <;> simp [pureOp] at hp
 ·rename_i x
  exact fin (a.eval x) (fun w'=>by simp [execOp]) (by simp [Region.wanted])
 ·rename_i x
  exact fin (a.eval x) (fun w'=>by simp [execOp]) (by simp [Region.wanted])
 ·rename_i T x i
  rcases freeRun_index (P:=P) T (a.eval x) (a.eval i) with ⟨v,hv⟩ | hno
  ·exact fin v (fun w'=>by simp [execOp,hv]) (by simp [Region.wanted])
  ·exfalso
   unfold Oper.wp at key
   have hrun:∀n w',(execOp a.eval ⟨some d,.indexAddr T x i,ty,pos,af,none⟩).run P w ≠ .ok n w':=by
    intro n w' h
    cases hr:(Instr.indexAt T (a.eval x) (a.eval i)).run P w with
    | ok v w1=>exact hno w v w1 hr
    | halt y w1=>simp [execOp,hr] at h
   generalize (execOp a.eval ⟨some d,.indexAddr T x i,ty,pos,af,none⟩).run P w=r at key hrun
   cases r with
   | ok n w'=>exact hrun n w' rfl
   | halt y w'=>cases y <;> simp [Oper.upon] at key
 ·rename_i x i
  cases hx:a.eval x <;> try (exfalso;simp [Oper.wp,execOp,Instr.extract,hx,Oper.upon] at key;done)
  rename_i vs
  by_cases hi:i<vs.size
  ·exact fin vs[i] (fun w'=>by simp [execOp,Instr.extract,hx,hi]) (by simp [Region.wanted])
  ·exfalso
   simp [Oper.wp,execOp,Instr.extract,hx,hi,Oper.upon] at key
theorem E_7 {Q:Exit->Act->World->Prop} {g:Nat} {fl:List Nat} (hB:drawF l n f2=true) (hF:flB l n fl=true) (hsel:Region.noSelect l.toArray=true) (hQ:∀c a w (d:Nat) v,Q (.panic c) (a.put (some d) v) w->Q (.panic c) a w)
  (hn:n<=l.length) (hspec:∀k o,k<n->l[k]? = some o->o.dst=some (D k)/\D k<E.n/\Spec P E own l.toArray (stt s D A k) o (A k))
  (I:Act->World->Prop) (hI:∀(j:Nat) (oj:Oper) (v:Value) (a:Act) (w w':World),j<n->l[j]? = some oj->Grow w w'->I a w->I (a.put oj.dst v) w') (hend:∀listed a w,I a w->DInv E own s D A l n 0 listed a w->(∀i,i<n->listed.getD i false=true)->wpAny P .any l.toArray Q g listed a w) :
  ∀(c:Nat) (listed:Array Bool) (a:Act) (w:World),((List.range n).filter fun i=>!(listed.getD i false)).length=c->I a w->DInv E own s D A l n 0 listed a w ->
   wpAny P .any l.toArray Q (c+g) listed a w
 | 0,listed,a,w,hc,hgr,inv=>by
  rw [Nat.zero_add]
  refine hend listed a w hgr inv fun i hi=>?_
  have hnil:=List.eq_nil_of_length_eq_zero hc
  have:=List.filter_eq_nil_iff.1 hnil i (List.mem_range.2 hi)
  simpa using this
 | c+1,listed,a,w,hc,hgr,inv=>by
  obtain ⟨hord,hlow⟩:=B_z hB
  obtain ⟨hfl1,hfl2⟩:=flB_spec hF
  have hex:∃j,j<n/\listed.getD j false=false:=by
   cases hl:(List.range n).filter fun i=>!(listed.getD i false) with
   | nil=>rw [hl] at hc;simp at hc
   | cons j r =>
    have : j∈(List.range n).filter fun i=>!(listed.getD i false):=by rw [hl];simp
    simp only [List.mem_filter,List.mem_range] at this
    exact ⟨j,this.1,by simpa using this.2⟩
  have hleast:∃k,k<n/\listed.getD k false=false/\∀i,i<k->listed.getD i false=true:=by
   obtain ⟨j,hj1,hj2⟩:=hex
   clear hc
   induction j using Nat.strongRecOn with
   | _ j ih =>
    by_cases h:∀i,i<j->listed.getD i false=true
    ·exact ⟨j,hj1,hj2,h⟩
    ·simp only [Classical.not_forall] at h
     obtain ⟨i,h1,h2⟩:=h
     exact ih i h1 (by omega) (by simpa using h2)
  have hrdy:∀k,k<n->listed.getD k false=false->(∀i,i<k->listed.getD i false=true)->k∈Region.ready .any l.toArray listed:=by
   intro k hk1 hk2 hk3
   have hkl:k<l.length:=by omega
   have hok:l[k]? = some l[k]:=g_E hkl
   exact mem_ready.2 ⟨by rw [C_u (by rw [inv.sz];exact hkl)];exact hk2,l[k],by simp [hok],fun e he hb=>hk3 _ (hlow k _ hok e he hb)⟩
  have hready:Region.ready .any l.toArray listed≠[]:=by
   obtain ⟨k,hk1,hk2,hk3⟩:=hleast
   intro h0
   have:=hrdy k hk1 hk2 hk3
   rw [h0] at this;cases this
  rw [show c+1+g=(c+g)+1 by omega]
  have each:∀j,j∈Region.ready .any l.toArray listed->j<n->∃oj,l[j]? = some oj/\OpR E (stt s D A j) own oj a w /\
    (∀v w',Grow w w'->(A j).holds w'.heap (OO E own) v->wpAny P .any l.toArray Q (c+g) (listed.setIfInBounds j true) (a.put oj.dst v) w')/\listed.getD j false=false /\
    (∀e∈oj.after,Region.binds .any e=true->listed.getD e.on false=true):=by
   intro j hj hjn
   obtain ⟨hun',oj,hoj',hall⟩:=mem_ready.1 hj
   have hoj:l[j]? = some oj:=by simpa using hoj'
   have hjl:j<l.length:=(g_S hoj).1
   have hun:listed.getD j false=false:=by rw [<- C_u (by rw [inv.sz];exact hjl)];exact hun'
   have hcount:((List.range n).filter fun i=>!((listed.setIfInBounds j true).getD i false)).length=c:=by
    have key:∀m,m<=n->((List.range m).filter fun i=>!((listed.setIfInBounds j true).getD i false)).length+(if j<m then 1 else 0)=((List.range m).filter fun i=>!(listed.getD i false)).length:=by
     intro m
     induction m with
     | zero=>intro _;simp
     | succ m ih =>
      intro hm
      have:=ih (by omega)
      rw [List.range_succ,List.filter_append,List.filter_append,l_A,l_A]
      by_cases hmj:m=j
      ·subst hmj
       have h1:(listed.setIfInBounds m true).getD m false=true:=by simp [inv.sz,hjl]
       rw [i_N (by omega)] at this
       simp only [List.filter_cons,h1,hun,List.filter_nil]
       simp at this ⊢
       omega
      ·have e0:(listed.setIfInBounds j true).getD m false=listed.getD m false:=getD_set_ne false (fun h=>hmj h.symm)
       have e1:(if j<m+1 then 1 else 0)=(if j<m then 1 else 0:Nat):=by
        by_cases hjm:j<m
        ·have : j<m+1:=by omega
         simp [hjm,this]
        ·have : ¬j<m+1:=by omega
         simp [hjm,this]
       rw [e1,List.filter_cons,List.filter_cons,e0]
       simp only [List.filter_nil]
       omega
    have:=key n (Nat.le_refl _)
    rw [i_P hjn,hc] at this
    omega
   have hopR:OpR E (stt s D A j) own oj a w:=⟨inv.world,fun x hx B hB'=>by
    cases x with
    | tmp t =>
     have ht:t∈namesOf l.toArray oj:=by
      unfold namesOf
      refine List.mem_append_left _ (List.mem_append_right _ ?_)
      exact List.mem_filterMap.2 ⟨.tmp t,by simpa using hx,rfl⟩
     obtain ⟨v,h1,h2⟩:=inv.slot2 hn hB hspec hoj hjn hun hall ht hB'
     show B.holds _ _ (a.tmps.getD t undef)
     rw [Array.getD_eq_getD_getElem?,h1]
     exact h2
    | const v=>simp only [opd,Option.some.injEq] at hB';subst hB';rfl
    | global g=>simp only [opd,Option.some.injEq] at hB';subst hB';rfl
    | func f=>simp only [opd,Option.some.injEq] at hB';subst hB';rfl⟩
   exact ⟨oj,hoj,hopR,fun v w' gr hv=>E_7 hB hF hsel hQ hn hspec I hI hend c _ _ _ hcount (hI j oj v a w w' hjn hoj gr hgr) (inv.step2 hB hn hspec hoj hjn hall gr hv),hun,hall⟩
  by_cases hfl:∃i∈fl,i∈Region.ready .any l.toArray listed
  ·obtain ⟨i,hi1,hi2⟩:=hfl
   obtain ⟨hin,oi,hoi,hpure,hfree⟩:=hfl1 i hi1
   obtain ⟨oj,hoj,hopR,hnext,_,_⟩:=each i hi2 hin
   rw [hoi] at hoj;cases hoj
   obtain ⟨hd1,hd2,hsp⟩:=hspec i oi hin hoi
   have hgd:oi.guard=none:=by
    rcases oi with ⟨dst,op,ty,pos,af,g⟩
    cases dst <;> cases op <;> cases g <;> simp [pureOp] at hpure <;> rfl
   unfold Spec at hsp
   rw [hgd] at hsp
   obtain ⟨v,hy,hv⟩:=E_M (ops:=l.toArray) hd1 hpure hsp hopR (by rw [inv.size];exact hd2)
   exact wpAny_take (by simpa using hoi) hsel (hfree listed inv.sz inv.closed hi2) (by simpa using hi2) (fun c a w h=>by rw [hd1] at h;exact hQ c a w _ _ h) hy (hnext v w (Grow.refl w) hv)
  ·refine ⟨fun h0=>absurd h0 hready,fun j hj=>?_⟩
   have hjn:j<n:=by
    rcases Nat.lt_or_ge j n with h | h
    ·exact h
    ·exfalso
     obtain ⟨hun',oj,hoj',hall⟩:=mem_ready.1 hj
     have hoj:l[j]? = some oj:=by simpa using hoj'
     have hjl:j<l.length:=(g_S hoj).1
     obtain ⟨k,hk1,hk2,hk3⟩:=hleast
     by_cases hkf:k∈fl
     ·exact hfl ⟨k,hkf,hrdy k hk1 hk2 hk3⟩
     ·have hw:=hfl2 j h hjl k hk1 hkf
      have:=B_o inv.closed _ j k hw (fun oj' h'=>by
       have : oj'=oj:=by simp only [List.getElem?_toArray] at h';rw [hoj] at h';exact (Option.some.inj h').symm
       subst this;exact hall)
      rw [hk2] at this;cases this
   obtain ⟨oj,hoj,hopR,hnext,hun,hall⟩:=each j hj hjn
   have hoj':l.toArray[j]? = some oj:=by simpa using hoj
   obtain ⟨hd1,hd2,hsp⟩:=hspec j oj hjn hoj
   unfold wpOp
   rw [hoj']
   dsimp only
   unfold Spec at hsp
   split at hsp
   ·rename_i hgd
    rw [i_P (by simp [Region.wanted,hgd])]
    exact .inl (hsp a w hopR _ _ hnext)
   ·rename_i jg want hgd
    obtain ⟨dj,gg,h1,h2,h3⟩:=hsp
    have hname:dj∈namesOf l.toArray oj:=by
     unfold namesOf
     refine List.mem_append_right _ ?_
     rw [hgd]
     simp only [h1]
     simp
    obtain ⟨v,hv1,hv2⟩:=inv.slot2 hn hB hspec hoj hjn hun hall hname h2
    have hy:yielded l.toArray a.tmps jg=gg:=F_Z h1 hv1 hv2
    rcases h3 with ⟨h4,h5⟩ | ⟨h4,h5⟩
    ·rw [i_P (by simp [Region.wanted,hgd,hy,h4])]
     exact .inl (h5 a w hopR _ _ hnext)
    ·rw [i_N (by simp [Region.wanted,hgd,hy,h4])]
     exact hnext undef w (Grow.refl w) (h5.holds _ _)
theorem D_G {st:St} {Q:Exit->Act->World->Prop} {id:Nat} {l:List Oper} (n:Nat) (fl:List Nat) (hm:P.follows .mixedOrders=true) (hn:Nat.ble n l.length=true) (hB:drawF l n n=true) (hF:flB l n fl=true) (hsel:Region.noSelect l.toArray=true)
  (hS:Region.seqB .any l.toArray (l.length-n) n (Array.replicate n true++Array.replicate (l.length-n) false)=true) (hQ:∀c a w (d:Nat) v,Q (.panic c) (a.put (some d) v) w->Q (.panic c) a w)
  (h:DW P E st.own l.toArray (l.take n) st.slots (fun s'=>Ent E ⟨s',st.own⟩ (wpList P l.toArray Q (l.drop n)))):Ent E st ((Code.region id l.toArray true).wp P Q):=by
 intro a w r
 have hnl:n<=l.length:=b_L hn
 obtain ⟨D,A,h1,h2⟩:=dw_fun l.toArray _ _ _ h
 have hlen:(l.take n).length=n:=by simp [hnl]
 rw [hlen] at h2
 have hspec:∀k o,k<n->l[k]? = some o->o.dst=some (D k)/\D k<E.n/\Spec P E st.own l.toArray (stt st.slots D A k) o (A k):=fun k o hk ho=>h1 k o (by rw [List.getElem?_take,i_P hk];exact ho)
 refine wp_region_any hm ?_
 have r1:Rep E st a w.drew:=r.grow (Grow.drew w)
 have inv:=D_i (D:=D) (A:=A) (l:=l) (n:=n) r1
 have h0:(Array.replicate 0 true++Array.replicate (l.length-0) false)=Array.replicate l.length false:=by simp
 rw [h0] at inv
 have hcount:((List.range n).filter fun i=>!((Array.replicate l.length false).getD i false)).length=n:=by
  have : ∀i,(Array.replicate l.length false).getD i false=false:=fun i=>by
   rw [Array.getD_eq_getD_getElem?]
   by_cases hi:i<l.length
   ·simp [hi]
   ·simp [hi]
  rw [List.filter_eq_self.2 (fun i _=>by simp [this i])];simp
 have:=E_7 (P:=P) (Q:=Q) (g:=l.length-n) hB hF hsel hQ hnl hspec (fun _ _=>True) (fun _ _ _ _ _ _ _ _ _ _=>trivial) ?_ n _ a w.drew hcount trivial inv
 ·rw [show n+(l.length-n)=l.length by omega] at this
  simpa using this
 ·intro listed a' w' _ inv' hall
  have hrep:=inv'.end2 hB hnl hspec hall
  have hlisted:listed=Array.replicate n true++Array.replicate (l.length-n) false:=by
   apply Array.ext
   ·simp [inv'.sz];omega
   ·intro i hi1 hi2
    have hd:listed.getD i false=listed[i]:=by simp [hi1]
    rcases Nat.lt_or_ge i n with h | h
    ·rw [<- hd,hall i h,Array.getElem_append_left (by simpa using h)];simp
    ·rw [<- hd,inv'.tail i h,Array.getElem_append_right (by simpa using h)];simp
  have hdl:(l.drop n).length=l.length-n:=by simp
  rw [<- hdl]
  refine wpAny_of_seq (l.drop n) n listed a' w' (fun j=>by simp [g_D]) ?_ (h2 a' w' hrep)
  rw [hdl,hlisted]
  exact hS
end draws2
section drawsV
variable {P : Program} {E : Env}
def agreeOff (ds:List Nat) (a0 a:Act):Prop:=∀i,i∉ds->a.tmps[i]? = a0.tmps[i]?
theorem D_J (a:Act) (d:Option Nat) (v:Value) (i:Nat) (h:d≠some i):(a.put d v).tmps[i]? = a.tmps[i]?:=by
 cases d with
 | none=>rfl
 | some d =>
  simp only [Act.put]
  rw [Array.getElem?_setIfInBounds_ne (fun e=>h (by rw [e]))]
theorem wp_fr {o:Oper} {a:Act} {w:World} {K K':Act->World->Prop} {Q Q':Exit->Act->World->Prop} (hk:∀a' w',(∀i,o.dst≠some i->a'.tmps[i]? = a.tmps[i]?)->K a' w'->K' a' w') (hq:∀c a w,Q (.panic c) a w->Q' (.panic c) a w) (hl:LetsOut Q->LetsOut Q')
  (h:o.wp P a w K Q):o.wp P a w K' Q':=by
 unfold Oper.wp at *
 generalize (execOp a.eval o).run P w=r at *
 cases r with
 | ok n w' =>
  cases n <;> simp only [Oper.upon] at h ⊢
  case value v=>exact hk _ _ (fun i hi=>D_J a _ v i hi) h
  case skip=>exact hk _ _ (fun i hi=>D_J a _ _ i hi) h
  case defer d=>exact hk _ _ (fun i hi=>D_J _ _ _ i hi) h
  case enter f args =>
   refine Calls.mono h fun e w'' he=>?_
   cases e with
   | returned u=>exact hk _ _ (fun i hi=>D_J a _ u i hi) he
   | panicked c=>exact hq _ _ _ he
   | outgrown=>exact hl he
  case row row args=>exact Rows.mono h fun u w'' he=>hk _ _ (fun i hi=>D_J a _ u i hi) he
 | halt x w' =>
  cases x <;> simp only [Oper.upon] at h ⊢
  case panic u=>exact hq _ _ _ h
theorem wpOp_fr {ops:Array Oper} {i:Nat} {a:Act} {w:World} {K K':Act->World->Prop} {Q Q':Exit->Act->World->Prop} (hk:∀a' w',(∀d,(∀o,ops[i]? = some o->o.dst≠some d)->a'.tmps[d]? = a.tmps[d]?)->K a' w'->K' a' w') (hq:∀c a w,Q (.panic c) a w->Q' (.panic c) a w) (hl:LetsOut Q->LetsOut Q')
  (h:wpOp P ops Q i K a w):wpOp P ops Q' i K' a w:=by
 unfold wpOp at *
 cases ho:ops[i]? with
 | none=>rw [ho] at h;exact hk _ _ (fun _ _=>rfl) h
 | some o =>
  rw [ho] at h
  simp only at h ⊢
  have hk2:∀a' w',(∀d,o.dst≠some d->a'.tmps[d]? = a.tmps[d]?)->K a' w'->K' a' w':=fun a' w' h1 h2=>hk a' w' (fun d hd=>h1 d (hd o ho)) h2
  split
  ·rename_i hw
   rw [i_P hw] at h
   rcases h with h | ⟨h1,h2⟩
   ·exact .inl (wp_fr hk2 hq hl h)
   ·exact .inr ⟨h1,hl h2⟩
  ·rename_i hw
   rw [i_N hw] at h
   exact hk2 _ _ (fun d hd=>D_J a _ _ d hd) h
theorem DW.mono {ops:Array Oper} {own:List Own}:∀ {l:List Oper} {s:List (Nat×AV)} {K K':List (Nat×AV)->Prop},DW P E own ops l s K->(∀s,K s->K' s)->DW P E own ops l s K'
 | [],_,_,_,h,hk=>hk _ h
 | _::_,_,_,_,⟨d,A,h1,h2,h3,h4⟩,hk=>⟨d,A,h1,h2,h3,DW.mono h4 hk⟩
def Env.re (E:Env) (w:World) (own:List Own):Env:=⟨w,E.X,fun b=>∃o∈own,o.has b,E.n,E.ds⟩
theorem Rep.re {st:St} {a:Act} {w:World} (r:Rep E st a w):Rep (E.re w st.own) st a w :=
 ⟨r.size,r.defers,r.slots,r.own,r.apart,fun o ho b hb=>⟨(r.free o ho b hb).1,.inr ⟨o,ho,hb⟩⟩,fun b hb=>Nat.lt_of_lt_of_le (r.xold b hb) r.keep.size,Keeps.refl _ _⟩
theorem Keeps.re {st:St} {a:Act} {w w':World} (r:Rep E st a w) (k:Keeps (E.re w st.own).M w w'):Keeps E.M E.w0 w':=by
 refine ⟨k.os.trans r.keep.os,k.tape.trans r.keep.tape,k.output.trans r.keep.output,Nat.le_trans r.keep.size k.size,fun b hb hm=>?_⟩
 rw [k.block b (Nat.lt_of_lt_of_le hb r.keep.size) ?_,r.keep.block b hb hm]
 rintro ⟨o,ho,hob⟩
 rcases (r.free o ho b hob).2 with h | h
 ·omega
 ·exact hm h
def offB (ds:List Nat) (old:List (Nat×AV)):Bool:=old.all fun p=>!(ds.contains p.1)
theorem G_s {ds:List Nat}:∀ {old:List (Nat×AV)},offB ds old=true->∀ {i:Nat} {A:AV},look old i=some A->i∉ds
 | [],_,i,A,h=>by cases h
 | (j,B)::r,hB,i,A,h=>by
  unfold offB at hB
  rw [List.all_cons,Bool.and_eq_true] at hB
  unfold Cw.look at h
  cases hb:Nat.beq j i with
  | true =>
   have:=Nat.eq_of_beq_eq_true hb
   subst this
   simpa using hB.1
  | false=>rw [hb] at h;exact G_s (old:=r) hB.2 h
theorem F_R (T s:List (Nat×AV)) (i:Nat):look (T++s) i=(look T i).or (look s i):=by
 induction T with
 | nil=>simp [look]
 | cons p T ih =>
  obtain ⟨j,B⟩:=p
  show (bif Nat.beq j i then some B else look (T++s) i)=_
  show _=((bif Nat.beq j i then some B else look T i)).or (look s i)
  cases Nat.beq j i <;> simp [ih]
def dstsOf (l:List Oper):List Nat:=l.filterMap (·.dst)
theorem oVec_ty {α:Type} {r:Option Nat} {cap:Nat} {e:TypeId} {sz:Nat} {agg:Bool} {enc:α->AV} {xs:List α} {h:Heap} {O:Nat->Prop} (ho:(oVec r cap e sz agg enc xs).holds h O) {b:Nat} (hb:r=some b):∃cur,h[b]? = some (.cells cur e (0,0)):=by
 obtain ⟨_,_,q2⟩:=ho
 rcases q2 with ⟨q2,_⟩ | ⟨b',cur,hb',g2,_⟩
 ·rw [q2] at hb;cases hb
 ·rw [hb'] at hb;cases hb;exact ⟨cur,g2⟩
theorem Own.later {st:St} {a:Act} {w w':World} (r:Rep E st a w) (g:Grow w w') {news:List Own} (hnew:∀o∈news,∀b,o.has b->w.heap.size<=b) :
  (∀o∈st.own,o.holds w'.heap (OO E (news++st.own)))/\(∀i A,look st.slots i=some A->∃v,a.tmps[i]? = some v/\A.holds w'.heap (OO E (news++st.own)) v):=by
 have hO:∀b,b<w.heap.size->OO E (news++st.own) b->OO E st.own b:=by
  rintro b hb (h | ⟨o,ho,hob⟩)
  ·exact .inl h
  ·rcases List.mem_append.1 ho with ho | ho
   ·have:=hnew o ho b hob;omega
   ·exact .inr ⟨o,ho,hob⟩
 refine ⟨fun o ho=>o.mono _ _ _ _ (r.own o ho) g.size (fun b hb _=>g.block b hb) hO,fun i A hi=>?_⟩
 obtain ⟨v,h1,h2⟩:=r.slots i A hi
 exact ⟨v,h1,A.mono _ _ _ _ _ h2 g.size (fun b hb _=>g.block b hb) hO⟩
end drawsV
section
variable {P : Program} {E : Env} {st : St} {Q : Exit -> Act -> World -> Prop} {s : List (Nat × AV)} {own : List Own}
variable {d : Nat} {ty : TypeId} {pos : String} {af : Array Edge} {g : Option (Nat × Bool)}
def aIf (p:Prop):AV:=⟨fun _ _ v=>∃b:Bool,v = .bool b/\(b=true->p),fun _ _ _ _ _ h _ _ _=>h⟩
theorem ok_eqlNilIf {α:Type} {T e:TypeId} {x:Operand} {sz:Nat} {agg:Bool} {enc:α->AV} {xs:List α} {tt:TypeId} (hu:P.underlying T=some (.slice e)) (hx:opd s x=some (aSl sz agg enc xs)) :
  OpOK P E s own ⟨some d,.binOp .eql T x (.const (.slice none 0 0)) tt,ty,pos,af,g⟩ (aIf (xs = [])) :=
 B_e (fun a w r=>by
  obtain ⟨p,cap,g1,g2,g4,g5,g7⟩:=r.ev x (by simp [Op.operands]) _ hx
  have hev:a.eval (.const (.slice none 0 0)) = .slice none 0 0:=rfl
  refine ⟨.bool p.isNone,?_,p.isNone,rfl,fun hp=>?_⟩
  ·have:=D_1 (P:=P) (w:=w) p xs.length cap hu
   simp [execOp,g1,hev,binOp,eqGuard,this]
  ·cases p with
   | some ad=>cases hp
   | none =>
    cases hxs:xs with
    | nil=>rfl
    | cons y ys =>
     obtain ⟨b,off,us,hp',_⟩:=g7 0 y (by rw [hxs];rfl)
     cases hp')
theorem ent_condIf {c:Operand} {x y:Code} {p:Prop} (hc:opd st.slots c=some (aIf p)) (ht:p->Ent E st (x.wp P Q)) (hf:Ent E st (y.wp P Q)):Ent E st ((Code.cond c x y).wp P Q):=by
 intro a w r
 obtain ⟨b,h1,h2⟩:=r.eval hc
 exact wp_cond_split h1 (fun h=>ht (h2 h) a w r) (fun h=>hf a w r)
end
section
variable {P : Program} {E : Env} {st : St} {Q : Exit -> Act -> World -> Prop} {ops : Array Oper} {rest : List Oper} {s : List (Nat × AV)} {own : List Own}
variable {d : Nat} {ty : TypeId} {pos : String} {af : Array Edge} {g : Option (Nat × Bool)}
def NewVec {α:Type} (w:World) (O:Nat->Prop) (e:TypeId) (sz:Nat) (agg:Bool) (enc:α->AV) (xs:List α) (v:Value) (w':World):Prop :=
 ∃r cap,v=vec r xs.length cap/\(oVec r cap e sz agg enc xs).holds w'.heap (fun b=>O b\/r=some b)/\(∀b,r=some b->w.heap.size<=b)/\Grow w w'
def CtrN {α:Type} (P:Program) (f:FuncId) (As:List AV) (e:TypeId) (sz:Nat) (agg:Bool) (enc:α->AV) (xs:List α):Prop :=
 (∀args w,(callFunc f args).run P w = .ok (.enter f args) w) /\
 ∀(w:World) (O:Nat->Prop) (vs:List Value),(∀b,O b->b<w.heap.size)->HoldsAll As w.heap O vs ->
  Calls P f vs.toArray w (fun en w'=>∃v,en = .returned v/\NewVec w O e sz agg enc xs v w')
theorem ctrN_of {α:Type} {f:FuncId} {fn:Func} {c:Code} {As:List AV} {e:TypeId} {sz:Nat} {agg:Bool} {enc:α->AV} {xs:List α} (hc:∀args w,(callFunc f args).run P w = .ok (.enter f args) w)
  (hf:P.funcs[f]? = some fn) (hb:fn.body=some c) (hn:Nat.ble As.length fn.ntmps=true)
  (h:∀(w:World) (O:Nat->Prop),Ent ⟨w,O,fun _=>False,fn.ntmps,[]⟩ ⟨numbered 0 As,[]⟩ (c.wp P (bodyPost P fn (fun en w'=>∃v,en = .returned v/\NewVec w O e sz agg enc xs v w')))):CtrN P f As e sz agg enc xs :=
 ⟨hc,fun w O _ hO ha=>calls_of_wp hf hb (h w O _ w (rep_enter (b_L hn) hO ha _))⟩
theorem retN {α:Type} {fn:Func} {ex:Exit} {t k:Nat} {r:Option Nat} {n cap:Nat} {e:TypeId} {sz:Nat} {agg:Bool} {enc:α->AV} {xs xs':List α} {w:World} {O:Nat->Prop} {m:Nat} (he:ex = .normal\/ex = .ret) (hres:fn.results = #[.tmp t])
  (hk:st.own[k]? = some (oVec r cap e sz agg enc xs)) (hl:look st.slots t=some (aEx (vec r n cap))) (hn:n=xs.length) (hx:xs=xs') :
  Ent ⟨w,O,fun _=>False,m,[]⟩ st (bodyPost P fn (fun en w'=>∃v,en = .returned v/\NewVec w O e sz agg enc xs' v w') ex):=by
 subst hx hn
 intro a w' rp
 have hv:=rp.slotEx hl
 have hmem:=m_G hk
 have key:NewVec w O e sz agg enc xs (a.tmps.getD t undef) w':=⟨r,cap,hv,(oVec r cap e sz agg enc xs).mono _ _ _ _ (rp.own _ hmem) (Nat.le_refl _) (fun _ _ _=>rfl) (fun b _ hb=>by
   rcases hb with hb | hb
   ·exact .inl hb
   ·exact .inr ⟨_,hmem,hb⟩),fun b hb=>by
    rcases (rp.free _ hmem b hb).2 with h | h
    ·exact h
    ·exact h.elim,rp.grown rfl⟩
 rcases he with rfl | rfl
 ·exact ⟨rp.defers,_,results_tmp hres _ _ _,_,rfl,key⟩
 ·exact ⟨rp.defers,_,results_tmp hres _ _ _,_,rfl,key⟩
theorem retN_nil {α:Type} {fn:Func} {ex:Exit} {t:Nat} {e:TypeId} {sz:Nat} {agg:Bool} {enc:α->AV} {xs:List α} {w:World} {O:Nat->Prop} {m:Nat} (he:ex = .normal\/ex = .ret) (hres:fn.results = #[.tmp t])
  (hl:look st.slots t=some (aEx (.slice none 0 0))) (h1:agg=false->sz=1) (hx:[]=xs) :
  Ent ⟨w,O,fun _=>False,m,[]⟩ st (bodyPost P fn (fun en w'=>∃v,en = .returned v/\NewVec w O e sz agg enc xs v w') ex):=by
 subst hx
 intro a w' rp
 have hv:=rp.slotEx hl
 have key:NewVec w O e sz agg enc ([]:List α) (a.tmps.getD t undef) w':=⟨none,0,hv,⟨by simp,h1,.inl ⟨rfl,rfl,rfl⟩⟩,fun b hb=>(by cases hb),rp.grown rfl⟩
 rcases he with rfl | rfl
 ·exact ⟨rp.defers,_,results_tmp hres _ _ _,_,rfl,key⟩
 ·exact ⟨rp.defers,_,results_tmp hres _ _ _,_,rfl,key⟩
theorem ent_callN {α:Type} {f:FuncId} {xs:List Operand} {tys:Array TypeId} {As:List AV} {e:TypeId} {sz:Nat} {agg:Bool} {enc:α->AV} {ys:List α} (hd:Nat.ble (d+1) E.n=true)
  (c:CtrN P f As e sz agg enc ys) (hx:ArgsOK E st.slots st.own [] xs As)
  (k:∀r cap,Ent E ⟨(d,aEx (vec r ys.length cap))::st.slots,oVec r cap e sz agg enc ys::st.own⟩ (wpList P ops Q rest)) :
  Ent E st (wpList P ops Q (⟨some d,.call { callee:=.value (.func f),args:=xs.toArray,argTypes:=tys },ty,pos,af,none⟩::rest)):=by
 intro a w rp
 refine wpList_plain rfl fun K hK=>?_
 have hrun:(execOp a.eval ⟨some d,.call { callee:=.value (.func f),args:=xs.toArray,argTypes:=tys },ty,pos,af,none⟩).run P w = .ok (.enter f (xs.map a.eval).toArray) w:=by
  simp [execOp,resolve,Act.eval,Deferred.ofValue,invoke,c.1]
 unfold Oper.wp
 rw [hrun,Oper.upon_enter]
 have r:=rp.opR ⟨some d,.call { callee:=.value (.func f),args:=xs.toArray,argTypes:=tys },ty,pos,af,none⟩
 have hargs:=hx.holds r (fun x hx=>by simp [Op.operands,Call.operands,hx])
 have hl0:∀b,(OO E st.own b/\¬Lent st.own [] b)↔OO E st.own b:=fun b=>⟨fun h=>h.1,fun h=>⟨h,fun ⟨_,hk,_⟩=>by cases hk⟩⟩
 refine (c.2 w (fun b=>OO E st.own b/\¬Lent st.own [] b) _ (fun b hb=>r.lt b hb.1) hargs).mono ?_
 rintro en w' ⟨v,rfl,rr,cap,rfl,h2,h3,hg⟩
 refine hK _ _ (k rr cap _ _ ?_)
 have hlt:∀b,OO E st.own b->b<w.heap.size:=r.lt
 have hO:∀b,b<w.heap.size->OO E (oVec rr cap e sz agg enc ys::st.own) b->OO E st.own b:=by
  rintro b hb1 (h | ⟨o',ho',hb'⟩)
  ·exact .inl h
  ·cases ho' with
   | head=>have:=h3 b hb';omega
   | tail _ h=>exact .inr ⟨o',h,hb'⟩
 have r2:Rep E ⟨st.slots,oVec rr cap e sz agg enc ys::st.own⟩ a w':=by
  refine ⟨rp.size,rp.defers,fun i A hi=>?_,fun o' ho'=>?_,?_,fun o' ho' b hb'=>?_,rp.xold,rp.keep.grow hg⟩
  ·obtain ⟨v,h1,h2⟩:=rp.slots i A hi
   exact ⟨v,h1,A.mono _ _ _ _ _ h2 hg.size (fun b hb _=>hg.block b hb) hO⟩
  ·cases ho' with
   | head =>
    refine (oVec rr cap e sz agg enc ys).mono _ _ _ _ h2 (Nat.le_refl _) (fun _ _ _=>rfl) fun b _ hb=>?_
    rcases hb with hb | ⟨o',ho',hb''⟩
    ·exact .inl ((hl0 b).2 (.inl hb))
    ·cases ho' with
     | head=>exact .inr hb''
     | tail _ h=>exact .inl ((hl0 b).2 (.inr ⟨o',h,hb''⟩))
   | tail _ h=>exact o'.mono _ _ _ _ (rp.own o' h) hg.size (fun b hb _=>hg.block b hb) hO
  ·refine List.Pairwise.cons (fun o' ho' b h1 h2=>?_) rp.apart
   have:=h3 b h1
   exact absurd (hlt _ (.inr ⟨o',ho',h2⟩)) (by omega)
  ·cases ho' with
   | head =>
    have h5:=h3 b hb'
    exact ⟨fun hx=>absurd (hlt _ (.inl hx)) (by omega),.inl (Nat.le_trans rp.keep.size h5)⟩
   | tail _ h=>exact rp.free o' h b hb'
 exact r2.put (b_L hd) (A:=aEx (vec rr ys.length cap)) rfl
end
section
variable {P : Program} {E : Env} {s : List (Nat × AV)} {own : List Own}
variable {d : Nat} {ty : TypeId} {pos : String} {af : Array Edge} {g : Option (Nat × Bool)}
theorem ok_buildNF {α:Type} {T e:TypeId} {bytes:Nat} {z:Value} {n:Nat} {parts:List (Nat×Operand)} (enc:α->AV) (ys:List α) (ht:VecTy P T e 1 bytes false z) (hn:n<=1000000) (hn0:Nat.beq n 0=false)
  (hf:FillOK s ((List.range n).map fun i=>(i,1)) parts (List.replicate n aAny) (ys.map enc)) (hl:ys.length=n) (hpl:∀p∈parts,p.1<n:=by decide) (hops:∀p∈parts,p.2∈(Op.buildSlice T n parts.toArray).operands:=by simp [Op.operands]) :
  OpOK P E s own ⟨some d,.buildSlice T n parts.toArray,ty,pos,af,g⟩ (aFull 1 false enc ys):=by
 intro a w r K Q hK
 obtain ⟨ii,i1,i2,i3,i4⟩:=ht.info
 have hinit:CellsHold w.heap (OO E own) (List.replicate n aAny) (List.replicate n (z.cells[0%z.cells.size]!)):=⟨by simp,fun i A c hA hc=>by
  rw [List.getElem?_replicate] at hA
  split at hA
  ·cases hA;exact trivial
  ·cases hA⟩
 obtain ⟨cs',e1,e2⟩:=G_M (h:=w.heap) (O:=OO E own) (a:=a) parts _ _ _ hf (fun x hx B hB=>by
  first
   | exact r.ev x hx B hB
   | (obtain ⟨p,hp,rfl⟩:=hx;exact r.ev p.2 (hops p hp) B hB)
   | (obtain ⟨p,hp,rfl⟩:=List.mem_map.1 hx;exact r.ev p.2 (hops p hp) B hB)) hinit
 have hzs:z.cells.size=1:=ht.zs
 have hn1:n≠0:=fun h=>by rw [h] at hn0;cases hn0
 have hcells:((Array.range (n*1)).map (z.cells[· % z.cells.size]!))=(List.replicate n (z.cells[0%z.cells.size]!)).toArray:=by
  apply Array.ext
  ·simp
  ·intro i h1 h2
   simp [hzs,Nat.mod_one]
 have hfill:Instr.fill (fun i=>some (i*1,1)) ((Array.range (n*1)).map (z.cells[· % z.cells.size]!)) (parts.map fun p=>(p.1,a.eval p.2))=some cs'.toArray:=by
  rw [hcells,<- e1]
  refine E_4 _ _ fun p hp=>?_
  obtain ⟨q,hq,rfl⟩:=List.mem_map.1 hp
  have:=hpl q hq
  simp [this]
 have hlen:cs'.length=n:=by rw [e2.1];simp [hl]
 have gr:=Grow.alloc w (.cells cs'.toArray e)
 have hbig:¬(16777216<n):=by omega
 have hrun:(execOp a.eval ⟨some d,.buildSlice T n parts.toArray,ty,pos,af,g⟩).run P w = .ok (.value (.slice (some ⟨w.heap.size,0,none⟩) n n)) (w.alloc (.cells cs'.toArray e)):=by
  simp only [Nat.mul_one] at hfill
  simp [execOp,Instr.buildSlice,run_underlying ht.und,ht.sl.size,zeroValue,typeInfo,i1,i2,newRow,hbig,hn1,hfill]
 unfold Oper.wp
 rw [hrun,Oper.upon_value]
 refine hK _ _ gr ⟨⟨_,by rw [hl]⟩,some ⟨w.heap.size,0,none⟩,n,by rw [hl],by rw [hl];exact Nat.le_refl _,by simp only [maxLen];omega,fun _=>rfl,fun i y hy=>?_⟩
 have hi:i<ys.length:=(g_S hy).1
 have hic:i<cs'.length:=by omega
 have hA:=e2.2 i (enc y) cs'[i] (by rw [List.getElem?_map,hy];rfl) (g_E hic)
 refine ⟨w.heap.size,0,[cs'[i]],rfl,rfl,⟨fun hO=>absurd (r.lt _ hO) (by omega),cs'.toArray,e,(0,0),heap_alloc_new w _,fun j u hu=>?_⟩,?_⟩
 ·match j,hu with
  | 0,hu =>
   simp only [List.getElem?_cons_zero,Option.some.injEq] at hu
   subst hu
   simp [hic]
  | j+1,hu=>simp at hu
 ·exact (enc y).mono _ _ _ _ _ hA gr.size (fun b hb _=>gr.block b hb) (fun _ _ h=>h)
end
section
variable {P : Program} {E : Env} {st : St} {own : List Own}
end
end Go.Cw
