/-
  Rules.
-/
import Derived.Test.YtaipghchkamajaaCjLib
namespace Go.Cw
set_option linter.unusedSimpArgs false
set_option linter.unnecessarySimpa false
set_option linter.unusedVariables false
section
variable {P : Program} {E : Env} {s : List (Nat × AV)} {own : List Own}
variable {d : Nat} {ty : TypeId} {pos : String} {af : Array Edge} {g : Option (Nat × Bool)}
abbrev aNR (w:World) (l:List Int):AV:=aFr w.heap.size (aInts l)
theorem cv_frSl {α:Type} {n:Nat} {e:TypeId} {sz:Nat} {agg:Bool} {enc:α->AV} {xs:List α}:Cv E own (OO E own) (aFr n (aVec e sz agg enc xs)) (aFr n (aSl sz agg enc xs)):=fun w v _ h=>aVec_sl _ _ _ h
theorem cvF_vecN {α:Type} {k:Nat} {r:Option Nat} {n cap:Nat} {e:TypeId} {enc:α->AV} {xs xs':List α} (hm:E.M=fun _=>False) (hk:own[k]? = some (oVec r cap e 1 false (fun l=>aFr E.w0.heap.size (enc l)) xs)) (hn:n=xs.length) (ee:xs=xs') :
  Cv E own (FrO E) (aEx (vec r n cap)) (aVec e 1 false enc xs'):=fun w v rp h=>by
 subst ee
 have hmem:=m_G hk
 obtain ⟨h1,h2,h3⟩:=rp.own _ hmem
 refine ⟨r,cap,by rw [show v=vec r n cap from h,hn],⟨h1,h2,?_⟩,fun b hb=>G_z rp hm hk hb⟩
 rcases h3 with h3 | ⟨b,cur,rfl,g2,g3,g4,g5,g6⟩
 ·exact .inl h3
 ·refine .inr ⟨b,cur,rfl,g2,g3,g4,g5,fun i x hx=>?_⟩
  obtain ⟨us,k1,k2,k3⟩:=g6 i x hx
  refine ⟨us,k1,k2,AV.less k3 fun b' _ hb'=>?_⟩
  rcases hb' with hb' | hb'
  ·exact .inr hb'
  ·exact .inl (.inr ⟨_,hmem,hb'⟩)
def FrTo (n:Nat):List AV->List AV->Prop
 | [],[]=>True
 | A::As,B::Bs=>(∀h O v,A.holds h (fun b=>O b\/b<n) v->B.holds h O v)/\FrTo n As Bs
 | _,_=>False
theorem FrTo.get {n:Nat}:∀ {As Bs:List AV},FrTo n As Bs->As.length=Bs.length/\∀(i:Nat) (B:AV),Bs[i]? = some B->∃A,As[i]? = some A/\∀h O v,A.holds h (fun b=>O b\/b<n) v->B.holds h O v
 | [],[],_=>⟨rfl,fun i B h=>by cases h⟩
 | A::As,B::Bs,h=>by
  obtain ⟨h1,h2⟩:=FrTo.get h.2
  refine ⟨by simp [h1],fun i C hC=>?_⟩
  cases i with
  | zero=>exact ⟨A,rfl,by cases hC;exact h.1⟩
  | succ i=>exact h2 i C hC
 | [],_::_,h=>h.elim
 | _::_,[],h=>h.elim
theorem F_p {x:Operand} {n i:Nat} {As Cs Bs:List AV} (hx:opd s x=some (aFr n (aTup As))) (hi:As[i]? = some (aAgg Cs)) (hc:FrTo n Cs Bs):OpOK P E s own ⟨some d,.extract x i,ty,pos,af,g⟩ (aAgg Bs) :=
 OpOK.as (E_j hx hi) fun h O v ⟨cs,h1,h2,h3⟩=>by
  obtain ⟨g1,g2⟩:=hc.get
  refine ⟨cs,h1,by rw [h2,g1],fun i B c hB hc'=>?_⟩
  obtain ⟨A,hA,q⟩:=g2 i B hB
  exact q _ _ _ (h3 i A c hA hc')
theorem ok_frAgg {o:Oper} {n:Nat} {Cs Bs:List AV} (h:OpOK P E s own o (aFr n (aAgg Cs))) (hc:FrTo n Cs Bs):OpOK P E s own o (aAgg Bs) :=
 OpOK.as h fun h O v ⟨cs,h1,h2,h3⟩=>by
  obtain ⟨g1,g2⟩:=hc.get
  refine ⟨cs,h1,by rw [h2,g1],fun i B c hB hc'=>?_⟩
  obtain ⟨A,hA,q⟩:=g2 i B hB
  exact q _ _ _ (h3 i A c hA hc')
theorem CtrF.vec {α:Type} {f:FuncId} {As:List AV} {e:TypeId} {enc:α->AV} {xs:List α} (h:CtrF P f As (aVec e 1 false enc xs)) :
  CtrW P f [] As (fun _:Option Nat×Nat=>True) (fun y=>aEx (vec y.1 xs.length y.2)) (fun y=>[oVec y.1 y.2 e 1 false enc xs]) :=
 ⟨h.1,fun w O vs hO _ ha=>by
  have ha':HoldsAll As w.heap O vs:=⟨ha.1,fun i A v hA hv=>AV.less (ha.2 i A v hA hv) fun b _ hb=>.inl hb⟩
  refine (h.2 w O vs hO ha').mono fun en w' ⟨v,h1,⟨r,cap,h2,h3,h4⟩,h5⟩=>?_
  have hnb:∀b,r=some b->w.heap.size<=b:=fun b hb=>Nat.le_of_not_lt (h4 b hb)
  have hbl:∀b,Blks [oVec r cap e 1 false enc xs] b↔r=some b:=fun b=>⟨fun ⟨o,ho,hb⟩=>by rw [List.mem_singleton] at ho;subst ho;exact hb,fun hb=>⟨_,List.mem_singleton.2 rfl,hb⟩⟩
  refine ⟨v,(r,cap),h1,trivial,h2,⟨fun o ho=>?_,List.pairwise_singleton _ _,fun o ho b hb hOb=>?_⟩,fun o ho b hb=>?_,?_⟩
  ·rw [List.mem_singleton] at ho;subst ho
   exact (oVec r cap e 1 false enc xs).mono _ _ _ _ h3 (Nat.le_refl _) (fun _ _ _=>rfl) fun b _ hb=>by
    rcases hb with hb | hb
    ·exact .inl (hO b hb)
    ·exact .inr ((hbl b).1 hb)
  ·rw [List.mem_singleton] at ho;subst ho
   have:=hO b hOb;have:=hnb b hb;omega
  ·rw [List.mem_singleton] at ho;subst ho
   exact .inr (hnb b hb)
  ·exact ⟨h5.os,h5.tape,h5.output,h5.size,fun b hb _=>h5.block b hb⟩⟩
end
section
variable {P : Program} {E : Env} {st : St}
theorem ent_giveC {K:Act->World->Prop} {α:Type} (k k2 j:Nat) {b:Nat} {T:TypeId} {As:List AV} {r:Option Nat} {n cap:Nat} {e:TypeId} {sz:Nat} {agg:Bool} {enc:α->AV} {xs:List α} (hk:st.own[k]? = some (oBox b T As)) (hj:As[j]? = some (aEx (vec r n cap)))
  (hk2:st.own[k2]? = some (oVec r cap e sz agg enc xs)) (hne:k≠k2) (hn:n=xs.length) (h:Ent E ⟨st.slots,(st.own.set k (oBox b T (As.set j (aSl sz agg enc xs)))).eraseIdx k2⟩ K):Ent E st K:=by
 refine ent_frz k k2 (oBox b T (As.set j (aSl sz agg enc xs))) hk hk2 hne (fun _ hb=>hb) ?_ h
 rintro h O O' ⟨cur,g1,g2,g3⟩ ho hO hO2
 refine ⟨cur,g1,by rw [l_S];exact g2,fun i A u hA hu=>?_⟩
 rw [List.getElem?_set] at hA
 by_cases hij:j=i
 ·subst hij
  rw [i_P rfl] at hA
  split at hA
  ·cases hA
   obtain ⟨q1,q2⟩:=g3 j _ u hj hu
   have q3:u=vec r n cap:=q1
   refine ⟨?_,q2⟩
   rw [q3,hn]
   exact vec_sl ho hO fun b' hb' h'=>hO2 b' h' hb'
  ·cases hA
 ·rw [i_N hij] at hA
  obtain ⟨q1,q2⟩:=g3 i A u hA hu
  exact ⟨AV.less q1 fun b' _ hb'=>hO b' hb',q2⟩
end
section
variable {P : Program} {E : Env} {st : St} {Q : Exit -> Act -> World -> Prop} {ops : Array Oper} {rest : List Oper} {s : List (Nat × AV)} {own : List Own}
variable {d : Nat} {ty : TypeId} {pos : String} {af : Array Edge} {g : Option (Nat × Bool)}
def subO (r:Option Nat) (l n cap:Nat):Value:=.slice (r.map fun b=>⟨b,if cap=l then 0 else l,none⟩) (n-l) (cap-l)
theorem subO_zero (r:Option Nat) (n cap:Nat):subO r 0 n cap=vec r n cap:=by
 unfold subO vec
 cases r with
 | none=>rfl
 | some b=>by_cases h:cap=0 <;> simp
theorem ok_subFromH {T El er:TypeId} {α:Type} {enc:α->AV} {S:List Nat} {Hs:List Hdr} {xss:List (List α)} {x lo:Operand} {k:Nat} {i l:Int} (hs:SlInfo P T El 1) (hk:own[k]? = some (oRws er enc S Hs xss)) (hx:opd s x=some (aH (ix Hdr.no Hs i))) (i0:0<=i) (i1:i<xss.length) (hS:i.toNat∉S)
  (hl:opd s lo=some (aInt l)) (l0:0<=l) (l1:l<=(ix [] xss i).length) (hne:0<(ix [] xss i).length) :
  OpOK P E s own ⟨some d,.slice T x (some lo) none none,ty,pos,af,g⟩ (aEx (subO (ix Hdr.no Hs i).r l.toNat (ix Hdr.no Hs i).n (ix Hdr.no Hs i).cap)):=by
 intro a w r K Q hK
 obtain ⟨_,_,hn,hv⟩:=F_H (r.world.own _ (m_G hk)) i0 i1 hS
 generalize ix Hdr.no Hs i=H at *
 obtain ⟨hr,hn',hc⟩:∃b,H.r=some b/\H.n<=H.cap:=by
  rcases hv.2.2 with ⟨_,h2,_⟩ | ⟨b,cur,hb,_,h3,_⟩
  ·rw [h2] at hne;cases hne
  ·exact ⟨b,hb,by omega⟩
 have hx':opd s x=some (aEx (vec (some hr) H.n H.cap)):=by
  rw [hx]
  show some (aEx (vec H.r H.n H.cap))=_
  rw [hn']
 refine (ok_subN l.toNat H.n hs hx' (by show opd s lo=_;rw [hl];congr 3;omega) rfl (by omega) hc) a w r K Q fun v w' gr hv'=>hK v w' gr ?_
 have e:subO H.r l.toNat H.n H.cap=subV hr 1 l.toNat H.n H.cap:=by
  unfold subO subV
  rw [hn',Nat.mul_one];rfl
 rw [e];exact hv'
theorem F_2 {T e:TypeId} {bytes:Nat} {z:Value} {k l n cap:Nat} {r:Option Nat} {x y:Operand} {xs ys:List Int} (ht:VecTy P T e 1 bytes false z)
  (hd:Nat.ble (d+1) E.n=true) (hk:st.own[k]? = some (oVec r cap e 1 false aInt xs)) (hx:opd st.slots x=some (aEx (subO r l n cap))) (hy:opd st.slots y=some (aSl 1 false aInt ys)) (hn:n=xs.length) (h0:0<ys.length) (h1:l+ys.length<=xs.length)
  (kk:Ent E ⟨(d,aInt ys.length)::st.slots,st.own.set k (oVec r cap e 1 false aInt (xs.take l++ys++xs.drop (l+ys.length)))⟩ (wpList P ops Q rest)) :
  Ent E st (wpList P ops Q (⟨some d,.call { callee:=.builtin .copy,args:=#[x,y],argTypes:=#[T,T] },ty,pos,af,none⟩::rest)):=by
 subst hn
 refine E_v (γ:=Unit) rfl (fun _ h=>by cases h;exact hd) hk (fun _=>oVec r cap e 1 false aInt (xs.take l++ys++xs.drop (l+ys.length))) (fun _=>.int .i64 ys.length) (fun _=>.value (.int .i64 ys.length)) (fun _=>.inl rfl) (fun _=>True)
  (fun a w rp=>?_) (fun _ _=>kk)
 obtain ⟨g0,gone,g1⟩:=rp.own _ (m_G hk)
 rcases g1 with ⟨_,g1,_⟩ | ⟨b,cur,rfl,g2,g3,g4,g5,g6⟩
 ·rw [g1] at h1;simp only [List.length_nil] at h1;omega
 rw [Nat.mul_one] at g5
 have hcell:∀(i:Nat) (v:Int),xs[i]? = some v->cur[i]? = some (.int .i64 v):=by
  intro i v hv
  obtain ⟨us,u1,u2,u3⟩:=g6 i v hv
  match us,u1 with
  | [u],_ =>
   have h5:=u2 0 u rfl
   have h6:u = .int .i64 v:=u3
   rw [<- h6];simpa using h5.1
 obtain ⟨p,c,hv,hle,hmax,_,hel⟩:=rp.eval hy
 obtain ⟨b0,off0,_,hp,_,_,_⟩:=hel 0 ys[0] (g_E h0)
 let cs:List Value:=ys.map fun v=>.int .i64 v
 have hcs:cs.length=ys.length:=by simp [cs]
 have hcl:cur.toList.length=cap:=by rw [Array.length_toList];exact g5
 have hread:∀(j:Nat) (u:Value),cs[j]? = some u->w.cell? ⟨b0,off0+j,none⟩=some u:=by
  intro j u hu
  have hj:j<ys.length:=by rw [<- hcs];exact (g_S hu).1
  obtain ⟨b',off',us,hp',hl',hcc,henc⟩:=hel j ys[j] (g_E hj)
  rw [hp] at hp';cases hp'
  match us,hl' with
  | [u'],_ =>
   have h5:=hcc.cell (j:=0) (u:=u') rfl
   have h6:u' = .int .i64 ys[j]:=henc
   have h7:u = .int .i64 ys[j]:=by
    have : cs[j]? = some (.int .i64 ys[j]):=by simp [cs,hj]
    rw [this] at hu;cases hu;rfl
   rw [h7,<- h6];simpa using h5
 have hone:∀u∈cs,u.oneCell'=true:=by
  intro u hu
  obtain ⟨v,_,rfl⟩:=List.mem_map.1 hu
  rfl
 have hcl2:cap≠l:=by omega
 obtain ⟨ii,i1,i2,i3,i4⟩:=ht.info
 have hrun:=run_copy_row (P:=P) w T T ty e b l (xs.length-l) (cap-l) ⟨b0,off0,none⟩ ys.length c cur e cs ht.und (by rw [i1];simp [i3]) g2 (by rw [hcs];exact (Nat.min_eq_left (by omega)).symm)
  (fun j v hv'=>by rw [C_J];exact hread j v hv') (by rw [hcs];omega) hone
 have ex:a.eval x = .slice (some ⟨b,l,none⟩) (xs.length-l) (cap-l):=by
  rw [rp.evalEx hx];unfold subO;rw [i_N hcl2];rfl
 have tch:Touch (oVec (some b) cap e 1 false aInt xs) w (w.setRow b (cur.toList.take l++cs++cur.toList.drop (l+cs.length)).toArray):=C_D (b:=b) rfl
 refine ⟨(),_,trivial,?_,tch,fun _ h=>.inl h,?_⟩
 ·rw [hp] at hv
  simp only [execOp,resolve,invoke,builtin,Sem.run_bind,Sem.run_pure,Result.andThen_ok,List.map_toArray,List.map_cons,List.map_nil,ex,hv,hrun,hcs,goInt]
 ·have hlen:(xs.take l++ys++xs.drop (l+ys.length)).length=xs.length:=by
   simp only [l_A,List.length_take,l_D];omega
  refine ⟨by rw [hlen];exact g0,gone,.inr ⟨b,_,rfl,setRow_heap w b cur _ e _ g2,by rw [hlen];exact g3,g4,?_,fun i v hv'=>?_⟩⟩
  ·rw [Nat.mul_one]
   simp only [List.size_toArray,l_A,List.length_take,l_D,hcl,hcs]
   omega
  ·have key:((cur.toList.take l++cs++cur.toList.drop (l+cs.length)).toArray)[i]? = some (.int .i64 v):=by
    rw [hcs]
    rw [List.append_assoc,List.getElem?_append] at hv'
    rw [List.getElem?_toArray,List.append_assoc,List.getElem?_append]
    simp only [List.length_take] at hv' ⊢
    have e1:min l xs.length=l:=by omega
    have e2:min l cur.toList.length=l:=by omega
    rw [e1] at hv'
    rw [e2]
    by_cases hi:i<l
    ·rw [i_P hi,List.getElem?_take,i_P hi] at hv'
     rw [i_P hi,List.getElem?_take,i_P hi]
     simpa using hcell i v hv'
    ·rw [i_N hi,List.getElem?_append] at hv'
     rw [i_N hi,List.getElem?_append,hcs]
     by_cases hi2:i-l<ys.length
     ·rw [i_P hi2] at hv' ⊢
      show (ys.map fun v=>Value.int .i64 v)[i-l]? = _
      rw [List.getElem?_map,hv'];rfl
     ·rw [i_N hi2,g_D] at hv'
      rw [i_N hi2,g_D]
      simpa using hcell _ v hv'
   refine ⟨[.int .i64 v],rfl,fun j u hu=>?_,rfl⟩
   match j,hu with
   | 0,hu =>
    simp only [List.getElem?_cons_zero,Option.some.injEq] at hu
    subst hu
    exact ⟨by simpa using key,rfl⟩
   | j+1,hu=>simp at hu
end
section
variable {P : Program} {E : Env} {s : List (Nat × AV)} {own : List Own}
variable {d : Nat} {ty : TypeId} {pos : String} {af : Array Edge} {g : Option (Nat × Bool)}
def vBnd (f:FuncId) (us:List Value):Value:=.func (.func f) us.toArray #[]
def aBnd (f:FuncId) (As:List AV):AV where
 holds h O v:=∃us,v=vBnd f us/\HoldsAll As h O us
 mono:=by
  rintro h h' O O' v ⟨us,h1,h2,h3⟩ hs hb ho
  exact ⟨us,h1,h2,fun i A u hA hu=>A.mono _ _ _ _ _ (h3 i A u hA hu) hs hb ho⟩
theorem ok_makeBnd {f:FuncId} {x:Operand} {u:Value} (hx:opd s x=some (aEx u)) :
  OpOK P E s own ⟨some d,.makeFunc (.func f) #[x] #[],ty,pos,af,g⟩ (aEx (vBnd f [u])) :=
 B_e (fun a w r=>by
  have e:a.eval x=u:=r.ex hx (by simp [Op.operands])
  exact ⟨vBnd f [u],by simp [execOp,Instr.makeFunc,vBnd,e],rfl⟩)
theorem cv_bnd {O:Nat->Prop} {f:FuncId} {us:List Value} {As:List AV} (h:CvL E own O (us.map aEx) As):Cv E own O (aEx (vBnd f us)) (aBnd f As):=fun w v rp hv=>by
 obtain ⟨k1,k2⟩:=h.get
 refine ⟨us,hv,by simpa using k1,fun i A u hA hu=>?_⟩
 obtain ⟨B,hB,hcv⟩:=k2 i A hA
 rw [List.getElem?_map,hu] at hB
 cases hB
 exact hcv w u rp rfl
theorem run_bnd {a:Act} {w:World} {f:FuncId} {x:Operand} {us:List Value} {tys:Array TypeId} {dd:Option Tmp} (hc:∀args w,(callFunc f args).run P w = .ok (.enter f args) w) (hx:a.eval x=vBnd f us) :
  (execOp a.eval ⟨dd,.call { callee:=.value x,args:=#[],argTypes:=tys },ty,pos,af,g⟩).run P w = .ok (.enter f us.toArray) w:=by
 simp [execOp,resolve,hx,vBnd,Deferred.ofValue,invoke,hc]
theorem ok_callBnd {dd:Option Tmp} {f:FuncId} {x:Operand} {tys:Array TypeId} {Bs:List AV} {A:AV}
  (c:Ctr P f Bs A) (hv:opd s x=some (aBnd f Bs)):OpOK P E s own ⟨dd,.call { callee:=.value x,args:=#[],argTypes:=tys },ty,pos,af,g⟩ A:=by
 intro a w r K Q hK
 obtain ⟨us,hu,hB⟩:=r.ev x (by simp [Op.operands,Call.operands]) _ hv
 have hrun:(execOp a.eval ⟨dd,.call { callee:=.value x,args:=#[],argTypes:=tys },ty,pos,af,g⟩).run P w = .ok (.enter f us.toArray) w:=run_bnd c.1 hu
 unfold Oper.wp
 rw [hrun,Oper.upon_enter]
 refine (c.2 w (OO E own) _ r.lt hB).mono ?_
 rintro e w' ⟨v,rfl,hA,hg⟩
 exact hK v w' hg hA
end
end Go.Cw
