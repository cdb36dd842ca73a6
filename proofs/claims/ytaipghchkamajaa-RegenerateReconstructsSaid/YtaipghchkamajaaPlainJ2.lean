/-
  Plain facts.
-/
import Derived.Test.YtaipghchkamajaaPlainJ1
set_option linter.unnecessarySimpa false
set_option linter.unusedVariables false
set_option linter.unusedSimpArgs false
set_option linter.unusedSectionVars false
namespace Go.Cw
section
variable {f : Fld} (h : FOk f)
theorem E_q (a b:List Int) {n:Nat} (ha:a.length<=n):ke h (dotF f a b)=La.sm (fun j=>kv h a j*kv h b j) n:=by
 have key:∀k,ke h (dotTo f a b k)=La.sm (fun j=>kv h a j*kv h b j) k:=by
  intro k
  induction k with
  | zero=>exact B_m h
  | succ k ih =>
   show ke h (addF f (dotTo f a b k) (mulF f (ix 0 a k) (ix 0 b k)))=La.sm _ k+_
   rw [G_a,E_p,ih,<- D_4,<- D_4]
 unfold dotF
 rw [key]
 refine (La.sm_cut (by omega) fun i h1 h2=>?_).symm
 by_cases hi:a.length<=i
 ·rw [E_9 h hi,Fi.zero_mul]
 ·rw [E_9 h (v:=b) (by omega),Fi.mul_zero]
theorem kv_app {a b:List Int} {j:Nat} (hj:j<a.length):kv h (a++b) j=kv h a j:=by
 unfold kv
 simp only [List.getD]
 rw [List.getElem?_append_left hj]
theorem kv_appL {a:List Int} {x:Int}:kv h (a++[x]) a.length=ke h x:=by
 unfold kv
 simp [List.getD]
theorem kv_set {l:List Int} {p:Nat} (hp:p<l.length) (x:Int) (j:Nat):kv h (l.set p x) j=if j=p then ke h x else kv h l j:=by
 unfold kv
 by_cases e:j=p
 ·subst e;rw [i_P rfl];simp [List.getD,hp]
 ·rw [i_N e];simp only [List.getD];rw [List.getElem?_set_ne (Ne.symm e)]
theorem km_at {X:List (List Int)} {i:Nat}:km h X i=kv h (ix [] X i):=by rw [C_R];rfl
end
theorem La.sm_upd {K:Type} [Fi K] {g g':Nat->K} {n p:Nat} (hp:p<n) (h0:g p=0) (h:∀j,j≠p->g' j=g j):La.sm g' n=La.sm g n+g' p:=by
 have e1:La.sm g' n=La.sm (fun j=>g j+if j=p then g' p else 0) n:=La.sm_congr fun j _=>by
  by_cases e:j=p
  ·subst e;rw [i_P rfl,h0,Fi.zero_add]
  ·rw [i_N e,h j e,Fi.add_zero]
 rw [e1,La.sm_add]
 congr 1
 rw [La.sm_one (k:=p) hp fun i _ hne=>i_N hne,i_P rfl]
theorem F_9 {E:El} {cols:Int} (hp:∀p∈E.piv,0<=p):∀(k:Nat) (j:Int),k<=E.piv.length->0<=j->ix 0 (solTo E cols k) j≠0->∃i:Int,0<=i/\i<k/\ix 0 E.piv i=j
 | 0,j,_,j0,hne=>by
  exfalso;apply hne
  exact C_6 _ _
 | k+1,j,hk,j0,hne=>by
  have h0:=hp _ (B_i 0 E.piv (i:=(k:Int)))
  by_cases e:ix 0 E.piv k=j
  ·exact ⟨k,by omega,by omega,e⟩
  ·have : ix 0 (solTo E cols (k+1)) j=ix 0 (solTo E cols k) j:=by
    show ix 0 ((solTo E cols k).set (ix 0 E.piv k).toNat _) j=_
    simp only [ix,List.getD]
    rw [List.getElem?_set_ne]
    intro e2
    apply e
    simp only [ix,List.getD] at h0 ⊢
    omega
   rw [this] at hne
   obtain ⟨i,i0,i1,i2⟩:=F_9 hp k j (by omega) j0 hne
   exact ⟨i,i0,by omega,i2⟩
def dots (f:Fld) (rows:List (List Int)) (x:List Int):List Int:=rows.map fun row=>dotF f row x
@[simp] theorem D_o (f:Fld) (rows:List (List Int)) (x:List Int):(dots f rows x).length=rows.length:=by simp [dots]
theorem ix_dots {f:Fld} {rows:List (List Int)} {x:List Int} {i:Int} (i0:0<=i) (i1:i<rows.length):ix 0 (dots f rows x) i=dotF f (ix [] rows i) x:=by
 unfold dots
 simp only [ix,List.getD,List.getElem?_map]
 rw [g_E (by omega)]
 rfl
theorem G_f {f:Fld} (hS:Shape f) (a b:List Int):0<=dotF f a b/\dotF f a b<f.q:=by
 have hb:=hS.bd
 unfold dotF
 cases min a.length b.length with
 | zero=>exact ⟨Int.le_refl _,by show (0:Int)<_;omega⟩
 | succ k=>exact hS.addF_lt _ _
theorem out_dots {f:Fld} (hS:Shape f) (rows:List (List Int)) (x:List Int):¬outF f (dots f rows x):=by
 rintro ⟨y,hy,hn⟩
 unfold dots at hy
 obtain ⟨row,_,rfl⟩:=List.mem_map.1 hy
 exact hn (G_f hS _ _)
section
variable {f : Fld} {n : Nat} {X : List (List Int)} {x : List Int}
theorem km_aug (h:FOk f) (hX:good f n X) (b:List Int) {i j:Nat} (hi:i<X.length) (hj:j<n):km h (augL X b) i j=km h X i j:=by
 have hw:=B_p (B_v hX) (i:=(i:Int)) (by omega) (by omega)
 rw [km_at,ix_augL (by omega) (by omega),kv_app h (by omega),<- km_at]
theorem km_augL (h:FOk f) (hX:good f n X) (b:List Int) {i:Nat} (hi:i<X.length):km h (augL X b) i n=ke h (ix 0 b i):=by
 have hw:=B_p (B_v hX) (i:=(i:Int)) (by omega) (by omega)
 rw [km_at,ix_augL (by omega) (by omega)]
 have:=kv_appL h (a:=ix [] X i) (x:=ix 0 b i)
 rw [hw] at this
 exact this
theorem piv_aug (h:FOk f) (hX:good f n X) {b:List Int} (hb:¬outF f b):(elim f (augL X b) [] n).piv=(elim f X [] n).piv:=by
 have hA:=D_z h.1 hX hb
 have r1:=C_H h hA (C_X 0) (.inl rfl) n
 have r2:=C_H h hX (C_X 0) (.inl rfl) n
 have s1:=D_Q h hA n
 have s2:=D_Q h hX n
 have hl:=B_K X b
 rw [hl] at r1 s1
 obtain ⟨e1,e2,_⟩:=r1.uniq r2 (fun i hi=>by
   obtain ⟨c,hc⟩:=s1.1 i hi
   refine ⟨La.lin c (km h X) X.length,La.Span.trans ⟨c,rfl⟩ s2.2,fun y hy=>?_⟩
   rw [hc]
   exact La.sm_congr fun k hk=>by rw [km_aug h hX b hk hy]) (fun i hi=>by
   obtain ⟨c,hc⟩:=s2.1 i hi
   refine ⟨La.lin c (km h (augL X b)) X.length,La.Span.trans ⟨c,rfl⟩ s1.2,fun y hy=>?_⟩
   rw [hc]
   exact La.sm_congr fun k hk=>by rw [km_aug h hX b hk hy])
 refine D_O 0 e1 fun j j0 j1=>?_
 have a1:=pvN_ix (f:=f) (augL X b) [] n (i:=j.toNat) (by omega)
 have a2:=pvN_ix (f:=f) X [] n (i:=j.toNat) (by omega)
 have:=e2 j.toNat (by omega)
 rw [show ((j.toNat:Nat):Int)=j by omega] at a1 a2
 omega
theorem aug_fun (h:FOk f) (hX:good f n X) (hx:x.length=n) {v:Nat->KF f h} (hv:La.Span (km h (augL X (dots f X x))) X.length v):v n=La.sm (fun j=>v j*kv h x j) n:=by
 refine La.Span.ind (Φ:=fun v=>v n=La.sm (fun j=>v j*kv h x j) n) ?_ ?_ ?_ (m:=X.length) (fun i hi=>?_) v hv
 ·show (0:KF f h)=_
  exact (La.sm_zero fun j _=>Fi.zero_mul _).symm
 ·intro u v hu hv
  show u n+v n=_
  rw [hu,hv,<- La.sm_add]
  exact La.sm_congr fun j _=>(Fi.add_mul _ _ _).symm
 ·intro a u hu
  show a*u n=_
  rw [hu,<- La.sm_mul]
  exact La.sm_congr fun j _=>(Fi.mul_assoc _ _ _).symm
 ·have hw:=B_p (B_v hX) (i:=(i:Int)) (by omega) (by omega)
  show km h (augL X (dots f X x)) i n=_
  rw [km_augL h hX _ hi,ix_dots (by omega) (by omega),E_q h (ix [] X i) x (n:=n) (by omega)]
  exact La.sm_congr fun j hj=>by rw [km_aug h hX _ hi hj,km_at]
theorem sol_dot (h:FOk f) (hX:good f n X) {b:List Int} (hb:¬outF f b) (hz:∀i,(elim f (augL X b) [] n).piv.length<=i->i<X.length->km h (elim f (augL X b) [] n).X i n=0) {q:Int} (q0:0<=q) (q1:q<X.length) :
  dotF f (ix [] X q) (solTo (elim f (augL X b) [] n) n (elim f (augL X b) [] n).piv.length)=if q<b.length then ix 0 b q else 0:=by
 have hA:=D_z h.1 hX hb
 have hl:=B_K X b
 have rr:=C_H h hA (C_X 0) (.inl rfl) n
 have s1:=D_Q h hA n
 have hpl:=C_p f (augL X b) [] n
 rw [hl] at rr s1
 have hw:=B_p (B_v hX) q0 q1
 generalize hE:elim f (augL X b) [] n=E at *
 have hpr:∀p∈E.piv,0<=p/\p<n:=by rw [<- hE];exact F_N f _ _ _
 have hpv:∀i:Nat,i<E.piv.length->((pvN E.piv i:Nat):Int)=ix 0 E.piv i:=by
  intro i hi
  have:=pvN_ix (f:=f) (augL X b) [] n (i:=i) (by rw [hE];exact hi)
  rwa [hE] at this
 have key:∀k:Nat,k<=E.piv.length->La.sm (fun j=>kv h (ix [] X q) j*kv h (solTo E n k) j) n=La.sm (fun i=>kv h (ix [] X q) (pvN E.piv i)*km h E.X i n) k:=by
  intro k
  induction k with
  | zero=>intro _;exact La.sm_zero fun j _=>by rw [show solTo E (n:Int) 0=List.replicate (n:Int).toNat 0 from rfl,kv_zeros,Fi.mul_zero]
  | succ k ih =>
   intro hk
   have hpk:=hpv k (by omega)
   have hrk:=hpr _ (B_i 0 E.piv (i:=(k:Int)))
   have hset:solTo E (n:Int) (k+1)=(solTo E n k).set (pvN E.piv k) (ix 0 (ix [] E.X k) n):=by
    show (solTo E (n:Int) k).set (ix 0 E.piv k).toNat _=_
    rw [<- hpk];rfl
   have hln:pvN E.piv k<(solTo E (n:Int) k).length:=by rw [C_c];omega
   show _=La.sm _ k+_
   rw [<- ih (by omega),hset,La.sm_upd (p:=pvN E.piv k) (by omega) (g:=fun j=>kv h (ix [] X q) j*kv h (solTo E n k) j) ?_ (fun j hj=>by rw [kv_set h hln,i_N hj])]
   ·congr 1
    rw [kv_set h hln,i_P rfl,<- C_8]
   ·have : ix 0 (solTo E (n:Int) k) (pvN E.piv k:Nat)=0:=by
     apply Classical.byContradiction
     intro hne
     obtain ⟨i,i0,i1,i2⟩:=F_9 (fun p hp=>(hpr p hp).1) k _ (by omega) (by omega) hne
     have:=rr.inc i.toNat k (by omega) (by omega)
     have hpi:=hpv i.toNat (by omega)
     rw [show ((i.toNat:Nat):Int)=i by omega] at hpi
     omega
    show kv h (ix [] X q) _*kv h (solTo E n k) _=0
    rw [D_4 h (solTo E n k),this,B_m,Fi.mul_zero]
 obtain ⟨c,hc⟩:=s1.2 q.toNat (by omega)
 have e1:km h (augL X b) q.toNat n=La.sm (fun i=>kv h (ix [] X q) (pvN E.piv i)*km h E.X i n) E.piv.length:=by
  rw [hc]
  show La.sm _ _=_
  rw [La.sm_cut rr.le fun i h1 h2=>by rw [hz i h1 h2,Fi.mul_zero]]
  refine La.sm_congr fun i hi=>?_
  have:=rr.coef (c:=c) hi
  rw [<- hc,km_aug h hX b (by omega) (rr.lt i hi),km_at,show ((q.toNat:Nat):Int)=q by omega] at this
  rw [<- this]
 have hbq:km h (augL X b) q.toNat n=ke h (ix 0 b q):=by
  have:=km_augL h hX b (i:=q.toNat) (by omega)
  rwa [show ((q.toNat:Nat):Int)=q by omega] at this
 have hb0:ix 0 b q=if q<b.length then ix 0 b q else 0:=by
  split
  ·rfl
  ·simp only [ix,List.getD];rw [List.getElem?_eq_none (by omega)];rfl
 rw [<- hb0]
 have d1:=G_f h.1 (ix [] X q) (solTo E n E.piv.length)
 have d2:=F_U h.1 hb q
 refine E_H h d1.1 d1.2 d2.1 d2.2 ?_
 rw [E_q h _ _ (n:=n) (by omega),key _ (Nat.le_refl _),<- e1,hbq]
end
structure SolF (f:Fld) (m:Mat) (x:List Int):Prop where
 err:solE f m (dots f m.rows x)=0
 len:((solV f m (dots f m.rows x)).length:Int)=m.cols
 dot:∀q:Int,0<=q->q<m.rows.length->dotF f (ix [] m.rows q) (solV f m (dots f m.rows x))=ix 0 (dots f m.rows x) q
 sup:∀i:Int,0<=i->ix 0 (solV f m (dots f m.rows x)) i≠0->i∈canP f m
theorem sol_facts {f:Fld} {m:Mat} {x:List Int} (hm:mErr f m=0) (hx:vecErr f x m.cols=0):SolF f m x:=by
 have hF:=(A_i.1 hm).1
 have hme:=(A_i.1 hm).2
 have hsz:=C_N hme
 have hgm:=C_O hme
 have hxv:=C_9.1 hx
 have hc:((m.cols.toNat:Nat):Int)=m.cols:=by omega
 have hb:=out_dots hF.1 m.rows x
 have hA:=D_z hF.1 hgm hb
 have hl:=B_K m.rows (dots f m.rows x)
 have rr:=C_H hF hA (C_X 0) (.inl rfl) m.cols.toNat
 have s1:=D_Q hF hA m.cols.toNat
 have hlx:=(B_G f (augL m.rows (dots f m.rows x)) [] m.cols.toNat).1
 rw [hl] at rr s1
 have hge:=B_7 hF.1 (Y:=[]) hA m.cols.toNat
 have hz:∀i,(elim f (augL m.rows (dots f m.rows x)) [] m.cols.toNat).piv.length<=i->i<m.rows.length->km hF (elim f (augL m.rows (dots f m.rows x)) [] m.cols.toNat).X i m.cols.toNat=0:=by
  intro i h1 h2
  rw [aug_fun hF hgm (x:=x) (by omega) (s1.1 i h2)]
  exact La.sm_zero fun j hj=>by rw [rr.rest i j h1 h2 hj,Fi.zero_mul]
 have hs1:sErr f m (dots f m.rows x)=0:=by
  rw [G_B hm]
  exact C_9.2 ⟨by simp,hb⟩
 have hse:solE f m (dots f m.rows x)=0:=by
  refine solE_ok hs1 (offR_none fun z z0 z1=>?_)
  have z1':z<(elim f (augL m.rows (dots f m.rows x)) [] m.cols.toNat).X.length:=z1
  have z0':((elim f (augL m.rows (dots f m.rows x)) [] m.cols.toNat).piv.length:Int)<=z:=z0
  have:=hz z.toNat (by omega) (by omega)
  have hr:=D_s hF.1 hge (i:=z) (by omega) z1' m.cols
  rw [C_8,show ((z.toNat:Nat):Int)=z by omega,hc] at this
  exact (E_I hF hr.1 hr.2).1 this
 have hsv:solV f m (dots f m.rows x)=solTo (elim f (augL m.rows (dots f m.rows x)) [] m.cols.toNat) ((m.cols.toNat:Nat):Int) (elim f (augL m.rows (dots f m.rows x)) [] m.cols.toNat).piv.length:=by
  rw [solV_ok hse,hc];rfl
 refine ⟨hse,by rw [hsv,C_c];omega,fun q q0 q1=>?_,fun i i0 hne=>?_⟩
 ·rw [hsv,sol_dot hF hgm hb hz q0 q1,i_P (by simpa using q1)]
 ·rw [hsv] at hne
  obtain ⟨k,k0,k1,k2⟩:=F_9 (fun p hp=>(F_N f _ _ _ p hp).1) _ i (Nat.le_refl _) i0 hne
  have hcp:canP f m=(elim f m.rows [] m.cols.toNat).piv:=canP_ok hm
  rw [hcp,<- piv_aug hF hgm hb,<- k2]
  exact B_i 0 _ k0 k1
end Go.Cw
namespace Go.Cw
end Go.Cw
namespace Go.Cw
section
variable {f : Fld} (h : FOk f)
theorem G_F {n:Nat} {X X':List (List Int)} (hX:good f n X) (hX':good f n X') (hl:X.length=X'.length) (e:∀i j,i<X.length->j<n->km h X i j=km h X' i j):X=X':=by
 refine D_O [] hl fun i i0 i1=>?_
 have g1:=hX _ (B_i [] X i0 i1)
 have g2:=hX' _ (B_i [] X' i0 (by omega))
 refine kv_ext h g1.2 g2.2 (by rw [g1.1,g2.1]) fun j hj=>?_
 have:=e i.toNat j (by omega) (by omega)
 rw [km_at,km_at,show ((i.toNat:Nat):Int)=i by omega] at this
 exact this
include h in
theorem C_h {n:Nat} (a:Mat) (b:Mat) (hn:b.cols.toNat=n):good f n (mulM f a b).rows:=fun l hl=>by
 obtain ⟨row,_,rfl⟩:=List.mem_map.1 hl
 exact ⟨by rw [length_comb];exact hn,comb_out h.1 _ _ _⟩
theorem getD_map {α β:Type} (g:α->β) (l:List α) (d:α) (d':β) {i:Nat} (hi:i<l.length):(l.map g).getD i d'=g (l.getD i d):=by simp [List.getD,hi]
theorem km_mul {a b:Mat} (ha:matErr f a=0) (hb:matErr f b=0) (hm:a.cols=b.rows.length) {i:Nat} (hi:i<a.rows.length):km h (mulM f a b).rows i=La.lin (km h a.rows i) (km h b.rows) b.rows.length:=by
 unfold km mulM
 rw [getD_map _ _ [] [] hi]
 have hl:=F_J ha (i:=(i:Int)) (by omega) (by omega)
 rw [C_R] at hl
 rw [kv_comb h (fun l hl=>by rw [(C_O hb l hl).1];exact Nat.le_refl _) (by omega)]
 rfl
include h in
theorem mulM_err {a b:Mat} (ha:matErr f a=0) (hb:matErr f b=0):matErr f (mulM f a b)=0:=by
 have sa:=C_N ha
 have sb:=C_N hb
 exact C_A sb.1 sb.2.1 (by rw [B_F];omega) (C_h h a b rfl)
theorem D_E {a b:Mat} (ha:matErr f a=0) (hb:matErr f b=0) (hm:a.cols=b.rows.length) {i:Nat} (hi:i<a.rows.length) (j:Nat):km h (mulM f a b).rows i j=La.sm (fun l=>km h a.rows i l*km h b.rows l j) b.rows.length:=by
 rw [km_mul h ha hb hm hi];rfl
include h in
theorem mul_assoc {a b c:Mat} (ha:matErr f a=0) (hb:matErr f b=0) (hc:matErr f c=0) (h1:a.cols=b.rows.length) (h2:b.cols=c.rows.length):mulM f (mulM f a b) c=mulM f a (mulM f b c):=by
 have hab:=mulM_err h ha hb
 have hbc:=mulM_err h hb hc
 have e:(mulM f (mulM f a b) c).rows=(mulM f a (mulM f b c)).rows:=by
  refine G_F h (C_h h _ _ rfl) (C_h h _ _ rfl) (by rw [B_F,B_F,B_F]) fun i j hi _=>?_
  rw [B_F,B_F] at hi
  rw [D_E h hab hc h2 (by rw [B_F];exact hi),D_E h ha hbc (by rw [B_F];exact h1) hi,B_F]
  have s1:∀l,km h (mulM f a b).rows i l=La.sm (fun k=>km h a.rows i k*km h b.rows k l) b.rows.length:=fun l=>D_E h ha hb h1 hi l
  rw [La.sm_congr (h:=fun l=>La.sm (fun k=>km h a.rows i k*km h b.rows k l*km h c.rows l j) b.rows.length) fun l _=>by rw [s1 l,La.sm_mulR]]
  rw [La.sm_swap]
  refine La.sm_congr fun k hk=>?_
  rw [D_E h hb hc h2 hk,<- La.sm_mul]
  exact La.sm_congr fun l _=>Fi.mul_assoc _ _ _
 show Mat.mk c.cols (mulM f (mulM f a b) c).rows=Mat.mk c.cols (mulM f a (mulM f b c)).rows
 rw [e]
theorem B_X (rows:List (List Int)) (cols:Int):(turnL rows cols).length=cols.toNat:=by unfold turnL;rw [A_x]
theorem F_B {α β:Type} (g:α->β) (l:List α) (d:α) (d':β) {i:Int} (h0:0<=i) (h1:i<l.length):ix d' (l.map g) i=g (ix d l i):=by
 simp only [ix];exact getD_map g l d d' (by omega)
theorem km_turn {rows:List (List Int)} {cols:Int} {i j:Nat} (hi:i<cols.toNat) (hj:j<rows.length):km h (turnL rows cols) i j=km h rows j i:=by
 rw [C_8,C_8]
 unfold turnL
 rw [B_d [] _ (by omega) (by omega),F_B _ _ [] 0 (by omega) (by omega)]
include h in
theorem turn_good {rows:List (List Int)} {cols:Int} (hr:good f cols.toNat rows) {n:Nat} (hn:rows.length=n):good f n (turnL rows cols):=fun l hl=>by
 unfold turnL at hl
 obtain ⟨v,v0,v1,rfl⟩:=D_K hl
 refine ⟨by simpa using hn,?_⟩
 rintro ⟨x,hx,hb⟩
 obtain ⟨row,hrow,rfl⟩:=List.mem_map.1 hx
 exact hb (F_U h.1 (hr _ hrow).2 v)
include h in
theorem turn_err {m:Mat} (hm:matErr f m=0):matErr f ⟨m.rows.length,turnL m.rows m.cols⟩=0:=by
 have s:=C_N hm
 exact C_A (by show (0:Int)<=m.rows.length;omega) (by show (m.rows.length:Int)<=256;omega) (by show (turnL m.rows m.cols).length<=256;rw [B_X];omega) (by show good f ((m.rows.length:Int)).toNat _;exact turn_good h (C_O hm) (by omega))
include h in
end
end Go.Cw
namespace Go.Cw
theorem F_F {f:Fld} {a b:Mat}:twoErr f a b=0↔mErr f a=0/\mErr f b=0:=by
 unfold twoErr
 split
 ·rename_i h;simp [h]
 ·rename_i h;simp [h]
theorem mulE_ok {f:Fld} {a b:Mat} (h:twoErr f a b=0) (h2:¬a.cols≠b.rows.length):mulE f a b=0:=by unfold mulE;rw [i_P h,i_N h2]
theorem C_K {f:Fld} {a b:Mat} (h:mulE f a b=0):mulV f a b=mulM f a b:=i_P h
theorem B_c {f:Fld} {a b:Mat} (h:mulE f a b=0):mErr f a=0/\mErr f b=0/\a.cols=b.rows.length:=by
 unfold mulE at h
 split at h
 ·rename_i h2
  split at h
  ·cases h
  ·rename_i h3;exact ⟨(F_F.1 h2).1,(F_F.1 h2).2,n_N h3⟩
 ·rename_i h2;exact absurd h h2
theorem D_0 {f:Fld} {m:Mat} (h:mErr f m=0):turM f m=⟨m.rows.length,turnL m.rows m.cols⟩:=i_P h
theorem turM_no {f:Fld} {m:Mat} (h:mErr f m≠0):turM f m=Mat.no:=i_N h
def colC (rows:List (List Int)) (j:Int):List Int:=rows.map fun row=>ix 0 row j
@[simp] theorem D_p (rows:List (List Int)) (j:Int):(colC rows j).length=rows.length:=by simp [colC]
theorem ix_colC (rows:List (List Int)) (j:Int) {i:Int} (h0:0<=i) (h1:i<rows.length):ix 0 (colC rows j) i=ix 0 (ix [] rows i) j:=by
 unfold colC;exact F_B _ rows [] 0 h0 h1
theorem turnL_ix (rows:List (List Int)) {cols j:Int} (h0:0<=j) (h1:j<cols):ix [] (turnL rows cols) j=colC rows j:=by
 unfold turnL;rw [B_d [] _ h0 h1];rfl
theorem turnL_succ (rows:List (List Int)) {cols j:Int} (h0:0<=j) (h1:j<cols):(turnL rows cols).take (j+1).toNat=(turnL rows cols).take j.toNat++[colC rows j]:=by
 rw [B_A [] (turnL rows cols) h0 (by rw [B_X];omega),turnL_ix rows h0 h1]
theorem turnL_ent {X:List (List Int)} {rows:List (List Int)} {i j:Int} (j0:0<=j) (j1:j<X.length) (i0:0<=i) (i1:i<rows.length) :
  X.set j.toNat (mixL (colC rows j) (List.replicate rows.length 0) (i+1))=(X.set j.toNat (mixL (colC rows j) (List.replicate rows.length 0) i)).set j.toNat ((ix [] (X.set j.toNat (mixL (colC rows j) (List.replicate rows.length 0) i)) j).set i.toNat (ix 0 (ix [] rows i) j)):=by
 rw [set_set_ix _ _ _ _ j0 j1,C_s (colC rows j) _ i0 (by simpa using i1) (by simp) (ix_colC rows j i0 i1).symm]
theorem turnL_mix {rows:List (List Int)} {cols i j:Int} (j0:0<=j) (j1:j<cols) (hi:(rows.length:Int)<=i) :
  mixG (turnL rows cols) (List.replicate cols.toNat []) (j+1)=(mixG (turnL rows cols) (List.replicate cols.toNat []) j).set j.toNat (mixL (colC rows j) (List.replicate rows.length 0) i):=by
 rw [D_X (colC rows j) _ (by simpa using hi) (by simpa using hi),<- turnL_ix rows j0 j1]
 exact F_s [] (turnL rows cols) _ j0 (by rw [B_X];omega) (by rw [B_X];simp)
theorem E_m {f:Fld} {a b:Mat} (ha:mErr f a=0) (hb:mErr f b=0) (h:a.cols=b.rows.length):mulE f a b=0:=mulE_ok (F_F.2 ⟨ha,hb⟩) (fun hn=>hn h)
end Go.Cw
namespace Go.Cw
namespace La
variable {K : Type} [Fi K]
theorem Rref.rows {A:Nat->Nat->K} {n r:Nat} {p:Nat->Nat} (hA:Rref A n n p r):Rows n A (if r<n then 0 else 1):=by
 intro G g
 split
 ·rename_i h
  rw [Fi.zero_mul]
  exact g.zero (p:=r) h fun j hj=>hA.rest r j (Nat.le_refl _) h hj
 ·have e:r=n:=by have:=hA.le;omega
  subst e
  rw [Fi.one_mul]
  exact g.congr fun i j hi hj=>hA.full.2 i j hi hj
theorem rows_ex {n:Nat} (R:Nat->Nat->K):∃d,Rows n R d:=by
 have key:∀c:Nat,∃(B:Nat->Nat->K) (p:Nat->Nat) (r:Nat) (d:K),Rref B n c p r/\∀G:(Nat->Nat->K)->K,RowF n G->G R=d*G B:=by
  intro c
  induction c with
  | zero=>exact ⟨R,fun _=>0,0,1,Rref.zero _ _ _,fun G _=>by rw [Fi.one_mul]⟩
  | succ c ih =>
   obtain ⟨B,p,r,d,h1,h2⟩:=ih
   by_cases hz:∀j,r<=j->j<n->B j c=0
   ·exact ⟨B,p,r,d,h1.skip hz,h2⟩
   ·obtain ⟨k,hk1,hk2,hne⟩:∃k,r<=k/\k<n/\B k c≠0 :=
     Classical.byContradiction fun hn=>hz fun j h4 h5=>Classical.byContradiction fun h6=>hn ⟨j,h4,h5,h6⟩
    refine ⟨colA B B r k c,fun i=>if i=r then c else p i,r+1,d*(if k≠r then -(B k c) else B k c),h1.step hk1 hk2 hne (i_P rfl) (fun i hi=>i_N (by omega)) (fun i j _=>rfl),fun G g=>?_⟩
    rw [h2 G g,Fi.mul_assoc,g.col B (by omega) hk2 hk1 hne]
 obtain ⟨B,p,r,d,h1,h2⟩:=key n
 exact ⟨d*(if r<n then 0 else 1),fun G g=>by rw [h2 G g,h1.rows G g,<- Fi.mul_assoc]⟩
theorem rows_eq {n:Nat} {R:Nat->Nat->K} {d:K} (h:Rows n R d):d=det n R:=by
 have:=h _ (rowDet rows_ex)
 rw [det_idm,Fi.mul_one] at this
 exact this.symm
end La
section
variable {f : Fld} (h : FOk f)
theorem elim_det {w:Nat} {X:List (List Int)} (hX:good f w X):∀(c:Nat) (G:(Nat->Nat->KF f h)->KF f h),La.RowF X.length G->G (km h X)=ke h (elim f X [] c).det*G (km h (elim f X [] c).X)
 | 0,G,_=>by
  show _=ke h 1*_
  rw [D_u,Fi.one_mul];rfl
 | c+1,G,g=>by
  have ih:=elim_det hX c G g
  have hl:=B_G f X [] c
  have hg:=B_7 h.1 (Y:=[]) hX c
  have hp:=C_p f X [] c
  show _=ke h (col f c (elim f X [] c)).det*G (km h (col f c (elim f X [] c)).X)
  rcases col_cases f c (elim f X [] c) (by omega) with ⟨e,_⟩ | ⟨k,k1,k2,k3,e⟩
  ·rw [e];exact ih
  ·rw [e,ih]
   have hr:=D_s h.1 hg (i:=(k:Int)) (by omega) (by omega) c
   have hne:km h (elim f X [] c).X k c≠0:=by
    rw [C_8]
    exact fun e0=>k3 ((E_I h hr.1 hr.2).1 e0)
   have hw:wide 0 (elim f X [] c).Y:=fun l hl2=>by
    have : (elim f X [] c).Y = []:=List.eq_nil_of_length_eq_zero hl.2
    rw [this] at hl2;cases hl2
   obtain ⟨q1,_⟩:=km_colK h hg hw (.inl (List.eq_nil_of_length_eq_zero hl.2)) (k:=k) (c:=c) (by omega) k2 hne
   have e2:G (km h (colK f c (elim f X [] c) k).X)=G (La.colA (km h (elim f X [] c).X) (km h (elim f X [] c).X) (elim f X [] c).piv.length k c):=g.congr fun i j hi _=>q1 i j (by omega)
   have e3:=g.col (km h (elim f X [] c).X) (r:=(elim f X [] c).piv.length) (k:=k) (c:=c) (by omega) (by omega) k1 hne
   have e4:ke h (colK f c (elim f X [] c) k).det=ke h (elim f X [] c).det*(if k≠(elim f X [] c).piv.length then -(km h (elim f X [] c).X k c) else km h (elim f X [] c).X k c):=by
    show ke h (mulF f (if (k:Int)≠((elim f X [] c).piv.length:Int) then negF f (elim f X [] c).det else (elim f X [] c).det) (phx c (elim f X [] c) k))=_
    rw [E_p,phx_eq (by omega) (by omega) (by omega),<- C_8]
    by_cases ek:k=(elim f X [] c).piv.length
    ·rw [i_N (fun hn=>hn (by omega)),i_N (fun hn=>hn ek)]
    ·rw [i_P (by omega),i_P ek,F_A,Fi.neg_mul,Fi.mul_neg]
   rw [e2,e4,Fi.mul_assoc,e3]
theorem ke_detV {m:Mat} (hq:sqErr f m=0):ke h (detV f m)=La.det m.rows.length (km h m.rows):=by
 obtain ⟨hm,hsq⟩:=E_A.1 hq
 have hg:=C_O (A_i.1 hm).2
 have en:m.cols.toNat=m.rows.length:=by omega
 have hr:=C_H h hg (C_X 0) (.inl rfl) m.cols.toNat
 have hp:=C_p f m.rows [] m.cols.toNat
 rw [<- La.rows_eq (R:=km h m.rows) (d:=ke h (detV f m))]
 intro G g
 rw [elim_det h hg m.cols.toNat G g]
 have hr2:La.Rref (km h (elim f m.rows [] m.cols.toNat).X) m.rows.length m.rows.length (pvN (elim f m.rows [] m.cols.toNat).piv) (elim f m.rows [] m.cols.toNat).piv.length:=by
  have:=hr;rwa [en] at this ⊢
 rw [hr2.rows G g]
 by_cases hlt:(elim f m.rows [] m.cols.toNat).piv.length<m.rows.length
 ·have : ((canX f m).piv.length:Int)<m.cols:=by show ((elim f m.rows [] m.cols.toNat).piv.length:Int)<m.cols;omega
  rw [i_P hlt,detV_rank hq this,B_m,Fi.zero_mul,Fi.mul_zero]
 ·have : ¬((canX f m).piv.length:Int)<m.cols:=by show ¬((elim f m.rows [] m.cols.toNat).piv.length:Int)<m.cols;omega
  rw [i_N hlt,detV_ok hq this,Fi.one_mul];rfl
end
end Go.Cw
namespace Go.Cw
theorem elim_fst (f:Fld) (X Y Z:List (List Int)):∀n,(elim f X Y n).X=(elim f X Z n).X/\(elim f X Y n).piv=(elim f X Z n).piv/\(elim f X Y n).det=(elim f X Z n).det
 | 0=>⟨rfl,rfl,rfl⟩
 | n+1=>by
  obtain ⟨h1,h2,h3⟩:=elim_fst f X Y Z n
  simp only [elim]
  generalize elim f X Y n=s at h1 h2 h3
  generalize elim f X Z n=t at h1 h2 h3
  cases s with | mk X1 Y1 p1 d1 =>
  cases t with | mk X2 Y2 p2 d2 =>
  simp only at h1 h2 h3
  subst h1 h2 h3
  simp only [col]
  split
  ·split
   ·simp only [colK,clr_fst,ph2,phx,ph1,true_and]
   ·exact ⟨rfl,rfl,rfl⟩
  ·exact ⟨rfl,rfl,rfl⟩
def zipR (X Y:List (List Int)):List (List Int):=mapR (fun i=>ix [] X i++ix [] Y i) X.length
@[simp] theorem D_A (X Y:List (List Int)):(zipR X Y).length=X.length:=by unfold zipR;rw [A_x];omega
theorem D_T {X Y:List (List Int)} {i:Int} (h0:0<=i) (h1:i<X.length):ix [] (zipR X Y) i=ix [] X i++ix [] Y i:=by unfold zipR;rw [B_d [] _ h0 h1]
theorem D_5 {a b:List Int} {j:Int} (h0:0<=j) (h1:j<a.length):ix 0 (a++b) j=ix 0 a j:=by
 simp only [ix,List.getD];rw [List.getElem?_append_left (by omega)]
theorem G_K {a b:List Int} {j:Int} (h0:a.length<=j):ix 0 (a++b) j=ix 0 b (j-a.length):=by
 simp only [ix,List.getD];rw [List.getElem?_append_right (by omega)];congr 2;omega
theorem addTo_app (f:Fld) {a b c d:List Int} (x:Int) (h:a.length=c.length):addTo f (a++b) x (c++d)=addTo f a x c++addTo f b x d:=by
 refine D_O 0 (by simp) fun j j0 j1=>?_
 have hl:=B_u f (a++b) x (c++d)
 have ha:=B_u f a x c
 have hb:=B_u f b x d
 have hab:(a++b).length=a.length+b.length:=l_A
 rw [D_v f _ _ _ j0 (by omega)]
 by_cases e:j<a.length
 ·rw [D_5 j0 e,D_5 j0 (by omega),D_5 j0 (by omega),D_v f _ _ _ j0 e]
 ·rw [G_K (a:=a) (by omega),G_K (a:=c) (by omega),G_K (a:=addTo f a x c) (by omega),D_v f _ _ _ (by omega) (by omega),ha,h]
theorem scaleF_app (f:Fld) (x:Int) (a b:List Int):scaleF f x (a++b)=scaleF f x a++scaleF f x b:=by
 refine D_O 0 (by simp) fun j j0 j1=>?_
 have hl:=C_k f x (a++b)
 have ha:=C_k f x a
 have hb:=C_k f x b
 have hab:(a++b).length=a.length+b.length:=l_A
 rw [E_r f _ _ j0 (by omega)]
 by_cases e:j<a.length
 ·rw [D_5 j0 e,D_5 j0 (by omega),E_r f _ _ j0 e]
 ·rw [G_K (a:=a) (by omega),G_K (a:=scaleF f x a) (by omega),E_r f _ _ (by omega) (by omega),ha]
theorem G_h {X Y:List (List Int)} (h:Y.length=X.length) (i:Nat) (x y:List Int):(zipR X Y).set i (x++y)=zipR (X.set i x) (Y.set i y):=by
 refine D_O [] (by simp) fun j j0 j1=>?_
 have hl:(zipR X Y).length=X.length:=D_A X Y
 have hs:((zipR X Y).set i (x++y)).length=X.length:=by rw [l_S];exact hl
 have hxs:(X.set i x).length=X.length:=l_S
 rw [D_T j0 (by omega)]
 by_cases hi:i<X.length
 ·have q:((i:Int)).toNat=i:=by omega
  have e1:=D_q [] (zipR X Y) (i:=(i:Int)) (j:=j) (x++y) (by omega) (by omega) j0
  have e2:=D_q [] X (i:=(i:Int)) (j:=j) x (by omega) (by omega) j0
  have e3:=D_q [] Y (i:=(i:Int)) (j:=j) y (by omega) (by omega) j0
  rw [q] at e1 e2 e3
  rw [e1,e2,e3]
  by_cases e:j=i
  ·rw [i_P e,i_P e,i_P e]
  ·rw [i_N e,i_N e,i_N e,D_T j0 (by omega)]
 ·rw [set_out (by omega),set_out hi,set_out (by omega),D_T j0 (by omega)]
theorem zipR_swp {X Y:List (List Int)} (h:Y.length=X.length) {p k:Int} (p0:0<=p) (p1:p<X.length) (k0:0<=k) (k1:k<X.length):swp [] (zipR X Y) p k=zipR (swp [] X p k) (swp [] Y p k):=by
 unfold swp
 rw [D_T k0 k1,D_T p0 p1,G_h h,G_h (by simpa using h)]
theorem clr_zip (f:Fld) {w wy:Nat} {c p:Int} {X Y:List (List Int)} (hX:wide w X) (hY:wide wy Y) (hl:Y.length=X.length) (c0:0<=c) (c1:c<w) (p0:0<=p) (p1:p<X.length):∀n,n<=X.length ->
  clrX f c p (zipR X Y) n=zipR (clr f c p X Y n).1 (clr f c p X Y n).2
 | 0,_=>rfl
 | n+1,hn=>by
  have ih:=clr_zip f hX hY hl c0 c1 p0 p1 n (by omega)
  have hw:=wide_clr1 (f:=f) (c:=c) (p:=p) (Y:=Y) hX n
  have hwy:=F_c (f:=f) (c:=c) (p:=p) (X:=X) hY n
  have hln:=C_2 f c p X Y n
  have e1:clrX f c p (zipR X Y) (n+1)=if (n:Int)≠p/\ix 0 (ix [] (clrX f c p (zipR X Y) n) n) c≠0 then (clrX f c p (zipR X Y) n).set n (addTo f (ix [] (clrX f c p (zipR X Y) n) n) (negF f (ix 0 (ix [] (clrX f c p (zipR X Y) n) n) c)) (ix [] (clrX f c p (zipR X Y) n) p)) else clrX f c p (zipR X Y) n:=by
   unfold clrX
   simp only [clr]
   split <;> rfl
  rw [e1,ih]
  simp only [clr]
  generalize clr f c p X Y n=AB at hw hwy hln
  obtain ⟨A,B⟩:=AB
  simp only at hw hwy hln ⊢
  have wn:=B_p hw (i:=(n:Int)) (by omega) (by omega)
  have wp:=B_p hw p0 (by omega)
  rw [D_T (by omega) (by omega),D_T p0 (by omega),D_5 c0 (by omega)]
  split
  ·rw [addTo_app f _ (by omega),G_h (by omega)]
  ·rfl
theorem col_zip (f:Fld) {w wy:Nat} {c:Nat} {s t:El} (hX:wide w s.X) (hY:wide wy s.Y) (hl:s.Y.length=s.X.length) (c1:c<w) (h1:t.X=zipR s.X s.Y) (h2:t.piv=s.piv) (h3:t.det=s.det) :
  (col f c t).X=zipR (col f c s).X (col f c s).Y/\(col f c t).piv=(col f c s).piv/\(col f c t).det=(col f c s).det:=by
 obtain ⟨X1,Y1,p1,d1⟩:=s
 obtain ⟨X2,Y2,p2,d2⟩:=t
 simp only at h1 h2 h3 hX hY hl
 subst h1 h2 h3
 simp only [col,D_A]
 by_cases hr:p2.length<X1.length
 ·rw [i_P hr,i_P hr]
  obtain ⟨k,e,k1,k2,k3,k4⟩:=pivK_spec X1 c (p:=p2.length) (by omega)
  have e':pivK (zipR X1 Y1) c p2.length=k:=by
   refine F_O (by omega) (by omega) (by rw [D_A];omega) (fun z z0 z1=>?_) ?_
   ·have wz:=B_p hX (i:=z) (by omega) (by omega)
    rw [D_T (by omega) (by omega),D_5 (by omega) (by omega)]
    have:=k3 z.toNat (by omega) (by omega)
    rwa [show ((z.toNat:Nat):Int)=z by omega] at this
   ·by_cases hk:k<X1.length
    ·right
     have wz:=B_p hX (i:=(k:Int)) (by omega) (by omega)
     rw [D_T (by omega) (by omega),D_5 (by omega) (by omega)]
     exact k4 hk
    ·left;rw [D_A];omega
  rw [e,e']
  by_cases hk:k<X1.length
  ·rw [i_P (by omega),i_P (by omega)]
   let s1:El:=⟨X1,Y1,p2,d2⟩
   have hq1:(if (k:Int)≠p2.length then swp [] (zipR X1 Y1) p2.length k else zipR X1 Y1)=zipR (ph1 s1 X1 k) (ph1 s1 Y1 k):=by
    unfold ph1
    show _=zipR (if (k:Int)≠p2.length then swp [] X1 p2.length k else X1) (if (k:Int)≠p2.length then swp [] Y1 p2.length k else Y1)
    split
    ·exact zipR_swp hl (by omega) (by omega) (by omega) (by omega)
    ·rfl
   have w1:wide w (ph1 s1 X1 k):=G_i (s:=s1) hX (by omega) (by show (p2.length:Int)<_↔_;omega)
   have v1:wide wy (ph1 s1 Y1 k):=G_i (s:=s1) hY (by omega) (by show (p2.length:Int)<_↔_;omega)
   have l1:(ph1 s1 X1 k).length=X1.length:=D_B _ _ _
   have m1:(ph1 s1 Y1 k).length=Y1.length:=D_B _ _ _
   have wr:=B_p w1 (i:=(p2.length:Int)) (by omega) (by omega)
   have hx:ix 0 (ix [] (zipR (ph1 s1 X1 k) (ph1 s1 Y1 k)) p2.length) c=phx c s1 k:=by
    rw [D_T (by omega) (by omega),D_5 (by omega) (by omega)];rfl
   have hq2:(if invF f (phx c s1 k)≠1 then (zipR (ph1 s1 X1 k) (ph1 s1 Y1 k)).set p2.length (scaleF f (invF f (phx c s1 k)) (ix [] (zipR (ph1 s1 X1 k) (ph1 s1 Y1 k)) p2.length)) else zipR (ph1 s1 X1 k) (ph1 s1 Y1 k))=zipR (ph2 f c s1 X1 k) (ph2 f c s1 Y1 k):=by
    unfold ph2
    split
    ·rw [D_T (by omega) (by omega),scaleF_app,G_h (by omega)]
    ·rfl
   have w2:wide w (ph2 f c s1 X1 k):=F_b (f:=f) (c:=c) (s:=s1) hX (k:=k) (by omega) (by show (p2.length:Int)<_↔_;omega)
   have v2:wide wy (ph2 f c s1 Y1 k):=F_b (f:=f) (c:=c) (s:=s1) hY (k:=k) (by omega) (by show (p2.length:Int)<_↔_;omega)
   have l2:(ph2 f c s1 X1 k).length=X1.length:=C_P _ _ _ _ _
   have m2:(ph2 f c s1 Y1 k).length=Y1.length:=C_P _ _ _ _ _
   have hz:=clr_zip f w2 v2 (by omega) (c:=c) (p:=(p2.length:Int)) (by omega) (by omega) (by omega) (by omega) X1.length (by omega)
   refine ⟨?_,rfl,?_⟩
   ·show (clr f c p2.length (ph2 f c ⟨zipR X1 Y1,Y2,p2,d2⟩ (zipR X1 Y1) k) _ (zipR X1 Y1).length).1=_
    rw [clr_fst,D_A]
    have e2:ph2 f c ⟨zipR X1 Y1,Y2,p2,d2⟩ (zipR X1 Y1) k=zipR (ph2 f c s1 X1 k) (ph2 f c s1 Y1 k):=by
     rw [<- hq2]
     unfold ph2 phx ph1
     show (if invF f (ix 0 (ix [] (if (k:Int)≠p2.length then swp [] (zipR X1 Y1) p2.length k else zipR X1 Y1) p2.length) c)≠1 then _ else _)=_
     rw [hq1,hx]
     rfl
    rw [e2,hz]
    rfl
   ·show mulF f (if (k:Int)≠p2.length then negF f d2 else d2) (ix 0 (ix [] (if (k:Int)≠p2.length then swp [] (zipR X1 Y1) p2.length k else zipR X1 Y1) p2.length) c)=_
    rw [hq1,hx]
    rfl
  ·rw [i_N (by omega),i_N (by omega)]
   exact ⟨rfl,rfl,rfl⟩
 ·rw [i_N hr,i_N hr]
  exact ⟨rfl,rfl,rfl⟩
theorem elim_zip {f:Fld} (hS:Shape f) {w wy:Nat} {X Y:List (List Int)} (hX:good f w X) (hY:wide wy Y) (hl:Y.length=X.length):∀n,n<=w ->
  (elim f (zipR X Y) [] n).X=zipR (elim f X Y n).X (elim f X Y n).Y/\(elim f (zipR X Y) [] n).piv=(elim f X Y n).piv/\(elim f (zipR X Y) [] n).det=(elim f X Y n).det
 | 0,_=>⟨rfl,rfl,rfl⟩
 | n+1,hn=>by
  obtain ⟨h1,h2,h3⟩:=elim_zip hS hX hY hl n (by omega)
  have hle:=B_G f X Y n
  exact col_zip f (B_v (B_7 hS (Y:=Y) hX n)) (E_e (f:=f) hY (.inr hl) n) (by omega) (by omega) h1 h2 h3
end Go.Cw
namespace Go.Cw
theorem traT_ok {f:Fld} {m:Mat} (h:mErr f m=0):traT f m=⟨m.rows.length,(traX f m).Y⟩:=i_P h
theorem traR_ok {f:Fld} {m:Mat} (h:mErr f m=0):traR f m=⟨m.cols,(traX f m).X⟩:=i_P h
theorem good_uni {f:Fld} (hS:Shape f) (n:Int):good f n.toNat (uni n):=fun l hl=>by
 refine ⟨E_y n l hl,?_⟩
 have hb:=hS.bd
 unfold uni mkM at hl
 obtain ⟨v,v0,v1,rfl⟩:=D_K hl
 refine D_j fun i _ _=>?_
 show 0<=(if v=i then (1:Int) else 0)/\(if v=i then (1:Int) else 0)<f.q
 split
 ·exact ⟨by omega,by omega⟩
 ·exact ⟨by omega,by omega⟩
section
variable {f : Fld} {m : Mat} (hm : mErr f m = 0)
include hm
theorem tra_good:good f (m.cols.toNat+m.rows.length) (zipR m.rows (uni m.rows.length)):=fun l hl=>by
 obtain ⟨hF,hme⟩:=A_i.1 hm
 unfold zipR at hl
 obtain ⟨i,i0,i1,rfl⟩:=D_K hl
 have a:=C_O hme _ (B_Z i0 i1)
 have b:=good_uni hF.1 (m.rows.length:Int) _ (B_Z i0 (show i<(uni m.rows.length).length by rw [B_R];omega))
 exact ⟨by rw [l_A,a.1,b.1];omega,E_F a.2 b.2⟩
theorem tra_zip:(elim f (zipR m.rows (uni m.rows.length)) [] m.cols.toNat).X=zipR (traX f m).X (traX f m).Y:=by
 obtain ⟨hF,hme⟩:=A_i.1 hm
 exact (elim_zip hF.1 (C_O hme) (E_y _) (by rw [B_R];omega) m.cols.toNat (Nat.le_refl _)).1
theorem tra_len:(traX f m).X.length=m.rows.length/\(traX f m).Y.length=m.rows.length:=by
 have:=B_G f m.rows (uni m.rows.length) m.cols.toNat
 have h2:=B_R (m.rows.length:Int)
 exact ⟨this.1,by show (elim f m.rows (uni m.rows.length) m.cols.toNat).Y.length=_;omega⟩
theorem tra_X:good f m.cols.toNat (traX f m).X:=B_7 (A_i.1 hm).1.1 (C_O (A_i.1 hm).2) _
theorem tra_row {i:Int} (i0:0<=i) (i1:i<m.rows.length):ix [] (elim f (zipR m.rows (uni m.rows.length)) [] m.cols.toNat).X i=ix [] (traX f m).X i++ix [] (traX f m).Y i:=by
 rw [tra_zip hm,D_T i0 (by have:=tra_len hm;omega)]
theorem tra_Y:good f m.rows.length (traX f m).Y:=fun l hl=>by
 obtain ⟨z,z0,z1,rfl⟩:=mem_ix [] hl
 have tl:=tra_len hm
 have g:=B_7 (A_i.1 hm).1.1 (Y:=[]) (tra_good hm) m.cols.toNat _ (B_Z z0 (by rw [(B_G _ _ _ _).1,D_A];omega))
 have r:=tra_row hm z0 (by omega)
 have w:=tra_X hm _ (B_Z z0 (show z<(traX f m).X.length by omega))
 rw [r] at g
 rw [l_A] at g
 exact ⟨by omega,fun ⟨x,hx,hb⟩=>g.2 ⟨x,List.mem_append_right _ hx,hb⟩⟩
end
namespace La
variable {K : Type} [Fi K]
theorem colA_mul {A C M:Nat->Nat->K} {n r k c:Nat} (hr:r<n) (hk:k<n) (h:∀i,i<n->∀j,A i j=sm (fun l=>C i l*M l j) n):∀i,i<n->∀j,colA A A r k c i j=sm (fun l=>colA A C r k c i l*M l j) n:=by
 intro i hi j
 have e:∀(x:K) (i:Nat),sm (fun l=>x*C i l*M l j) n=x*sm (fun l=>C i l*M l j) n:=fun x i=>by
  rw [<- sm_mul];exact sm_congr fun l _=>Fi.mul_assoc _ _ _
 by_cases e1:i=r
 ·have : sm (fun l=>colA A C r k c i l*M l j) n=sm (fun l=>Fi.inv (A k c)*C k l*M l j) n:=sm_congr fun l _=>by subst e1;rw [colA_p]
  rw [this,e,<- h k hk j];subst e1;rw [colA_p]
 ·have key:∀(i':Nat) (y:K),i'<n->sm (fun l=>(C i' l+y*(Fi.inv (A k c)*C k l))*M l j) n=A i' j+y*(Fi.inv (A k c)*A k j):=fun i' y hi'=>by
   rw [sm_congr (h:=fun l=>C i' l*M l j+y*Fi.inv (A k c)*C k l*M l j) fun l _=>by rw [Fi.add_mul,<- Fi.mul_assoc y],sm_add,e,<- h i' hi' j,<- h k hk j,Fi.mul_assoc]
  by_cases e2:i=k
  ·have l1:∀l,colA A C r k c i l=C r l + -(A r c)*(Fi.inv (A k c)*C k l):=fun l=>by unfold colA;rw [i_N e1,i_P e2,i_P e2]
   have l2:colA A A r k c i j=A r j + -(A r c)*(Fi.inv (A k c)*A k j):=by unfold colA;rw [i_N e1,i_P e2,i_P e2]
   rw [l2,sm_congr (h:=fun l=>(C r l + -(A r c)*(Fi.inv (A k c)*C k l))*M l j) fun l _=>by rw [l1],key r _ hr]
  ·have l1:∀l,colA A C r k c i l=C i l + -(A i c)*(Fi.inv (A k c)*C k l):=fun l=>by unfold colA;rw [i_N e1,i_N e2,i_N e2]
   have l2:colA A A r k c i j=A i j + -(A i c)*(Fi.inv (A k c)*A k j):=by unfold colA;rw [i_N e1,i_N e2,i_N e2]
   rw [l2,sm_congr (h:=fun l=>(C i l + -(A i c)*(Fi.inv (A k c)*C k l))*M l j) fun l _=>by rw [l1],key i _ hi]
end La
section
variable {f : Fld} (h : FOk f)
theorem km_uni {n:Nat} {i j:Nat} (hi:i<n) (hj:j<n):km h (uni n) i j=La.idm i j:=by
 have hb:=h.1.bd
 rw [C_8]
 unfold uni
 rw [E_d _ (by omega) (by omega),B_d 0 _ (by omega) (by omega)]
 unfold La.idm
 by_cases e:i=j
 ·rw [i_P (by omega),i_P e,D_u]
 ·rw [i_N (by omega),i_N e,B_m]
variable {m : Mat}
theorem tra_prod (hm:mErr f m=0):∀i,i<m.rows.length->∀j,km h (traX f m).X i j=La.sm (fun l=>km h (traX f m).Y i l*km h m.rows l j) m.rows.length:=by
 have hg:=C_O (A_i.1 hm).2
 refine G_3 h hg (E_y _) (.inr (by rw [B_R];omega)) (Φ:=fun A C=>∀i,i<m.rows.length->∀j,A i j=La.sm (fun l=>C i l*km h m.rows l j) m.rows.length) ?_ ?_ ?_ m.cols.toNat
 ·intro A C A' C' h1 h2 h3 i hi j
  rw [<- h1 i j hi,h3 i hi j]
  exact La.sm_congr fun l _=>by rw [h2 i l hi]
 ·intro A C r k c hr hk _ h3
  exact La.colA_mul (by omega) hk h3
 ·intro i hi j
  rw [La.sm_one (k:=i) hi fun l hl hne=>by
   rw [km_uni h hi hl];unfold La.idm;rw [i_N (Ne.symm hne),Fi.zero_mul]]
  rw [km_uni h hi hi];unfold La.idm;rw [i_P rfl,Fi.one_mul]
theorem tra_inv (hm:mErr f m=0):∀i,i<m.rows.length->∃c:Nat->KF f h,∀j,j<m.rows.length->La.idm i j=La.sm (fun k=>c k*km h (traX f m).Y k j) m.rows.length:=by
 have hg:=C_O (A_i.1 hm).2
 have key:∀i,i<m.rows.length->La.Span (km h (traX f m).Y) m.rows.length (km h (uni m.rows.length) i):=by
  refine G_3 h hg (E_y _) (.inr (by rw [B_R];omega)) (Φ:=fun _ C=>∀i,i<m.rows.length->La.Span C m.rows.length (km h (uni m.rows.length) i)) ?_ ?_ ?_ m.cols.toNat
  ·intro A C A' C' _ h2 h3 i hi
   obtain ⟨c,e⟩:=h3 i hi
   exact ⟨c,by rw [e];funext j;exact La.sm_congr fun l hl=>by rw [h2 l j hl]⟩
  ·intro A C r k c hr hk hne h3 i hi
   exact (h3 i hi).trans (colA_span A C hr hk hne).2
  ·exact fun i hi=>La.Span.mem hi
 intro i hi
 obtain ⟨c,e⟩:=key i hi
 exact ⟨c,fun j hj=>by rw [<- km_uni h hi hj];exact congrFun e j⟩
end
structure TraG (f:Fld) (m:Mat):Prop where
 t:mErr f (traT f m)=0
 p:mulE f (traT f m) m=0
 pr:mulV f (traT f m) m=traR f m
 k:invE f (traT f m)=0
theorem tra_facts {f:Fld} {m:Mat} (hm:mErr f m=0):TraG f m:=by
 obtain ⟨hF,hme⟩:=A_i.1 hm
 have sm:=C_N hme
 have tl:=tra_len hm
 have eT:=traT_ok hm
 have gY:=tra_Y hm
 have hT:mErr f ⟨m.rows.length,(traX f m).Y⟩=0:=A_i.2 ⟨hF,C_A (by show (0:Int)<=m.rows.length;omega) (by show (m.rows.length:Int)<=256;omega) (by show (traX f m).Y.length<=256;omega) (by show good f ((m.rows.length:Int)).toNat _;exact gY)⟩
 have p:mulE f (traT f m) m=0:=by rw [eT];exact E_m hT hm rfl
 refine ⟨by rw [eT];exact hT,p,?_,?_⟩
 ·rw [C_K p,eT,traR_ok hm]
  have e:(mulM f ⟨m.rows.length,(traX f m).Y⟩ m).rows=(traX f m).X:=by
   refine G_F hF (n:=m.cols.toNat) (C_h hF _ _ rfl) (tra_X hm) (by rw [B_F];exact tl.2.trans tl.1.symm) fun i j hi _=>?_
   rw [B_F] at hi
   have hi2:i<(traX f m).Y.length:=hi
   have hi':i<m.rows.length:=by omega
   rw [D_E hF (A_i.1 hT).2 hme rfl (by show i<(traX f m).Y.length;omega),tra_prod hF hm i hi']
  show Mat.mk m.cols (mulM f ⟨m.rows.length,(traX f m).Y⟩ m).rows=_
  rw [e]
 ·rw [eT]
  have q:sqErr f ⟨m.rows.length,(traX f m).Y⟩=0:=E_A.2 ⟨hT,by show ((traX f m).Y.length:Int)=m.rows.length;omega⟩
  refine invE_ok q ?_
  have e1:=(elim_fst f (traX f m).Y (uni (traX f m).Y.length) [] m.rows.length).2.1
  have hr:=C_H hF gY (C_X 0) (.inl rfl) m.rows.length
  have hs:=D_Q hF gY m.rows.length
  rw [tl.2] at hr
  show ¬((elim f (traX f m).Y (uni (traX f m).Y.length) ((m.rows.length:Int)).toNat).piv.length:Int)<m.rows.length
  rw [show ((m.rows.length:Int)).toNat=m.rows.length by omega,e1]
  have:=La.indep_le (A:=km hF (elim f (traX f m).Y [] m.rows.length).X) (B:=La.idm) (k:=m.rows.length) (r:=(elim f (traX f m).Y [] m.rows.length).piv.length) (q:=id) (fun i j hi hj=>by show La.idm i j=_;unfold La.idm;by_cases e:i=j;(rw [i_P e,i_P e.symm]);(rw [i_N e,i_N (Ne.symm e)])) (fun i hi=>by
   obtain ⟨c,hc⟩:=tra_inv hF hm i hi
   have hv:La.Span (km hF (elim f (traX f m).Y [] m.rows.length).X) m.rows.length (La.lin c (km hF (traX f m).Y) m.rows.length):=La.Span.trans ⟨c,rfl⟩ (fun k hk=>by have:=hs.2 k (by omega);rw [tl.2] at this;exact this)
   exact ⟨_,⟨_,rfl⟩,fun j hj=>by show La.idm i j=_;rw [hc j hj];exact hr.span hv hj⟩)
  omega
structure InvG (f:Fld) (m:Mat):Prop where
 eT:invM f m=⟨m.cols,(traX f m).Y⟩
 t:mErr f (invM f m)=0
 x:mulE f (invM f m) m=0
 y:mulE f m (invM f m)=0
 xr:(mulV f (invM f m) m).rows=uni m.cols
 yr:(mulV f m (invM f m)).rows=uni m.cols
 d:detV f m≠0
theorem F_y {f:Fld} {m:Mat} (hi:invE f m=0):InvG f m:=by
 have hq:sqErr f m=0:=by
  unfold invE at hi
  split at hi
  ·rename_i h;exact h
  ·rename_i h;exact absurd hi h
 obtain ⟨hm,hsq⟩:=E_A.1 hq
 obtain ⟨hF,hme⟩:=A_i.1 hm
 have sm:=C_N hme
 have tl:=tra_len hm
 have T:=tra_facts hm
 have eM:invM f m=traT f m:=by rw [invM_ok hi,traT_ok hm,hsq]
 have hrk:¬((traX f m).piv.length:Int)<m.cols:=fun hlt=>by
  rw [invE_rank hq hlt] at hi;exact absurd hi (by decide)
 have hpl:=C_p f m.rows (uni m.rows.length) m.cols.toNat
 have en:m.cols.toNat=m.rows.length:=by omega
 have hpn:(traX f m).piv.length=m.rows.length:=by
  have : (traX f m).piv.length<=m.rows.length:=hpl.1
  omega
 have hr:La.Rref (km hF (traX f m).X) m.rows.length m.cols.toNat (pvN (traX f m).piv) (traX f m).piv.length:=C_H hF (C_O hme) (E_y _) (.inr (by rw [B_R];omega)) m.cols.toNat
 rw [en,hpn] at hr
 have hI:=hr.full.2
 have gu:good f m.cols.toNat (uni m.cols):=good_uni hF.1 m.cols
 have lu:=B_R m.cols
 have ku:∀i j,i<m.rows.length->j<m.rows.length->km hF (uni m.cols) i j=La.idm i j:=fun i j h1 h2=>by
  have:=km_uni hF h1 h2;rwa [hsq] at this
 have hXU:(traX f m).X=uni m.cols:=G_F hF (tra_X hm) gu (by omega) fun i j h1 h2=>by
  rw [hI i j (by omega) (by omega),ku i j (by omega) (by omega)]
 have hT:mErr f (invM f m)=0:=by rw [eM];exact T.t
 have y:mulE f m (invM f m)=0:=E_m hm hT (by rw [eM,traT_ok hm];show m.cols=(traX f m).Y.length;omega)
 have hMY:∀i j,i<m.rows.length->j<m.rows.length->La.sm (fun l=>km hF m.rows i l*km hF (traX f m).Y l j) m.rows.length=La.idm i j:=by
  intro i j hi hj
  obtain ⟨c,hc⟩:=tra_inv hF hm i hi
  have hz:∀j,j<m.rows.length->km hF m.rows i j=c j:=fun j hj=>by
   have e1:km hF m.rows i j=La.sm (fun l=>La.idm i l*km hF m.rows l j) m.rows.length:=by
    rw [La.sm_one (k:=i) hi fun l _ hne=>by unfold La.idm;rw [i_N (Ne.symm hne),Fi.zero_mul]]
    unfold La.idm;rw [i_P rfl,Fi.one_mul]
   rw [e1,La.sm_congr (h:=fun l=>La.sm (fun k=>c k*km hF (traX f m).Y k l*km hF m.rows l j) m.rows.length) fun l hl=>by rw [hc l hl,La.sm_mulR],La.sm_swap]
   rw [La.sm_congr (h:=fun k=>c k*La.idm k j) fun k hk=>by
    rw [<- hI k j hk hj,tra_prod hF hm k hk j,<- La.sm_mul]
    exact La.sm_congr fun l _=>Fi.mul_assoc _ _ _]
   rw [La.sm_one (k:=j) hj fun k _ hne=>by unfold La.idm;rw [i_N hne,Fi.mul_zero]]
   unfold La.idm;rw [i_P rfl,Fi.mul_one]
  rw [hc j hj]
  exact La.sm_congr fun l hl=>by rw [hz l hl]
 have d:detV f m≠0:=by
  intro hd
  have h1:=ke_detV hF hq
  rw [hd,B_m] at h1
  have h2:=La.det_mul La.rows_ex (n:=m.rows.length) (km hF (traX f m).Y) (km hF m.rows)
  rw [<- h1,Fi.mul_zero,La.det_congr (B:=La.idm) (fun i j h3 h4=>by show La.sm _ _=_;rw [<- tra_prod hF hm i h3 j,hI i j h3 h4]),La.det_idm] at h2
  exact Fi.one_ne h2
 refine ⟨invM_ok hi,hT,by rw [eM];exact T.p,y,?_,?_,d⟩
 ·rw [eM,T.pr,traR_ok hm];exact hXU
 ·rw [C_K y,eM,traT_ok hm]
  refine G_F hF (n:=m.cols.toNat) (C_h hF _ _ (by show ((m.rows.length:Int)).toNat=_;omega)) gu (by rw [B_F];omega) fun i j h1 h2=>?_
  rw [B_F] at h1
  have h3:=T.t
  rw [traT_ok hm] at h3
  rw [D_E hF hme (A_i.1 h3).2 (by show m.cols=(traX f m).Y.length;omega) h1,ku i j h1 (by omega)]
  show La.sm _ (traX f m).Y.length=_
  rw [tl.2]
  exact hMY i j h1 (by omega)
end Go.Cw
namespace Go.Cw
section
variable {f : Fld} (h : FOk f)
end
end Go.Cw
namespace Go.Cw
def frC (P:List Int):Nat->List Nat
 | 0=>[]
 | c+1=>if (c:Int)∈P then frC P c else frC P c++[c]
theorem F_W {P:List Int} {x:Nat}:∀ {c:Nat},x∈frC P c->x<c/\(x:Int)∉P
 | 0,h=>by cases h
 | c+1,h=>by
  unfold frC at h
  split at h
  ·have:=F_W h;exact ⟨by omega,this.2⟩
  ·rename_i hc
   rcases List.mem_append.1 h with h | h
   ·have:=F_W h;exact ⟨by omega,this.2⟩
   ·rw [List.mem_singleton] at h;subst h;exact ⟨by omega,hc⟩
theorem frC_nodup (P:List Int):∀c,(frC P c).Nodup
 | 0=>List.nodup_nil
 | c+1=>by
  unfold frC
  split
  ·exact frC_nodup P c
  ·refine List.nodup_append.2 ⟨frC_nodup P c,by simp,fun x hx y hy=>?_⟩
   rw [List.mem_singleton] at hy
   have:=F_W hx
   omega
theorem G_u (f:Fld) (R:List (List Int)) (P:List Int) (cols:Int):∀c,kerL f R P cols c=(frC P c).map fun x:Nat=>kerTo f R P cols (x:Int) P.length
 | 0=>rfl
 | c+1=>by
  unfold frC
  rw [kerL,G_u f R P cols c]
  split
  ·rfl
  ·simp
theorem cnt_succ (c:Int):∀P:List Int,(P.filter fun p=>decide (p<c+1)).length=(P.filter fun p=>decide (p<c)).length+(P.filter fun p=>decide (p=c)).length
 | []=>rfl
 | p::P=>by
  have ih:=cnt_succ c P
  simp only [List.filter_cons]
  by_cases h1:p<c
  ·rw [i_P (by simp;omega),i_P (by simpa using h1),i_N (by simp;omega)]
   simp only [List.length_cons];omega
  ·by_cases h3:p=c
   ·rw [i_P (by simp;omega),i_N (by simpa using h1),i_P (by simpa using h3)]
    simp only [List.length_cons];omega
   ·rw [i_N (by simp;omega),i_N (by simpa using h1),i_N (by simpa using h3)]
    exact ih
theorem cnt_one (c:Int):∀ {P:List Int},P.Nodup->(P.filter fun p=>decide (p=c)).length=if c∈P then 1 else 0
 | [],_=>rfl
 | p::P,h=>by
  obtain ⟨h1,h2⟩:=List.nodup_cons.1 h
  have ih:=cnt_one c h2
  rw [List.filter_cons]
  by_cases e:p=c
  ·subst e
   rw [i_N h1] at ih
   simp [ih]
  ·rw [i_N (by simpa using e),ih]
   have : (c∈p::P)↔c∈P:=by simp [Ne.symm e]
   by_cases hc:c∈P
   ·rw [i_P hc,i_P (this.2 hc)]
   ·rw [i_N hc,i_N (fun h=>hc (this.1 h))]
theorem frC_len {P:List Int} (hP:P.Nodup) (h0:∀p∈P,0<=p):∀c:Nat,(frC P c).length+(P.filter fun p=>decide (p<(c:Int))).length=c
 | 0=>by
  have : (P.filter fun p=>decide (p<((0:Nat):Int))) = []:=List.filter_eq_nil_iff.2 fun p hp=>by have:=h0 p hp;simp;omega
  rw [this];rfl
 | c+1=>by
  have ih:=frC_len hP h0 c
  have h1:=cnt_succ (c:Int) P
  have h2:=cnt_one (c:Int) hP
  rw [show (((c+1:Nat):Nat):Int)=(c:Int)+1 by omega,h1,h2]
  unfold frC
  split
  ·omega
  ·simp only [l_A,List.length_cons,List.length_nil];omega
section
variable {f : Fld} {n : Nat} {X : List (List Int)}
theorem piv_nodup (h:FOk f) (hX:good f n X):(elim f X [] n).piv.Nodup:=by
 rw [List.Nodup,List.pairwise_iff_getElem]
 intro i j hi hj hij
 have:=piv_inc (n:=n) h hX (i:=(i:Int)) (j:=(j:Int)) (by omega) (by omega) (by omega)
 rw [C_R,C_R,List.getD_eq_getElem?_getD,List.getD_eq_getElem?_getD,g_E hi,g_E hj] at this
 simp only [Option.getD_some] at this
 omega
theorem kerX_len (h:FOk f) (hX:good f n X):(kerX f X n).length+(elim f X [] n).piv.length=n:=by
 have hr:=F_N f X [] n
 have:=frC_len (piv_nodup h hX) (fun p hp=>(hr p hp).1) n
 have hall:((elim f X [] n).piv.filter fun p=>decide (p<(n:Int)))=(elim f X [] n).piv:=List.filter_eq_self.2 fun p hp=>by have:=hr p hp;simpa using this.2
 rw [hall] at this
 show (kerL f _ _ _ _).length+_=_
 rw [G_u,List.length_map]
 exact this
theorem G_I {R:List (List Int)} {P:List Int} {cols c:Int} (c0:0<=c) (hp:∀p∈P,0<=p):∀(k:Nat) (j:Int),k<=P.length->0<=j->ix 0 (kerTo f R P cols c k) j≠0->j=c\/∃i:Int,0<=i/\i<k/\ix 0 P i=j
 | 0,j,_,j0,hne=>by
  by_cases e:j=c
  ·exact .inl e
  ·exfalso;apply hne
   show ix 0 ((List.replicate cols.toNat (0:Int)).set c.toNat 1) j=0
   simp only [ix,List.getD]
   rw [List.getElem?_set_ne (by omega),List.getElem?_replicate]
   split <;> rfl
 | k+1,j,hk,j0,hne=>by
  have h0:=hp _ (B_i 0 P (i:=(k:Int)))
  by_cases e:ix 0 P k=j
  ·exact .inr ⟨k,by omega,by omega,e⟩
  ·have : ix 0 (kerTo f R P cols c (k+1)) j=ix 0 (kerTo f R P cols c k) j:=by
    show ix 0 ((kerTo f R P cols c k).set (ix 0 P k).toNat _) j=_
    simp only [ix,List.getD]
    rw [List.getElem?_set_ne]
    intro e2
    apply e
    simp only [ix,List.getD] at h0 ⊢
    omega
   rw [this] at hne
   rcases G_I c0 hp k j (by omega) j0 hne with h1 | ⟨i,i0,i1,i2⟩
   ·exact .inl h1
   ·exact .inr ⟨i,i0,by omega,i2⟩
theorem kerTo_one {R:List (List Int)} {P:List Int} {cols c:Int} (c0:0<=c) (c1:c<cols) (hp:∀p∈P,0<=p) (hc:c∉P):∀(k:Nat),k<=P.length->ix 0 (kerTo f R P cols c k) c=1
 | 0,_=>by
  show ix 0 ((List.replicate cols.toNat (0:Int)).set c.toNat 1) c=1
  rw [D_q 0 _ _ c0 (by simp;omega) c0,i_P rfl]
 | k+1,hk=>by
  have hm:=B_i 0 P (i:=(k:Int)) (by omega) (by omega)
  have h0:=hp _ hm
  rw [<- kerTo_one c0 c1 hp hc k (by omega)]
  show ix 0 ((kerTo f R P cols c k).set (ix 0 P k).toNat _) c=_
  simp only [ix,List.getD]
  rw [List.getElem?_set_ne]
  intro e2
  apply hc
  have : ix 0 P k=c:=by simp only [ix,List.getD] at h0 ⊢;omega
  rw [<- this];exact hm
theorem ker_orth (h:FOk f) (hX:good f n X) {v:Nat->KF f h} (hv:La.Span (km h X) X.length v) {c:Nat} (hc:c<n) (hcP:(c:Int)∉(elim f X [] n).piv) :
  La.sm (fun j=>v j*kv h (kerTo f (canR (elim f X [] n)) (elim f X [] n).piv n c (elim f X [] n).piv.length) j) n=0:=by
 have rr:=C_H h hX (C_X 0) (.inl rfl) n
 have s1:=D_Q h hX n
 have hv2:La.Span (km h (elim f X [] n).X) X.length v:=hv.trans s1.2
 have hpr:=F_N f X [] n
 have hpv:∀i:Nat,i<(elim f X [] n).piv.length->((pvN (elim f X [] n).piv i:Nat):Int)=ix 0 (elim f X [] n).piv i:=fun i hi=>pvN_ix X [] n hi
 have hcan:∀i:Nat,i<(elim f X [] n).piv.length->ix [] (canR (elim f X [] n)) i=ix [] (elim f X [] n).X i:=fun i hi=>ix_canR (by omega) (by omega)
 have hpl:=C_p f X [] n
 generalize hE:elim f X [] n=E at *
 have key:∀k:Nat,k<=E.piv.length->La.sm (fun j=>v j*kv h (kerTo f (canR E) E.piv n c k) j) n=v c + -(La.sm (fun i=>v (pvN E.piv i)*km h E.X i c) k):=by
  intro k
  induction k with
  | zero =>
   intro _
   show _=v c + -(0:KF f h)
   rw [Fi.neg_zero,Fi.add_zero]
   have hk0:kerTo f (canR E) E.piv (n:Int) c 0=(List.replicate n 0).set c 1:=by
    show (List.replicate (n:Int).toNat 0).set ((c:Int)).toNat 1=_
    rw [show ((n:Int)).toNat=n by omega,show ((c:Int)).toNat=c by omega]
   rw [hk0,La.sm_one (k:=c) hc fun j _ hne=>by rw [kv_set h (by simpa using hc),i_N hne,kv_zeros,Fi.mul_zero],kv_set h (by simpa using hc),i_P rfl,D_u,Fi.mul_one]
  | succ k ih =>
   intro hk
   have hpk:=hpv k (by omega)
   have hmk:=B_i 0 E.piv (i:=(k:Int)) (by omega) (by omega)
   have hrk:=hpr _ hmk
   have hset:kerTo f (canR E) E.piv (n:Int) c (k+1)=(kerTo f (canR E) E.piv n c k).set (pvN E.piv k) (negF f (ix 0 (ix [] E.X k) c)):=by
    show (kerTo f (canR E) E.piv (n:Int) c k).set (ix 0 E.piv k).toNat _=_
    rw [<- hpk,hcan k (by omega)];rfl
   have hln:pvN E.piv k<(kerTo f (canR E) E.piv (n:Int) c k).length:=by rw [E_o];omega
   show _=v c + -(La.sm _ k+v (pvN E.piv k)*km h E.X k c)
   rw [hset,La.sm_upd (p:=pvN E.piv k) (by omega) (g:=fun j=>v j*kv h (kerTo f (canR E) E.piv n c k) j) ?_ (fun j hj=>by rw [kv_set h hln,i_N hj]),ih (by omega)]
   ·rw [kv_set h hln,i_P rfl,F_A,<- C_8,Fi.neg_add_rev]
    have : v (pvN E.piv k) * -km h E.X k c = -(v (pvN E.piv k)*km h E.X k c):=Fi.mul_neg _ _
    rw [this]
    ac_rfl
   ·have : ix 0 (kerTo f (canR E) E.piv (n:Int) c k) (pvN E.piv k:Nat)=0:=by
     apply Classical.byContradiction
     intro hne
     rcases G_I (by omega) (fun p hp=>(hpr p hp).1) k _ (by omega) (by omega) hne with e | ⟨i,i0,i1,i2⟩
     ·exact hcP (by rw [<- e,hpk];exact hmk)
     ·have:=rr.inc i.toNat k (by omega) (by omega)
      have hpi:=hpv i.toNat (by omega)
      rw [show ((i.toNat:Nat):Int)=i by omega] at hpi
      omega
    show v _*kv h (kerTo f (canR E) E.piv n c k) _=0
    rw [D_4 h (kerTo f (canR E) E.piv n c k),this,B_m,Fi.mul_zero]
 rw [key _ (Nat.le_refl _),rr.span hv2 hc]
 exact Fi.add_neg _
theorem G_t (f:Fld) (X:List (List Int)) (n:Nat) {i:Nat} (hi:i<(kerX f X n).length):∃c:Nat,c=(frC (elim f X [] n).piv n).getD i 0/\c∈frC (elim f X [] n).piv n/\(kerX f X n).getD i []=kerTo f (canR (elim f X [] n)) (elim f X [] n).piv n c (elim f X [] n).piv.length:=by
 have e:kerX f X n=(frC (elim f X [] n).piv n).map fun c:Nat=>kerTo f (canR (elim f X [] n)) (elim f X [] n).piv n (c:Int) (elim f X [] n).piv.length:=by
  show kerL f _ _ _ _=_
  rw [G_u];rfl
 have hl:i<(frC (elim f X [] n).piv n).length:=by rw [e,List.length_map] at hi;exact hi
 refine ⟨_,rfl,?_,?_⟩
 ·rw [List.getD_eq_getElem?_getD,g_E hl];exact List.getElem_mem hl
 ·rw [e]
  simp only [List.getD,List.getElem?_map]
  rw [g_E hl]
  rfl
theorem F_x (hS:Shape f) (X:List (List Int)) (n:Nat):good f n (kerX f X n):=ker_good hS _ _ _ _
theorem null_orth (h:FOk f) (hX:good f n X) {x row:List Int} (hx:x∈nullR f X n) (hr:row∈X):dotF f x row=0:=by
 have hY:=F_x h.1 X n
 have hgn:good f n (nullR f X n):=canR_good h.1 hY n
 have s1:=D_Q h hY n
 obtain ⟨k,hk,hke⟩:=List.mem_iff_getElem.1 hr
 have hkm:km h X k=kv h row:=by
  unfold km;simp only [List.getD];rw [g_E hk,hke];rfl
 have hv:La.Span (km h X) X.length (kv h row):=by rw [<- hkm];exact La.Span.mem hk
 obtain ⟨i,hi,hie⟩:=List.mem_iff_getElem.1 hx
 have hlc:(nullR f X n).length=(elim f (kerX f X n) [] n).piv.length:=E_U f (kerX f X n) n
 have hpl:=C_p f (kerX f X n) [] n
 have hxm:kv h x=km h (elim f (kerX f X n) [] n).X i:=by
  rw [<- km_canR h (E:=elim f (kerX f X n) [] n) (i:=i) (by omega)]
  unfold km
  show kv h x=kv h ((nullR f X n).getD i [])
  rw [List.getD_eq_getElem?_getD,g_E hi,hie];rfl
 have hu:La.Span (km h (kerX f X n)) (kerX f X n).length (kv h x):=by rw [hxm];exact s1.1 i (by omega)
 have key:La.sm (fun j=>kv h row j*kv h x j) n=0:=by
  refine La.Span.ind (Φ:=fun u=>La.sm (fun j=>kv h row j*u j) n=0) ?_ ?_ ?_ (m:=(kerX f X n).length) (fun i hi=>?_) _ hu
  ·exact La.sm_zero fun j _=>Fi.mul_zero _
  ·intro u v hu hv
   rw [show (fun j=>kv h row j*(u j+v j))=fun j=>kv h row j*u j+kv h row j*v j from funext fun j=>Fi.mul_add _ _ _,La.sm_add,hu,hv,Fi.add_zero]
  ·intro a u hu
   rw [show (fun j=>kv h row j*(a*u j))=fun j=>a*(kv h row j*u j) from funext fun j=>by ac_rfl,La.sm_mul,hu,Fi.mul_zero]
  ·obtain ⟨c,_,hc2,hc3⟩:=G_t f X n hi
   have hcm:=F_W hc2
   show La.sm (fun j=>kv h row j*kv h ((kerX f X n).getD i []) j) n=0
   rw [hc3]
   exact ker_orth h hX hv hcm.1 hcm.2
 have hd:=G_f h.1 x row
 have hb:=h.1.bd
 refine (E_I h hd.1 hd.2).1 ?_
 rw [E_q h x row (n:=n) (by have:=(hgn x hx).1;omega),<- key]
 exact La.sm_congr fun j _=>Fi.mul_comm _ _
theorem null_dim (h:FOk f) (hX:good f n X):(elim f X [] n).piv.length+(nullR f X n).length=n:=by
 have hY:=F_x h.1 X n
 have hk:=kerX_len h hX
 have hlc:(nullR f X n).length=(elim f (kerX f X n) [] n).piv.length:=E_U f (kerX f X n) n
 have hpl:=C_p f (kerX f X n) [] n
 have rr:=C_H h hY (C_X 0) (.inl rfl) n
 have s1:=D_Q h hY n
 have hpr:=F_N f X [] n
 have hkl:(kerX f X n).length=(frC (elim f X [] n).piv n).length:=by
  show (kerL f _ _ _ _).length=_
  rw [G_u,List.length_map];rfl
 have hle:(kerX f X n).length<=(elim f (kerX f X n) [] n).piv.length:=by
  refine La.indep_le (A:=km h (elim f (kerX f X n) [] n).X) (B:=km h (kerX f X n)) (q:=fun j=>(frC (elim f X [] n).piv n).getD j 0) (fun i j hi hj=>?_) (fun i hi=>?_)
  ·obtain ⟨c,hc1,hc2,hc3⟩:=G_t f X n hi
   obtain ⟨d,hd1,hd2,_⟩:=G_t f X n hj
   have hcm:=F_W hc2
   have hdm:=F_W hd2
   show kv h ((kerX f X n).getD i []) ((frC (elim f X [] n).piv n).getD j 0)=_
   rw [hc3,<- hd1,D_4]
   by_cases e:j=i
   ·have : d=c:=by rw [hc1,hd1,e]
    rw [i_P e,this,kerTo_one (by omega) (by omega) (fun p hp=>(hpr p hp).1) hcm.2 _ (Nat.le_refl _),D_u]
   ·rw [i_N e]
    have hz:ix 0 (kerTo f (canR (elim f X [] n)) (elim f X [] n).piv n c (elim f X [] n).piv.length) (d:Nat)=0:=by
     apply Classical.byContradiction
     intro hne
     rcases G_I (by omega) (fun p hp=>(hpr p hp).1) _ _ (Nat.le_refl _) (by omega) hne with e2 | ⟨z,z0,z1,z2⟩
     ·apply e
      have hcd:d=c:=by omega
      rw [hc1,hd1,List.getD_eq_getElem?_getD,List.getD_eq_getElem?_getD,g_E (show i<(frC (elim f X [] n).piv n).length by omega),g_E (show j<(frC (elim f X [] n).piv n).length by omega)] at hcd
      exact (List.getElem_inj (frC_nodup _ _)).1 hcd
     ·exact hdm.2 (by rw [<- z2];exact B_i 0 _ z0 z1)
    rw [hz,B_m]
  ·refine ⟨La.lin (fun t=>km h (kerX f X n) i (pvN (elim f (kerX f X n) [] n).piv t)) (km h (elim f (kerX f X n) [] n).X) (elim f (kerX f X n) [] n).piv.length,⟨_,rfl⟩,fun j hj=>?_⟩
   obtain ⟨d,hd1,hd2,_⟩:=G_t f X n hj
   have hdm:=F_W hd2
   exact rr.span (s1.2 i hi) (by show (frC (elim f X [] n).piv n).getD j 0<n;omega)
 omega
end
end Go.Cw
namespace Go.Cw
namespace La
variable {K : Type} [Fi K]
theorem sm_front (g:Nat->K):∀n:Nat,sm g (n+1)=g 0+sm (fun j=>g (j+1)) n
 | 0=>by show (0:K)+g 0=g 0+0;rw [Fi.zero_add,Fi.add_zero]
 | n+1=>by
  show sm g (n+1)+g (n+1)=g 0+(sm (fun j=>g (j+1)) n+g (n+1))
  rw [sm_front g n,Fi.add_assoc]
theorem ev_sm (x:K):∀l:List K,Fi.ev l x=sm (fun j=>l.getD j 0*Fi.pow x j) l.length
 | []=>rfl
 | c::l=>by
  show c+x*Fi.ev l x=sm _ (l.length+1)
  rw [sm_front,ev_sm x l,<- sm_mul]
  have e0:(c::l).getD 0 0*Fi.pow x 0=c:=by show c*1=c;exact Fi.mul_one c
  rw [e0]
  congr 1
  refine sm_congr fun j _=>?_
  show x*(l.getD j 0*Fi.pow x j)=l.getD j 0*(Fi.pow x j*x)
  rw [Fi.mul_comm x,Fi.mul_assoc]
end La
section
variable {f : Fld} (h : FOk f)
theorem ke_powc {x:Int} (x0:0<=x) (x1:x<f.q) (k:Nat):ke h (f.R.powc x k)=Fi.pow (ke h x) k:=by
 have hc:=h.1.card
 have hl:=Rg.powc_lt f.R x k
 apply Rg.Kt.ext
 show f.R.elt (inF f (f.R.powc x k))=_
 rw [Rg.pow_v,D_N hl.1 (by omega)]
 have e:(ke h x).code=x:=by
  show f.R.num (f.R.elt (inF f x))=x
  rw [D_N x0 x1]
  exact Rg.num_elt f.R x0 (show x<f.R.card by omega)
 rw [e]
theorem ke_powF {x:Int} (x0:0<=x) (x1:x<f.q) {j:Int} (j0:0<=j) (j1:j<f.q-1):ke h (powF f x j)=Fi.pow (ke h x) j.toNat:=by
 unfold powF
 by_cases e:j=0
 ·rw [i_P e,e];exact D_u h
 ·rw [i_N e,D_N x0 x1]
  by_cases e2:x=0
  ·rw [i_P e2,e2,B_m,show j.toNat=(j.toNat-1)+1 by omega]
   show (0:KF f h)=Fi.pow 0 _*0
   rw [Fi.mul_zero]
  ·rw [i_N e2]
   have : powN f j=j:=by
    unfold powN
    rw [Int.tmod_eq_emod_of_nonneg j0,Int.emod_eq_of_lt j0 j1,Int.add_emod_right,Int.emod_eq_of_lt j0 j1]
   rw [this,ke_powc h x0 x1]
include h in
theorem F_k (x j:Int):0<=powF f x j/\powF f x j<f.q:=by
 have hb:=h.1.bd
 have hc:=h.1.card
 unfold powF
 split
 ·exact ⟨by omega,by omega⟩
 ·split
  ·exact ⟨by omega,by omega⟩
  ·have:=Rg.powc_lt f.R (inF f x) (powN f j).toNat
   exact ⟨this.1,by omega⟩
def vdm (f:Fld) (xs:List Int) (n:Int):List (List Int):=xs.map fun x=>powsF f x n
@[simp] theorem A_7 (f:Fld) (xs:List Int) (n:Int):(vdm f xs n).length=xs.length:=by simp [vdm]
include h in
theorem E_z (xs:List Int) (n:Int):good f n.toNat (vdm f xs n):=fun l hl=>by
 obtain ⟨x,_,rfl⟩:=List.mem_map.1 hl
 exact ⟨A_x _ _,D_j fun i _ _=>F_k h x i⟩
include h in
theorem E_L {xs:List Int} {n:Int} (n0:0<=n) (n1:n<=256) (hl:xs.length<=256):mErr f ⟨n,vdm f xs n⟩=0 :=
 A_i.2 ⟨h,C_A n0 n1 (by show (vdm f xs n).length<=256;rw [A_7];exact hl) (E_z h xs n)⟩
theorem G_Z {xs:List Int} (hx:∀x∈xs,0<=x/\x<f.q) (hn:xs.Nodup):(xs.map (ke h)).Nodup:=by
 induction xs with
 | nil=>exact List.nodup_nil
 | cons a xs ih =>
  rw [List.nodup_cons] at hn
  rw [List.map_cons,List.nodup_cons]
  refine ⟨fun hm=>?_,ih (fun x hx'=>hx x (List.mem_cons_of_mem _ hx')) hn.2⟩
  obtain ⟨b,hb,e⟩:=List.mem_map.1 hm
  have r1:=hx a (by simp)
  have r2:=hx b (List.mem_cons_of_mem _ hb)
  have:=E_H h r2.1 r2.2 r1.1 r1.2 e
  rw [this] at hb
  exact hn.1 hb
include h in
theorem vdm_rank {xs:List Int} {n:Nat} (hx:∀x∈xs,0<=x/\x<f.q) (hn:xs.Nodup) (hl:xs.length=n) (hq:(n:Int)<=f.q-1):(elim f (vdm f xs n) [] n).piv.length=n:=by
 have hg:good f n (vdm f xs n):=by have:=E_z h xs (n:Int);rwa [show ((n:Int)).toNat=n by omega] at this
 have hd:=null_dim h hg
 refine Classical.byContradiction fun hne=>?_
 have h0:0<(nullR f (vdm f xs n) n).length:=by omega
 have hk:=F_x h.1 (vdm f xs n) n
 have hgn:good f n (nullR f (vdm f xs n) n):=canR_good h.1 hk n
 have hlc:=E_U f (kerX f (vdm f xs n) n) n
 have hpl:=C_p f (kerX f (vdm f xs n) n) [] n
 have hr:=C_H h hk (C_X 0) (.inl rfl) n
 have h0':0<(elim f (kerX f (vdm f xs n) n) [] n).piv.length:=by rw [<- hlc];exact h0
 have hone:=hr.one 0 h0'
 let x:=ix [] (nullR f (vdm f xs n) n) 0
 have hx0:x∈nullR f (vdm f xs n) n:=B_Z (by omega) (by omega)
 have hxl:=(hgn x hx0).1
 let L:=x.map (ke h)
 have hLl:L.length=n:=by show (x.map (ke h)).length=n;rw [List.length_map];exact hxl
 have hget:∀j:Nat,L.getD j 0=kv h x j:=fun j=>by
  show (x.map (ke h)).getD j 0=ke h (x.getD j 0)
  by_cases hj:j<x.length
  ·exact getD_map (ke h) x 0 0 hj
  ·simp only [List.getD]
   rw [List.getElem?_eq_none (by rw [List.length_map];omega),List.getElem?_eq_none (by omega)]
   exact (B_m h).symm
 have hnz:∃c∈L,c≠0:=by
  have e:kv h x (pvN (elim f (kerX f (vdm f xs n) n) [] n).piv 0)=1:=by
   rw [<- hone]
   show kv h (ix [] ((elim f (kerX f (vdm f xs n) n) [] n).X.take (elim f (kerX f (vdm f xs n) n) [] n).piv.length) 0) _=kv h ((elim f (kerX f (vdm f xs n) n) [] n).X.getD 0 []) _
   congr 1
   simp only [ix,List.getD]
   rw [List.getElem?_take,i_P (by omega)];rfl
  generalize pvN (elim f (kerX f (vdm f xs n) n) [] n).piv 0=q at e
  rw [<- hget] at e
  by_cases hq2:q<L.length
  ·refine ⟨L[q],List.getElem_mem hq2,?_⟩
   simp only [List.getD] at e
   rw [g_E hq2] at e
   intro e2
   rw [e2] at e
   exact Fi.one_ne e.symm
  ·simp only [List.getD] at e
   rw [List.getElem?_eq_none (by omega)] at e
   exact absurd e.symm Fi.one_ne
 have hroots:∀r∈xs.map (ke h),Fi.ev L r=0:=fun r hr=>by
  obtain ⟨y,hy,rfl⟩:=List.mem_map.1 hr
  have hrow:powsF f y n∈vdm f xs n:=List.mem_map.2 ⟨y,hy,rfl⟩
  have ho:=null_orth h hg hx0 hrow
  have hk2:=E_q h x (powsF f y n) (n:=n) (by rw [hxl];exact Nat.le_refl _)
  rw [ho,B_m] at hk2
  refine Eq.trans ?_ hk2.symm
  rw [La.ev_sm,hLl]
  refine La.sm_congr fun j hj=>?_
  rw [hget j]
  congr 1
  show Fi.pow (ke h y) j=kv h (powsF f y n) j
  rw [D_4]
  unfold powsF
  rw [B_d 0 _ (by omega) (by omega),ke_powF h (hx y hy).1 (hx y hy).2 (by omega) (by omega)]
  congr 1
 have:=Fi.roots_lt L.length L (Nat.le_refl _) hnz (xs.map (ke h)) (G_Z h hx hn) hroots
 rw [List.length_map,hLl] at this
 omega
include h in
theorem vdm_sol {xs b:List Int} {n:Int} (hx:∀x∈xs,0<=x/\x<f.q) (hn:xs.Nodup) (hl:(xs.length:Int)=n) (n1:n<=256) (hq:n<=f.q-1) (hb:(b.length:Int)=n) (hbo:¬outF f b):solE f ⟨n,vdm f xs n⟩ b=0:=by
 have hm:=E_L h (xs:=xs) (n:=n) (by omega) n1 (by omega)
 have en:n=((xs.length:Nat):Int):=hl.symm
 refine solE_ok (by rw [G_B hm];exact C_9.2 ⟨by show (b.length:Int)=(vdm f xs n).length;rw [A_7];omega,hbo⟩) ?_
 rintro ⟨l,hl2,_⟩
 have hp:(elim f (augL (vdm f xs n) b) [] n.toNat).piv.length=xs.length:=by
  rw [piv_aug h (E_z h xs n) hbo,en]
  rw [show ((xs.length:Nat):Int).toNat=xs.length by omega]
  exact vdm_rank h hx hn rfl (by omega)
 have hX:=(B_G f (augL (vdm f xs n) b) [] n.toNat).1
 rw [B_K,A_7] at hX
 have : (solX f ⟨n,vdm f xs n⟩ b).X.drop (solX f ⟨n,vdm f xs n⟩ b).piv.length = []:=by
  apply List.drop_eq_nil_of_le
  show (elim f (augL (vdm f xs n) b) [] n.toNat).X.length<=(elim f (augL (vdm f xs n) b) [] n.toNat).piv.length
  omega
 rw [this] at hl2
 cases hl2
end
end Go.Cw
namespace Go.Cw
noncomputable def nodErr (n m but:Int) (l:List Int):Int:=if (l.length:Int)≠m then 3 else lstErr n but l
theorem F_P {n m but:Int} {l:List Int} (h:nodErr n m but l=0):(l.length:Int)=m/\(∀i∈l,0<=i/\i<n/\i≠but)/\l.Nodup:=by
 unfold nodErr lstErr at h
 split at h
 ·cases h
 ·rename_i h1
  split at h
  ·cases h
  ·rename_i h2
   split at h
   ·rename_i h3
    refine ⟨n_N h1,fun i hi=>Classical.byContradiction fun hn=>h2 ⟨i,hi,?_⟩,h3⟩
    omega
   ·cases h
theorem pick_nodup {l:List Int} (hl:l.Nodup):∀ {hs:List Int},(∀i∈hs,0<=i/\i<l.length)->hs.Nodup->(pickL l hs).Nodup
 | [],_,_=>List.nodup_nil
 | a::hs,h,hn=>by
  rw [List.nodup_cons] at hn
  show (ix 0 l a::pickL l hs).Nodup
  rw [List.nodup_cons]
  refine ⟨fun hm=>?_,pick_nodup hl (fun i hi=>h i (List.mem_cons_of_mem _ hi)) hn.2⟩
  obtain ⟨b,hb,e⟩:=List.mem_map.1 hm
  have ha:=h a (by simp)
  have hb2:=h b (List.mem_cons_of_mem _ hb)
  have e1:=C_e 0 l a ha.1 ha.2
  have e2:=C_e 0 l b hb2.1 hb2.2
  have : a.toNat=b.toNat:=by
   have h1:a.toNat<l.length:=by omega
   have h2:b.toNat<l.length:=by omega
   rw [g_E h1] at e1
   rw [g_E h2] at e2
   have e3:l[a.toNat]=l[b.toNat]:=by
    have x1:=Option.some.inj e1
    have x2:=Option.some.inj e2
    rw [x1,x2];exact e.symm
   rcases Nat.lt_trichotomy a.toNat b.toNat with hlt | heq | hgt
   ·exact absurd e3 (List.pairwise_iff_getElem.1 hl _ _ h1 h2 hlt)
   ·exact heq
   ·exact absurd e3.symm (List.pairwise_iff_getElem.1 hl _ _ h2 h1 hgt)
  have : a=b:=by omega
  rw [this] at hn
  exact hn.1 hb
theorem solTo_rng {f:Fld} (hS:Shape f) {w:Nat} {E:El} (hg:good f w E.X) (cols:Int):∀k:Nat,k<=E.X.length->¬outF f (solTo E cols k)
 | 0,_=>D_k hS _
 | k+1,hk=>by
  have r:=D_s hS hg (i:=(k:Int)) (by omega) (by omega) cols
  exact E_1 (solTo_rng hS hg cols k (by omega)) r.1 r.2 _
end Go.Cw
namespace Go.Cw
end Go.Cw
namespace Go.Cw
def bI (K D i:Int):Int:=tri K K.toNat+i*(D-K)
theorem bI_zero (K D:Int):bI K D 0=tri K K.toNat:=by unfold bI;omega
theorem bI_succ (K D i:Int):bI K D (i+1)=bI K D i+(D-K):=by unfold bI;rw [Int.add_mul];omega
theorem G_T {K D:Int} (hK:K<=D):∀(n:Nat) (i:Int),bI K D i<=bI K D (i+n)
 | 0,i=>by rw [show i+((0:Nat):Int)=i by omega];exact Int.le_refl _
 | n+1,i=>by
  have:=G_T hK n i
  rw [show i+((n+1:Nat):Int)=i+n+1 by omega,bI_succ];omega
theorem bI_lt {K D i j:Int} (hK:0<=K) (hKD:K<=D) (i0:0<=i) (i1:i<K) (j0:K<=j) (j1:j<D):0<=bI K D i+(j-K)/\bI K D i+(j-K)<bI K D K:=by
 have t0:=B_w (n:=K) K.toNat (by omega)
 have m0:=G_T hKD i.toNat 0
 rw [bI_zero,show (0:Int)+(i.toNat:Int)=i by omega] at m0
 have m1:=G_T hKD (K-(i+1)).toNat (i+1)
 rw [show i+1+((K-(i+1)).toNat:Int)=K by omega,bI_succ] at m1
 omega
def brE (l:List Int) (K D i j p q:Int):Int:=if min p q<K/\K<=max p q/\(min p q<i\/(min p q=i/\max p q<j)) then ix 0 l (bI K D (min p q)+(max p q-K)) else symE l K K K p q
theorem brE_zero (l:List Int) (K D:Int):mkM D D (symE l K K K)=mkM D D (brE l K D 0 K) :=
 C_U fun p q p0 p1 q0 q1=>by unfold brE;rw [i_N];omega
theorem brE_row (l:List Int) (K D i:Int):mkM D D (brE l K D i D)=mkM D D (brE l K D (i+1) K) :=
 C_U fun p q p0 p1 q0 q1=>by
  unfold brE
  by_cases h:min p q<K/\K<=max p q/\(min p q<i\/(min p q=i/\max p q<D))
  ·rw [i_P h,i_P (by omega)]
  ·rw [i_N h,i_N (by omega)]
theorem brE_step {l:List Int} {K D i j:Int} {x:Int} (h0:0<=i) (h1:i<K) (h2:K<=j) (h3:j<D) (hx:x=ix 0 l (bI K D i+(j-K))) :
  ((mkM D D (brE l K D i j)).set i.toNat ((ix [] (mkM D D (brE l K D i j)) i).set j.toNat x)).set j.toNat ((ix [] ((mkM D D (brE l K D i j)).set i.toNat ((ix [] (mkM D D (brE l K D i j)) i).set j.toNat x)) j).set i.toNat x)=mkM D D (brE l K D i (j+1)):=by
 rw [mkM_set _ x h0 (by omega) (by omega) (by omega),mkM_set _ x (by omega) (by omega) h0 (by omega)]
 refine C_U fun p q p0 p1 q0 q1=>?_
 by_cases ha:p=j/\q=i
 ·rw [i_P ha,hx]
  unfold brE
  rw [i_P (by omega),show min p q=i by omega,show max p q=j by omega]
 ·rw [i_N ha]
  by_cases hb:p=i/\q=j
  ·rw [i_P hb,hx]
   unfold brE
   rw [i_P (by omega),show min p q=i by omega,show max p q=j by omega]
  ·rw [i_N hb]
   unfold brE
   by_cases hc:min p q<K/\K<=max p q/\(min p q<i\/(min p q=i/\max p q<j))
   ·rw [i_P hc,i_P (by omega)]
   ·rw [i_N hc,i_N (by omega)]
def msgR (r:Rgn) (l:List Int):List (List Int) :=
 if r.Kind=1 then mkM (rgA r) (rgA r) (symE l (rgA r) (rgA r) (rgA r))++mkM (rgA r) (rgA r) (symE (l.drop (tri (rgA r) (rgA r).toNat).toNat) (rgA r) (rgA r) (rgA r)) else mkM r.D r.D (brE l r.K r.D r.K r.K)
theorem rgB_0 {r:Rgn} (h:r.Kind=0) (hK:0<=r.K):rgB r=bI r.K r.D r.K:=by
 have:=tri_two r.K r.K.toNat
 rw [show ((r.K.toNat:Nat):Int)=r.K by omega] at this
 unfold rgB bI
 rw [i_P h]
 have e1:r.K*(2*r.K-r.K+1)=r.K*r.K+r.K:=by grind
 have e2:r.K*(r.K-1)=r.K*r.K-r.K:=by grind
 have e3:r.K*(r.D-r.K)=r.K*r.D-r.K*r.K:=by grind
 rw [e1] at this
 rw [e2,e3]
 generalize r.K*r.K=s at *
 generalize r.K*r.D=t at *
 omega
theorem rgB_1 {r:Rgn} (h:r.Kind=1) (hK:1<=r.K):rgB r=2*tri (rgA r) (rgA r).toNat:=by
 have hA:rgA r=r.K-1:=by unfold rgA;rw [i_N (by omega)]
 have:=tri_two (rgA r) (rgA r).toNat
 rw [show (((rgA r).toNat:Nat):Int)=rgA r by omega] at this
 unfold rgB
 rw [i_N (by omega),this,hA]
 grind
structure EncF (r:Rgn) (l:List Int):Prop where
 d:1<=r.D/\r.D<=63
 a:1<=rgA r/\rgA r<=63
 k:1<=r.K/\r.K<=r.D+1
 k0:r.Kind=0->r.K<=r.D/\rgA r=r.D/\(l.length:Int)=bI r.K r.D r.K/\tri r.K r.K.toNat<=l.length
 k1:r.Kind=1->rgA r=r.K-1/\r.D=2*rgA r/\(l.length:Int)=2*tri (rgA r) (rgA r).toNat/\0<=tri (rgA r) (rgA r).toNat
 kk:r.Kind=0\/r.Kind=1
theorem B_8 {r:Rgn} {l:List Int} (R:RgOk r) (hl:(l.length:Int)=rgB r):EncF r l:=by
 have hA:=rgA_le R
 have hr:=R.rng
 have hn:=R.len
 unfold rgBad at hr
 have hk:1<=r.K:=by omega
 have hA1:r.Kind=1->rgA r=r.K-1:=fun h=>by unfold rgA;rw [i_N (by omega)]
 have hA0:r.Kind=0->rgA r=r.D:=fun h=>by unfold rgA;rw [i_P h]
 refine ⟨⟨hA.1,hA.2.1⟩,?_,by omega,fun h=>?_,fun h=>?_,by omega⟩
 ·by_cases h:r.Kind=0
  ·have:=hA0 h;omega
  ·have:=hA1 (by omega);omega
 ·have hb:=rgB_0 h (by omega)
  have m:=G_T (K:=r.K) (D:=r.D) (by omega) r.K.toNat 0
  rw [bI_zero,show (0:Int)+(r.K.toNat:Int)=r.K by omega] at m
  exact ⟨by omega,hA0 h,by omega,by omega⟩
 ·have hb:=rgB_1 h hk
  have:=hA1 h
  exact ⟨this,by omega,by omega,B_w _ (by omega)⟩
theorem D_C {r:Rgn} {l:List Int} (E:EncF r l):((msgR r l).length:Int)=r.D:=by
 have hd:=E.d;have ha:=E.a
 unfold msgR
 split
 ·rename_i h
  have:=E.k1 h
  rw [l_A,A_v,A_v];omega
 ·rw [A_v];omega
theorem msg_ent (r:Rgn) (hk:r.Kind=0\/r.Kind=1) (ha:0<=rgA r) (hd:0<=r.D) (hda:r.Kind=1->r.D=2*rgA r) (hda0:r.Kind=0->rgA r=r.D) (i j:Int) (i0:0<=i) (i1:i<r.D) (j0:0<=j) (j1:j<rgA r) :
  (∀l,ix 0 (ix [] (msgR r l) i) j=0)\/∃k:Int,0<=k/\∀l,ix 0 (ix [] (msgR r l) i) j=ix 0 l k:=by
 have hix:∀(l:List Int) (k T:Int),0<=k->0<=T->ix 0 (l.drop T.toNat) k=ix 0 l (T+k):=fun l k T h1 h2=>by
  simp only [ix,List.getD];rw [g_D,show T.toNat+k.toNat=(T+k).toNat by omega]
 have tn:∀n p q:Int,0<=p->0<=q->p<n->q<n->0<=tri n (min p q).toNat+(max p q-min p q):=fun n p q h1 h2 h3 h4=>by
  have:=B_w (n:=n) (min p q).toNat (by omega);omega
 by_cases h1:r.Kind=1
 ·have h2:=hda h1
  by_cases hi:i<rgA r
  ·have e:∀l,ix 0 (ix [] (msgR r l) i) j=symE l (rgA r) (rgA r) (rgA r) i j:=fun l=>by
    unfold msgR
    rw [i_P h1]
    have : ix [] (mkM (rgA r) (rgA r) (symE l (rgA r) (rgA r) (rgA r))++mkM (rgA r) (rgA r) (symE (l.drop (tri (rgA r) (rgA r).toNat).toNat) (rgA r) (rgA r) (rgA r))) i=ix [] (mkM (rgA r) (rgA r) (symE l (rgA r) (rgA r) (rgA r))) i:=by
     simp only [ix,List.getD];rw [List.getElem?_append_left (by rw [A_v];omega)]
    rw [this,C_o _ i0 hi j0 j1]
   by_cases hc:i<rgA r/\j<rgA r/\(min i j<rgA r\/(min i j=rgA r/\max i j<rgA r))
   ·exact .inr ⟨_,tn _ _ _ i0 j0 hi j1,fun l=>by rw [e];unfold symE;rw [i_P hc]⟩
   ·exact .inl fun l=>by rw [e];unfold symE;rw [i_N hc]
  ·have e:∀l,ix 0 (ix [] (msgR r l) i) j=symE (l.drop (tri (rgA r) (rgA r).toNat).toNat) (rgA r) (rgA r) (rgA r) (i-rgA r) j:=fun l=>by
    unfold msgR
    rw [i_P h1]
    have : ix [] (mkM (rgA r) (rgA r) (symE l (rgA r) (rgA r) (rgA r))++mkM (rgA r) (rgA r) (symE (l.drop (tri (rgA r) (rgA r).toNat).toNat) (rgA r) (rgA r) (rgA r))) i=ix [] (mkM (rgA r) (rgA r) (symE (l.drop (tri (rgA r) (rgA r).toNat).toNat) (rgA r) (rgA r) (rgA r))) (i-rgA r):=by
     simp only [ix,List.getD];rw [List.getElem?_append_right (by rw [A_v];omega),A_v];congr 2;omega
    rw [this,C_o _ (by omega) (by omega) j0 j1]
   have t0:=B_w (n:=rgA r) (rgA r).toNat (by omega)
   by_cases hc:i-rgA r<rgA r/\j<rgA r/\(min (i-rgA r) j<rgA r\/(min (i-rgA r) j=rgA r/\max (i-rgA r) j<rgA r))
   ·have t1:=tn (rgA r) (i-rgA r) j (by omega) j0 (by omega) j1
    refine .inr ⟨tri (rgA r) (rgA r).toNat+(tri (rgA r) (min (i-rgA r) j).toNat+(max (i-rgA r) j-min (i-rgA r) j)),by omega,fun l=>by rw [e];unfold symE;rw [i_P hc,hix _ _ _ t1 t0]⟩
   ·exact .inl fun l=>by rw [e];unfold symE;rw [i_N hc]
 ·have h0:r.Kind=0:=by omega
  have h2:=hda0 h0
  have e:∀l,ix 0 (ix [] (msgR r l) i) j=brE l r.K r.D r.K r.K i j:=fun l=>by
   unfold msgR
   rw [i_N h1,C_o _ i0 i1 j0 (by omega)]
  by_cases hc:min i j<r.K/\r.K<=max i j/\(min i j<r.K\/(min i j=r.K/\max i j<r.K))
  ·have m:=G_T (K:=r.K) (D:=r.D) (by omega) (min i j).toNat 0
   rw [bI_zero,show (0:Int)+((min i j).toNat:Int)=min i j by omega] at m
   have t0:=B_w (n:=r.K) r.K.toNat (by omega)
   exact .inr ⟨bI r.K r.D (min i j)+(max i j-r.K),by omega,fun l=>by rw [e];unfold brE;rw [i_P hc]⟩
  ·by_cases hs:i<r.K/\j<r.K/\(min i j<r.K\/(min i j=r.K/\max i j<r.K))
   ·exact .inr ⟨_,tn _ _ _ i0 j0 hs.1 hs.2.1,fun l=>by rw [e];unfold brE;rw [i_N hc];unfold symE;rw [i_P hs]⟩
   ·exact .inl fun l=>by rw [e];unfold brE;rw [i_N hc];unfold symE;rw [i_N hs]
theorem F_K {r:Rgn} (R:RgOk r):0<=rgB r/\rgB r<=100000:=by
 have hr:=R.rng
 have hn:=R.len
 unfold rgBad at hr
 have hK:0<=r.K/\r.K<=64:=by omega
 have hD:0<=r.D/\r.D<=64:=by omega
 have e1:r.K*r.D<=64*64:=Int.mul_le_mul hK.2 hD.2 hD.1 (by omega)
 have e2:r.K*(r.K-1)<=64*64:=by
  by_cases h:r.K=0
  ·rw [h];decide
  ·exact Int.mul_le_mul hK.2 (by omega) (by omega) (by omega)
 have e3:0<=r.K*(r.K-1):=by
  by_cases h:r.K=0
  ·rw [h];decide
  ·exact Int.mul_nonneg (by omega) (by omega)
 by_cases h0:r.Kind=0
 ·have hb:=rgB_0 h0 (by omega)
  have m:=G_T (K:=r.K) (D:=r.D) (by omega) r.K.toNat 0
  rw [bI_zero,show (0:Int)+(r.K.toNat:Int)=r.K by omega] at m
  have t0:=B_w (n:=r.K) r.K.toNat (by omega)
  refine ⟨by omega,?_⟩
  unfold rgB
  rw [i_P h0]
  omega
 ·unfold rgB
  rw [i_N h0]
  omega
noncomputable def encErr (r:Rgn) (l:List Int):Int:=if rgErr r=0 then lenErr r.F l (rgB r) else rgErr r
def encW (r:Rgn) (l:List Int):List (List Int):=(mulM r.F ⟨r.D,vdm r.F r.Points r.D⟩ ⟨rgA r,msgR r l⟩).rows
noncomputable def encR (r:Rgn) (l:List Int):List (List Int):=if encErr r l=0 then encW r l else []
theorem encErr_1 {r:Rgn} {l:List Int} (h:rgErr r≠0):encErr r l=rgErr r:=i_N h
theorem encErr_l {r:Rgn} {l:List Int} (h:rgErr r=0):encErr r l=lenErr r.F l (rgB r):=i_P h
theorem encR_no {r:Rgn} {l:List Int} (h:encErr r l≠0):encR r l = []:=i_N h
theorem encR_ok {r:Rgn} {l:List Int} (h:encErr r l=0):encR r l=encW r l:=i_P h
theorem msg_good {r:Rgn} {l:List Int} (hS:Shape r.F) (hl:¬outF r.F l):good r.F (rgA r).toNat (msgR r l)\/r.Kind≠1/\good r.F r.D.toNat (msgR r l):=by
 have z:0<=(0:Int)/\(0:Int)<r.F.q:=by have:=hS.bd;omega
 have hsy:∀(l:List Int) (n i j p q:Int),¬outF r.F l->0<=symE l n i j p q/\symE l n i j p q<r.F.q:=fun l n i j p q h=>by
  unfold symE;split
  ·exact F_U hS h _
  ·exact z
 have hbr:∀(K D i j p q:Int),0<=brE l K D i j p q/\brE l K D i j p q<r.F.q:=fun K D i j p q=>by
  unfold brE;split
  ·exact F_U hS hl _
  ·exact hsy _ _ _ _ _ _ hl
 have hm:∀(R C:Int) (g:Int->Int->Int),(∀i j,0<=g i j/\g i j<r.F.q)->good r.F C.toNat (mkM R C g):=fun R C g hg x hx=>by
  unfold mkM at hx
  obtain ⟨v,_,_,rfl⟩:=D_K hx
  exact ⟨A_x _ _,D_j fun i _ _=>hg v i⟩
 have hdr:¬outF r.F (l.drop (tri (rgA r) (rgA r).toNat).toNat):=fun ⟨x,hx,hb⟩=>hl ⟨x,List.mem_of_mem_drop hx,hb⟩
 unfold msgR
 split
 ·left
  intro x hx
  rcases List.mem_append.1 hx with h | h
  ·exact hm _ _ _ (fun i j=>hsy _ _ _ _ _ _ hl) x h
  ·exact hm _ _ _ (fun i j=>hsy _ _ _ _ _ _ hdr) x h
 ·rename_i h1
  exact .inr ⟨h1,hm _ _ _ fun i j=>hbr _ _ _ _ _ _⟩
theorem msg_err {r:Rgn} {l:List Int} (R:RgOk r) (E:EncF r l) (hl:¬outF r.F l):matErr r.F ⟨rgA r,msgR r l⟩=0:=by
 have hd:=E.d;have ha:=E.a;have hn:=D_C E
 refine C_A (by show 0<=rgA r;omega) (by show rgA r<=256;omega) (by show (msgR r l).length<=256;omega) ?_
 rcases msg_good R.fld.1 hl with h | ⟨h1,h⟩
 ·exact h
 ·have:=E.k0 (by have:=E.kk;omega)
  show good r.F (rgA r).toNat _
  rw [this.2.1];exact h
theorem vdm_merr {r:Rgn} (R:RgOk r):matErr r.F ⟨r.D,vdm r.F r.Points r.D⟩=0:=by
 have hA:=rgA_le R
 have hn:=R.len
 exact (A_i.1 (E_L R.fld (xs:=r.Points) (n:=r.D) (by omega) (by omega) (by omega))).2
theorem lenErr_out {f:Fld} {l:List Int} {n:Int} (h:lenErr f l n=0):¬outF f l:=by
 have hl:=G_H h
 unfold lenErr at h
 rw [i_N (by omega)] at h
 exact C_g.1 h
section
variable {r : Rgn} (R : RgOk r) {F G : List Int} (hF : (F.length : Int) = rgB r) (hG : (G.length : Int) = rgB r)
include hF hG
theorem enc_len:((encW r F).length:Int)=r.Points.length:=by
 unfold encW;rw [B_F,A_7]
include R in
theorem enc_row (hFo:¬outF r.F F) {i:Int} (i0:0<=i) (i1:i<r.Points.length):((ix [] (encW r F) i).length:Int)=rgA r/\¬outF r.F (ix [] (encW r F) i):=by
 have E:=B_8 R hF
 have ha:=E.a
 have g:=C_h R.fld (⟨r.D,vdm r.F r.Points r.D⟩:Mat) (⟨rgA r,msgR r F⟩:Mat) rfl
 have hl:(encW r F).length=r.Points.length:=by unfold encW;rw [B_F,A_7]
 have:=g _ (B_Z (l:=encW r F) i0)
 exact ⟨by rw [this.1];show (((rgA r).toNat:Nat):Int)=rgA r;omega,this.2⟩
include R in
end
end Go.Cw
namespace Go.Cw
theorem E_V {l:List Int} {T k:Int} (h0:0<=T) (h1:0<=k):ix 0 (l.drop T.toNat) k=ix 0 l (T+k):=by
 simp only [ix,List.getD];rw [g_D,show T.toNat+k.toNat=(T+k).toNat by omega]
theorem symE_take (l:List Int) {n T p q:Int} (p0:0<=p) (q0:0<=q) (hT:T=tri n n.toNat):symE (l.take T.toNat) n n n p q=symE l n n n p q:=by
 unfold symE
 by_cases h:p<n/\q<n/\(min p q<n\/(min p q=n/\max p q<n))
 ·rw [i_P h,i_P h]
  have:=tri_lt (n:=n) (i:=min p q) (j:=max p q) (by omega) (by omega) (by omega)
  exact ix_take _ this.1 (by omega)
 ·rw [i_N h,i_N h]
theorem symM_take (l:List Int) {n T:Int} (hT:T=tri n n.toNat):mkM n n (symE (l.take T.toNat) n n n)=mkM n n (symE l n n n) :=
 C_U fun p q p0 _ q0 _=>symE_take l p0 q0 hT
theorem tri_K {K:Int} (h:0<=K):K*(K+1)=2*tri K K.toNat:=by
 have:=tri_two K K.toNat
 rw [show ((K.toNat:Nat):Int)=K by omega] at this
 rw [this];grind
theorem mixL_same {a b:List Int} {i:Int} (h0:0<=i) (h1:i<a.length) (hl:a.length=b.length) (e:ix 0 a i=ix 0 b i):mixL a b (i+1)=mixL a b i:=by
 rw [<- C_s a b h0 (by omega) hl rfl]
 have hm:=B_6 a b (i:=i) hl
 refine D_O 0 (by rw [l_S]) fun j j0 j1=>?_
 rw [D_q 0 _ _ h0 (by omega) j0]
 by_cases hj:j=i
 ·rw [i_P hj,hj,ix_mixL a b h0 (by omega) hl,e]
 ·rw [i_N hj]
def brR (r:Rgn) (l:List Int) (i:Int):List Int:=mapR (fun j=>brE l r.K r.D r.K r.K i j) r.D
theorem C_3 (r:Rgn) (l:List Int) (i:Int):(brR r l i).length=r.D.toNat:=A_x _ _
theorem ix_brR {r:Rgn} {l:List Int} {i j:Int} (j0:0<=j) (j1:j<r.D):ix 0 (brR r l i) j=brE l r.K r.D r.K r.K i j:=by unfold brR;rw [B_d 0 _ j0 j1]
theorem brR_11 {r:Rgn} {l:List Int} {i j T:Int} (i0:0<=i) (j0:0<=j) (j1:j<r.D) (hi:i<r.K) (hj:j<r.K) (hT:T=tri r.K r.K.toNat):ix 0 (brR r l i) j=ix 0 (ix [] (mkM r.K r.K (symE (l.take T.toNat) r.K r.K r.K)) i) j:=by
 rw [ix_brR j0 j1,C_o _ i0 hi j0 hj,symE_take l i0 j0 hT]
 unfold brE
 rw [i_N (by omega)]
theorem brR_10 {r:Rgn} {l:List Int} {i j T k:Int} (i0:0<=i) (j1:j<r.D) (hi:i<r.K) (hj:¬j<r.K) (hT:T=tri r.K r.K.toNat) (hk:k=i*(r.D-r.K)+j-r.K):ix 0 (brR r l i) j=ix 0 (l.drop T.toNat) k:=by
 have h:=bI_lt (K:=r.K) (D:=r.D) (by omega) (by omega) i0 hi (by omega) j1
 have t0:=B_w (n:=r.K) r.K.toNat (by omega)
 have hm:0<=i*(r.D-r.K):=Int.mul_nonneg i0 (by omega)
 rw [ix_brR (by omega) j1,E_V (by omega) (by omega)]
 unfold brE
 rw [i_P (by omega),show min i j=i by omega,show max i j=j by omega]
 unfold bI
 congr 1;omega
theorem brR_01 {r:Rgn} {l:List Int} {i j T k:Int} (i1:i<r.D) (j0:0<=j) (hi:¬i<r.K) (hj:j<r.K) (hT:T=tri r.K r.K.toNat) (hk:k=j*(r.D-r.K)+i-r.K):ix 0 (brR r l i) j=ix 0 (l.drop T.toNat) k:=by
 have t0:=B_w (n:=r.K) r.K.toNat (by omega)
 have hm:0<=j*(r.D-r.K):=Int.mul_nonneg j0 (by omega)
 rw [ix_brR j0 (by omega),E_V (by omega) (by omega)]
 unfold brE
 rw [i_P (by omega),show min i j=j by omega,show max i j=i by omega]
 unfold bI
 congr 1;omega
theorem brR_00 {r:Rgn} {l:List Int} {i j:Int} (j1:j<r.D) (j0:0<=j) (hi:¬i<r.K) (hj:¬j<r.K):ix 0 (brR r l i) j=ix 0 (List.replicate r.D.toNat 0) j:=by
 rw [ix_brR j0 j1]
 unfold brE symE
 rw [i_N (by omega),i_N (by omega)]
 simp only [ix,List.getD]
 rw [List.getElem?_replicate]
 split <;> rfl
theorem brR_rng {r:Rgn} {l:List Int} (E:EncF r l) (h:r.Kind=0) {i j:Int} (i0:0<=i) (i1:i<r.K) (j0:r.K<=j) (j1:j<r.D):0<=i*(r.D-r.K)/\i*(r.D-r.K)<=100000/\i*(r.D-r.K)+j-r.K<l.length-tri r.K r.K.toNat:=by
 have hd:=E.d
 have q:=E.k0 h
 have b:=bI_lt (K:=r.K) (D:=r.D) (by omega) (by omega) i0 i1 j0 j1
 have hm:0<=i*(r.D-r.K):=Int.mul_nonneg i0 (by omega)
 have hm2:i*(r.D-r.K)<=64*64:=Int.mul_le_mul (by omega) (by omega) (by omega) (by omega)
 unfold bI at b
 have:=q.2.2.1
 unfold bI at this
 exact ⟨hm,by omega,by omega⟩
theorem msg_row {r:Rgn} {l:List Int} (h:r.Kind≠1) {i:Int} (i0:0<=i) (i1:i<r.D):(msgR r l).take (i+1).toNat=(msgR r l).take i.toNat++[brR r l i]:=by
 have e:msgR r l=mkM r.D r.D (brE l r.K r.D r.K r.K):=i_N h
 rw [e,B_A [] (mkM r.D r.D (brE l r.K r.D r.K r.K)) i0 (by rw [A_v];omega),E_d _ i0 i1];rfl
theorem encW_succ {r:Rgn} {l:List Int} {i:Int} (i0:0<=i) (i1:i<r.Points.length):(encW r l).take (i+1).toNat=(encW r l).take i.toNat++[comb r.F (powsF r.F (ix 0 r.Points i) r.D) (msgR r l) (rgA r)]:=by
 have hl:(encW r l).length=r.Points.length:=by unfold encW;rw [B_F,A_7]
 rw [B_A [] (encW r l) i0 (by omega)]
 congr 2
 unfold encW mulM
 rw [F_B _ (vdm r.F r.Points r.D) [] [] i0 (by rw [A_7];exact i1)]
 congr 1
 unfold vdm
 exact F_B _ r.Points 0 [] i0 i1
theorem msg_wid {r:Rgn} {l:List Int} (E:EncF r l) {i:Int} (i0:0<=i) (i1:i<(msgR r l).length):((ix [] (msgR r l) i).length:Int)=rgA r:=by
 have ha:=E.a;have hd:=E.d;have hn:=D_C E
 by_cases h1:r.Kind=1
 ·have q:=E.k1 h1
  have e:msgR r l=mkM (rgA r) (rgA r) (symE l (rgA r) (rgA r) (rgA r))++mkM (rgA r) (rgA r) (symE (l.drop (tri (rgA r) (rgA r).toNat).toNat) (rgA r) (rgA r) (rgA r)):=i_P h1
  rw [e]
  by_cases hi:i<rgA r
  ·have : ix [] (mkM (rgA r) (rgA r) (symE l (rgA r) (rgA r) (rgA r))++mkM (rgA r) (rgA r) (symE (l.drop (tri (rgA r) (rgA r).toNat).toNat) (rgA r) (rgA r) (rgA r))) i=ix [] (mkM (rgA r) (rgA r) (symE l (rgA r) (rgA r) (rgA r))) i:=by
    simp only [ix,List.getD];rw [List.getElem?_append_left (by rw [A_v];omega)]
   rw [this,C_Q _ i0 hi];omega
  ·have : ix [] (mkM (rgA r) (rgA r) (symE l (rgA r) (rgA r) (rgA r))++mkM (rgA r) (rgA r) (symE (l.drop (tri (rgA r) (rgA r).toNat).toNat) (rgA r) (rgA r) (rgA r))) i=ix [] (mkM (rgA r) (rgA r) (symE (l.drop (tri (rgA r) (rgA r).toNat).toNat) (rgA r) (rgA r) (rgA r))) (i-rgA r):=by
    simp only [ix,List.getD];rw [List.getElem?_append_right (by rw [A_v];omega),A_v];congr 2;omega
   rw [this,C_Q _ (by omega) (by omega)];omega
 ·have q:=E.k0 (by have:=E.kk;omega)
  have e:msgR r l=mkM r.D r.D (brE l r.K r.D r.K r.K):=i_N h1
  rw [e,C_Q _ i0 (by omega)];omega
theorem msgR_1 {r:Rgn} {l:List Int} (h:r.Kind=1) {a T:Int} (ha:rgA r=a) (hT:T=tri a a.toNat):msgR r l=mkM a a (symE (l.take T.toNat) a a a)++mkM a a (symE (l.drop T.toNat) a a a):=by
 subst ha
 unfold msgR
 rw [i_P h,symM_take l hT,hT]
end Go.Cw
namespace Go.Cw
theorem symE_comm (l:List Int) (n i j p q:Int):symE l n i j p q=symE l n i j q p:=by
 unfold symE
 rw [show min p q=min q p by omega,show max p q=max q p by omega]
 by_cases h:p<n/\q<n/\(min q p<i\/(min q p=i/\max q p<j))
 ·rw [i_P h,i_P ⟨h.2.1,h.1,h.2.2⟩]
 ·rw [i_N h,i_N (fun h2=>h ⟨h2.2.1,h2.1,h2.2.2⟩)]
theorem brE_comm (l:List Int) (K D i j p q:Int):brE l K D i j p q=brE l K D i j q p:=by
 unfold brE
 rw [show min p q=min q p by omega,show max p q=max q p by omega,symE_comm]
theorem La.sm_split {K:Type} [Fi K] (g:Nat->K) (a:Nat):∀b:Nat,La.sm g (a+b)=La.sm g a+La.sm (fun i=>g (a+i)) b
 | 0=>(Fi.add_zero _).symm
 | b+1=>by
  show La.sm g (a+b)+g (a+b)=La.sm g a+(La.sm (fun i=>g (a+i)) b+g (a+b))
  rw [La.sm_split g a b,Fi.add_assoc]
section
variable {f : Fld} (h : FOk f)
include h in
theorem vdm_uniq {xs:List Int} {n:Nat} (hx:∀x∈xs,0<=x/\x<f.q) (hn:xs.Nodup) (hl:xs.length=n) (hq:(n:Int)<=f.q-1) {y z:List Int} (hy:y.length=n) (hz:z.length=n) (hyo:¬outF f y) (hzo:¬outF f z)
  (e:∀x∈xs,dotF f (powsF f x n) y=dotF f (powsF f x n) z):y=z:=by
 let L:List (KF f h):=(List.range n).map fun j=>kv h y j + -(kv h z j)
 have hLl:L.length=n:=by simp [L]
 have hget:∀j,j<n->L.getD j 0=kv h y j + -(kv h z j):=fun j hj=>by simp [L,List.getD,hj]
 have hroots:∀r∈xs.map (ke h),Fi.ev L r=0:=fun r hr=>by
  obtain ⟨x,hxx,rfl⟩:=List.mem_map.1 hr
  have hp:(powsF f x (n:Int)).length<=n:=by rw [show (powsF f x (n:Int)).length=((n:Int)).toNat from A_x _ _];omega
  have e1:=E_q h (powsF f x (n:Int)) y hp
  have e2:=E_q h (powsF f x (n:Int)) z hp
  rw [e x hxx,e2] at e1
  rw [La.ev_sm,hLl]
  have hpw:∀j,j<n->kv h (powsF f x (n:Int)) j=Fi.pow (ke h x) j:=fun j hj=>by
   rw [D_4]
   unfold powsF
   rw [B_d 0 _ (by omega) (by omega),ke_powF h (hx x hxx).1 (hx x hxx).2 (by omega) (by omega)]
   congr 1
  have e3:La.sm (fun j=>L.getD j 0*Fi.pow (ke h x) j) n=La.sm (fun j=>kv h (powsF f x (n:Int)) j*kv h y j) n + -(La.sm (fun j=>kv h (powsF f x (n:Int)) j*kv h z j) n):=by
   have e4 : -(La.sm (fun j=>kv h (powsF f x (n:Int)) j*kv h z j) n)=La.sm (fun j=>-1*(kv h (powsF f x (n:Int)) j*kv h z j)) n:=by
    rw [La.sm_mul,Fi.neg_mul,Fi.one_mul]
   rw [e4,<- La.sm_add]
   refine La.sm_congr fun j hj=>?_
   rw [hget j hj,hpw j hj,Fi.add_mul,Fi.neg_mul,Fi.neg_mul,Fi.one_mul]
   congr 1
   ·exact Fi.mul_comm _ _
   ·rw [Fi.mul_comm]
  rw [e3,e1,Fi.add_neg]
 have hall:∀j,j<n->kv h y j=kv h z j:=fun j hj=>Classical.byContradiction fun hne=>by
  have hnz:∃c∈L,c≠0:=by
   refine ⟨kv h y j + -(kv h z j),List.mem_map.2 ⟨j,List.mem_range.2 hj,rfl⟩,fun h0=>hne ?_⟩
   have:=congrArg (fun t=>t+kv h z j) h0
   simp only [Fi.zero_add] at this
   rw [Fi.add_assoc,Fi.add_comm (-(kv h z j)),Fi.add_neg,Fi.add_zero] at this
   exact this
  have:=Fi.roots_lt L.length L (Nat.le_refl _) hnz (xs.map (ke h)) (G_Z h hx hn) hroots
  rw [List.length_map,hLl] at this
  omega
 exact kv_ext h hyo hzo (by omega) fun j hj=>hall j (by omega)
end
end Go.Cw
namespace Go.Cw
section
variable {f : Fld} (h : FOk f)
include h
theorem inv_mul {A T C:Mat} (hA:invE f A=0) (hT:mErr f T=0) (hC:mErr f C=0) (h1:A.cols=T.rows.length) (hc:C.cols=T.cols) (hl:C.rows.length=A.rows.length)
  (e:∀i j:Nat,i<A.rows.length->(j:Int)<T.cols->km h C.rows i j=La.sm (fun p=>km h A.rows i p*km h T.rows p j) T.rows.length) :
  mulE f (invM f A) C=0/\mulV f (invM f A) C=T:=by
 have G:=F_y hA
 have hx:=B_c G.x
 have hmT:=(A_i.1 hT).2
 have hmC:=(A_i.1 hC).2
 have hmA:=(A_i.1 hx.2.1).2
 have hmI:=(A_i.1 hx.1).2
 have hs:=C_N hmT
 have eC:C=mulM f A T:=by
  have r1:C.rows=(mulM f A T).rows:=by
   refine G_F h (n:=T.cols.toNat) (by have:=C_O hmC;rw [hc] at this;exact this) (C_h h A T rfl) (by rw [B_F,hl]) fun i j hi hj=>?_
   rw [e i j (by omega) (by omega),D_E h hmA hmT h1 (by omega)]
  cases C
  simp only at r1 hc
  rw [r1,hc];rfl
 have hE:mulE f (invM f A) C=0:=E_m hx.1 hC (by rw [hx.2.2];omega)
 refine ⟨hE,?_⟩
 have sqA:=E_A.1 (show sqErr f A=0 by
  unfold invE at hA
  split at hA
  ·rename_i hq;exact hq
  ·rename_i hq;exact absurd hA hq)
 have hIA:mulM f (invM f A) A=⟨A.cols,uni A.cols⟩:=by
  have h2:=G.xr
  rw [C_K G.x] at h2
  have h3:(mulM f (invM f A) A).cols=A.cols:=rfl
  cases hm:mulM f (invM f A) A with
  | mk c r=>rw [hm] at h2 h3;simp only at h2 h3;rw [h2,h3]
 rw [C_K hE,eC,<- mul_assoc h hmI hmA hmT hx.2.2 h1,hIA]
 have hmU:matErr f ⟨A.cols,uni A.cols⟩=0:=by
  have sA:=C_N hmA
  exact C_A sA.1 sA.2.1 (by rw [B_R];omega) (good_uni h.1 _)
 have r2:(mulM f ⟨A.cols,uni A.cols⟩ T).rows=T.rows:=by
  refine G_F h (n:=T.cols.toNat) (C_h h _ T rfl) (C_O hmT) (by rw [B_F,B_R];omega) fun i j hi hj=>?_
  rw [B_F,B_R] at hi
  rw [D_E h hmU hmT h1 (by rw [B_R];exact hi)]
  rw [La.sm_one (k:=i) (by omega) (fun p hp hne=>?_)]
  ·show km h (uni A.cols) i i*_=_
   rw [show A.cols=((A.cols.toNat:Nat):Int) by omega,km_uni h (by omega) (by omega)]
   unfold La.idm
   rw [i_P rfl,Fi.one_mul]
  ·show km h (uni A.cols) i p*_=_
   rw [show A.cols=((A.cols.toNat:Nat):Int) by omega,km_uni h (by omega) (by omega)]
   unfold La.idm
   rw [i_N (fun q=>hne q.symm),Fi.zero_mul]
 cases T
 simp only at r2
 show (⟨_,(mulM f _ _).rows⟩:Mat)=_
 rw [r2]
theorem vdm_inv {xs:List Int} {n:Int} (hx:∀x∈xs,0<=x/\x<f.q) (hn:xs.Nodup) (hl:(xs.length:Int)=n) (n1:n<=256) (hq:n<=f.q-1):invE f ⟨n,vdm f xs n⟩=0:=by
 have hm:mErr f ⟨n,vdm f xs n⟩=0:=E_L h (by omega) n1 (by omega)
 have hs:sqErr f ⟨n,vdm f xs n⟩=0:=E_A.2 ⟨hm,by show ((vdm f xs n).length:Int)=n;rw [A_7];exact hl⟩
 refine invE_ok hs ?_
 have hr:=vdm_rank h hx hn (n:=n.toNat) (by omega) (by omega)
 have e:(traX f ⟨n,vdm f xs n⟩).piv=(elim f (vdm f xs n) [] n.toNat).piv:=(elim_fst f (vdm f xs n) (uni (vdm f xs n).length) [] n.toNat).2.1
 rw [e]
 rw [show ((n.toNat:Nat):Int)=n by omega] at hr
 show ¬(((elim f (vdm f xs n) [] n.toNat).piv.length:Int)<n)
 rw [hr];omega
end
def prtL (rows:List (List Int)) (a b:Int):List (List Int):=rows.map fun row=>(row.drop a.toNat).take (b-a).toNat
theorem C_d (rows:List (List Int)) (a b:Int):(prtL rows a b).length=rows.length:=by unfold prtL;rw [List.length_map]
theorem ix_prtL {rows:List (List Int)} {a b i:Int} (i0:0<=i) (i1:i<rows.length):ix [] (prtL rows a b) i=((ix [] rows i).drop a.toNat).take (b-a).toNat:=by
 unfold prtL;rw [F_B (fun row:List Int=>(row.drop a.toNat).take (b-a).toNat) rows [] [] i0 i1]
theorem ix2_prtL {rows:List (List Int)} {a b i j:Int} (a0:0<=a) (i0:0<=i) (i1:i<rows.length) (j0:0<=j) (j1:j<b-a):ix 0 (ix [] (prtL rows a b) i) j=ix 0 (ix [] rows i) (a+j):=by
 rw [ix_prtL i0 i1,<- E_V a0 j0]
 simp only [ix,List.getD]
 rw [List.getElem?_take,i_P (by omega)]
theorem F_j {f:Fld} {rows:List (List Int)} {n:Nat} {a b:Int} (hg:good f n rows) (a0:0<=a:=by omega) (ab:a<=b:=by omega) (b1:b<=n:=by omega):good f (b-a).toNat (prtL rows a b):=by
 intro l hl
 unfold prtL at hl
 obtain ⟨row,hr,rfl⟩:=List.mem_map.1 hl
 obtain ⟨g1,g2⟩:=hg row hr
 refine ⟨by rw [List.length_take,l_D];omega,?_⟩
 rintro ⟨x,hx,hb⟩
 exact g2 ⟨x,List.mem_of_mem_drop (List.mem_of_mem_take hx),hb⟩
theorem powsF_take (f:Fld) (x:Int) {K D:Int} (k0:0<=K) (hK:K<=D):((powsF f x D).drop (0:Int).toNat).take (K-0).toNat=powsF f x K:=by
 show (powsF f x D).take (K-0).toNat=_
 unfold powsF
 refine D_O 0 (by rw [List.length_take,A_x,A_x];omega) fun j j0 j1=>?_
 rw [List.length_take,A_x] at j1
 rw [B_d 0 _ j0 (by omega)]
 simp only [ix,List.getD]
 rw [List.getElem?_take,i_P (by omega)]
 have:=B_d 0 (fun i=>powF f x i) (v:=D) (i:=j) j0 (by omega)
 simp only [ix,List.getD] at this
 exact this
theorem prt_vdm (f:Fld) (xs:List Int) {K D:Int} (k0:0<=K) (hK:K<=D):prtL (vdm f xs D) 0 K=vdm f xs K:=by
 unfold prtL vdm
 rw [List.map_map]
 exact List.map_congr_left fun x _=>powsF_take f x k0 hK
end Go.Cw
namespace Go.Cw
structure NdF (r:Rgn) (ws:List Int):Prop where
 len:(ws.length:Int)=r.K
 rng:∀t:Int,0<=t->t<r.K->0<=ix 0 ws t/\ix 0 ws t<r.Points.length
 xl:((pickL r.Points ws).length:Int)=r.K
 xr:∀x∈pickL r.Points ws,0<=x/\x<r.F.q
 xn:(pickL r.Points ws).Nodup
 xi:∀t:Int,0<=t->t<r.K->ix 0 (pickL r.Points ws) t=ix 0 r.Points (ix 0 ws t)
 kq:r.K<=r.F.q
theorem nodup_ub {xs:List Int} (hn:xs.Nodup) {q:Int} (hx:∀x∈xs,0<=x/\x<q) (hq:0<=q):(xs.length:Int)<=q:=by
 have : ∀(n:Nat) (xs:List Int),xs.Nodup->(∀x∈xs,0<=x/\x<(n:Int))->xs.length<=n:=fun n=>by
  induction n with
  | zero=>intro xs _ h;cases xs with
   | nil=>exact Nat.le_refl 0
   | cons a l=>have:=h a (by simp);omega
  | succ n ih =>
   intro xs hn h
   have h1:=ih (xs.filter fun x=>decide (x≠(n:Int))) (hn.filter _) fun x hx=>by
    have h2:=List.mem_filter.1 hx
    have h3:=h x h2.1
    have h4:x≠(n:Int):=of_decide_eq_true h2.2
    omega
   have h2:xs.length<=(xs.filter fun x=>decide (x≠(n:Int))).length+1:=by
    clear h1 h ih
    induction xs with
    | nil=>simp
    | cons a l ihl =>
     obtain ⟨ha,hl⟩:=List.nodup_cons.1 hn
     by_cases e:a=(n:Int)
     ·have : (l.filter fun x=>decide (x≠(n:Int)))=l:=List.filter_eq_self.2 fun x hx=>d_T fun hh=>ha (by rw [e,<- hh];exact hx)
      rw [List.filter_cons_of_neg (by simp [e]),this];simp
     ·have:=ihl hl
      simp only [List.filter_cons,d_T e,if_true,List.length_cons]
      omega
   omega
 have h2:=this q.toNat xs hn fun x h=>by have:=hx x h;omega
 omega
theorem nd_facts {r:Rgn} (R:RgOk r) {ws:List Int} (h:nodErr r.Points.length r.K (-1) ws=0):NdF r ws:=by
 obtain ⟨h1,h2,h3⟩:=F_P h
 have hpr:∀i∈ws,0<=i/\i<(r.Points.length:Int):=fun i hi=>by have:=h2 i hi;omega
 have hS:=R.fld.1
 have hx:∀x∈pickL r.Points ws,0<=x/\x<r.F.q:=fun x hx=>by
  obtain ⟨i,i0,i1,rfl⟩:=mem_ix 0 hx
  rw [G_Y] at i1
  rw [G_v i0 i1]
  exact F_U hS R.elt _
 have hn:=pick_nodup R.nodup hpr h3
 have hxl:((pickL r.Points ws).length:Int)=r.K:=by rw [G_Y];exact h1
 exact ⟨h1,fun t t0 t1=>hpr _ (B_i 0 ws t0 (by omega)),hxl,hx,hn,fun t t0 t1=>G_v t0 (by omega),by
  have:=nodup_ub hn hx (by have:=hS.bd;omega);omega⟩
theorem enc_ke {r:Rgn} (R:RgOk r) {l:List Int} (E:EncF r l) (hlo:¬outF r.F l) {i j:Int} (i0:0<=i) (i1:i<r.Points.length) (j0:0<=j) :
  ke R.fld (ix 0 (ix [] (encW r l) i) j)=La.sm (fun p=>ke R.fld (powF r.F (ix 0 r.Points i) (p:Nat))*ke R.fld (ix 0 (ix [] (msgR r l) (p:Nat)) j)) r.D.toNat:=by
 have hL:=D_C E
 have h1:=D_E R.fld (a:=⟨r.D,vdm r.F r.Points r.D⟩) (b:=⟨rgA r,msgR r l⟩) (vdm_merr R) (msg_err R E hlo) (by show r.D=((msgR r l).length:Int);omega) (i:=i.toNat) (by show i.toNat<(vdm r.F r.Points r.D).length;rw [A_7];omega) j.toNat
 rw [C_8,show ((i.toNat:Nat):Int)=i by omega,show ((j.toNat:Nat):Int)=j by omega] at h1
 show ke R.fld (ix 0 (ix [] (mulM r.F ⟨r.D,vdm r.F r.Points r.D⟩ ⟨rgA r,msgR r l⟩).rows i) j)=_
 rw [h1]
 show La.sm _ (msgR r l).length=_
 rw [show (msgR r l).length=r.D.toNat by omega]
 refine La.sm_congr fun p hp=>?_
 show km R.fld (vdm r.F r.Points r.D) i.toNat p*km R.fld (msgR r l) p j.toNat=_
 rw [C_8,C_8,show ((i.toNat:Nat):Int)=i by omega,show ((j.toNat:Nat):Int)=j by omega]
 congr 2
 unfold vdm
 rw [F_B (fun x=>powsF r.F x r.D) r.Points 0 [] i0 i1]
 unfold powsF
 rw [B_d 0 _ (by omega) (by omega)]
theorem km_vdm {f:Fld} (h:FOk f) (xs:List Int) {n:Int} {i p:Nat} (hi:i<xs.length) (hp:(p:Int)<n):km h (vdm f xs n) i p=ke h (powF f (ix 0 xs i) p):=by
 rw [C_8]
 unfold vdm
 rw [F_B (fun x=>powsF f x n) xs 0 [] (by omega) (by omega)]
 unfold powsF
 rw [B_d 0 _ (by omega) hp]
noncomputable def bwI (r:Rgn) (xs:List Int):Mat:=invM r.F ⟨r.K,vdm r.F xs r.K⟩
noncomputable def bwT (r:Rgn) (xs:List Int) (cs:List (List Int)):Mat:=mulV r.F (bwI r xs) ⟨r.D-r.K,prtL cs r.K r.D⟩
noncomputable def bwP (r:Rgn) (xs:List Int) (cs:List (List Int)):Mat:=mulV r.F ⟨r.D-r.K,prtL (vdm r.F xs r.D) r.K r.D⟩ (turM r.F (bwT r xs cs))
noncomputable def bwC (r:Rgn) (xs:List Int) (cs:List (List Int)):List (List Int) :=
 if r.K<r.D then mkM r.K r.K (fun i j=>addF r.F (ix 0 (ix [] cs i) j) (negF r.F (ix 0 (ix [] (bwP r xs cs).rows i) j))) else prtL cs 0 r.K
noncomputable def bwS (r:Rgn) (xs:List Int) (cs:List (List Int)):Mat:=mulV r.F (bwI r xs) ⟨r.K,bwC r xs cs⟩
section
variable {r : Rgn} (R : RgOk r) (hK0 : r.Kind = 0) {ws : List Int} (N : NdF r ws) {cs : List (List Int)} (hcl : (cs.length : Int) = r.K) (hcg : good r.F r.D.toNat cs)
include R hK0 N hcl hcg
theorem bw_kd:1<=r.K/\r.K<=r.D/\r.D<=63/\r.D<=r.F.q-1:=by
 have hr:=R.rng
 have hn:=R.len
 have hS:=R.fld.1
 unfold rgBad at hr
 have h2:=nodup_ub R.nodup (q:=r.F.q) (fun x hx=>by obtain ⟨i,i0,i1,rfl⟩:=mem_ix 0 hx;exact F_U hS R.elt i) (by have:=hS.bd;omega)
 omega
theorem bw_inv:invE r.F ⟨r.K,vdm r.F (pickL r.Points ws) r.K⟩=0:=by
 have hk:=bw_kd R hK0 N hcl hcg
 exact vdm_inv R.fld N.xr N.xn N.xl (by omega) (by omega)
theorem bwT_ok:mulE r.F (bwI r (pickL r.Points ws)) ⟨r.D-r.K,prtL cs r.K r.D⟩=0/\(bwT r (pickL r.Points ws) cs).cols=r.D-r.K/\((bwT r (pickL r.Points ws) cs).rows.length:Int)=r.K/\mErr r.F (bwT r (pickL r.Points ws) cs)=0:=by
 have hk:=bw_kd R hK0 N hcl hcg
 have G:=F_y (bw_inv R hK0 N hcl hcg)
 have hx:=B_c G.x
 have hlI:((invM r.F ⟨r.K,vdm r.F (pickL r.Points ws) r.K⟩).rows.length:Int)=r.K:=by
  have:=B_c G.y
  have h2:(vdm r.F (pickL r.Points ws) r.K).length=(pickL r.Points ws).length:=A_7 _ _ _
  have h3:=this.2.2
  show _=r.K
  rw [<- h3]
 have hC:mErr r.F ⟨r.D-r.K,prtL cs r.K r.D⟩=0:=A_i.2 ⟨R.fld,C_A (by show 0<=r.D-r.K;omega) (by show r.D-r.K<=256;omega) (by show (prtL cs r.K r.D).length<=256;rw [C_d];omega) (F_j hcg)⟩
 have hE:mulE r.F (bwI r (pickL r.Points ws)) ⟨r.D-r.K,prtL cs r.K r.D⟩=0:=E_m hx.1 hC (by
  have:=hx.2.2
  show (invM r.F ⟨r.K,vdm r.F (pickL r.Points ws) r.K⟩).cols=((prtL cs r.K r.D).length:Int)
  rw [C_d,this]
  show ((vdm r.F (pickL r.Points ws) r.K).length:Int)=_
  rw [A_7];have:=N.xl;omega)
 refine ⟨hE,?_,?_,?_⟩
 ·unfold bwT;rw [C_K hE];rfl
 ·unfold bwT;rw [C_K hE,B_F];exact hlI
 ·unfold bwT;rw [C_K hE]
  exact A_i.2 ⟨R.fld,mulM_err R.fld (A_i.1 (B_c hE).1).2 (A_i.1 hC).2⟩
theorem bwP_ok (hlt:r.K<r.D):mulE r.F ⟨r.D-r.K,prtL (vdm r.F (pickL r.Points ws) r.D) r.K r.D⟩ (turM r.F (bwT r (pickL r.Points ws) cs))=0/\(bwP r (pickL r.Points ws) cs).cols=r.K/\((bwP r (pickL r.Points ws) cs).rows.length:Int)=r.K/\good r.F r.K.toNat (bwP r (pickL r.Points ws) cs).rows:=by
 have hk:=bw_kd R hK0 N hcl hcg
 have hT:=bwT_ok R hK0 N hcl hcg
 have hV:mErr r.F ⟨r.D-r.K,prtL (vdm r.F (pickL r.Points ws) r.D) r.K r.D⟩=0:=A_i.2 ⟨R.fld,C_A (by show 0<=r.D-r.K;omega) (by show r.D-r.K<=256;omega) (by show (prtL (vdm r.F (pickL r.Points ws) r.D) r.K r.D).length<=256;rw [C_d,A_7];have:=N.xl;omega) (F_j (E_z R.fld _ _))⟩
 have hU:mErr r.F (turM r.F (bwT r (pickL r.Points ws) cs))=0:=by rw [D_0 hT.2.2.2];exact A_i.2 ⟨R.fld,turn_err R.fld (A_i.1 hT.2.2.2).2⟩
 have hE:mulE r.F ⟨r.D-r.K,prtL (vdm r.F (pickL r.Points ws) r.D) r.K r.D⟩ (turM r.F (bwT r (pickL r.Points ws) cs))=0:=E_m hV hU (by
  rw [D_0 hT.2.2.2]
  show r.D-r.K=((turnL _ _).length:Int)
  rw [B_X,hT.2.1];omega)
 have hc:(turM r.F (bwT r (pickL r.Points ws) cs)).cols=r.K:=by rw [D_0 hT.2.2.2];exact hT.2.2.1
 refine ⟨hE,?_,?_,?_⟩
 ·unfold bwP;rw [C_K hE];exact hc
 ·unfold bwP;rw [C_K hE,B_F]
  show ((prtL (vdm r.F (pickL r.Points ws) r.D) r.K r.D).length:Int)=r.K
  rw [C_d,A_7];exact N.xl
 ·unfold bwP;rw [C_K hE];exact C_h R.fld _ _ (by rw [hc])
theorem bwC_ok:mErr r.F ⟨r.K,bwC r (pickL r.Points ws) cs⟩=0/\((bwC r (pickL r.Points ws) cs).length:Int)=r.K:=by
 have hk:=bw_kd R hK0 N hcl hcg
 have hg:good r.F r.K.toNat (bwC r (pickL r.Points ws) cs)/\((bwC r (pickL r.Points ws) cs).length:Int)=r.K:=by
  unfold bwC
  by_cases hlt:r.K<r.D
  ·rw [i_P hlt]
   refine ⟨fun l hl=>?_,by rw [A_v];omega⟩
   obtain ⟨i,i0,i1,rfl⟩:=mem_ix [] hl
   rw [A_v] at i1
   rw [E_d _ i0 (by omega)]
   exact ⟨A_x _ _,D_j fun _ _ _=>R.fld.1.addF_lt _ _⟩
  ·rw [i_N hlt]
   have h1:=F_j (a:=0) (b:=r.K) hcg (Int.le_refl 0) (by omega) (by omega)
   rw [show r.K-0=r.K by omega] at h1
   exact ⟨h1,by rw [C_d];exact hcl⟩
 exact ⟨A_i.2 ⟨R.fld,C_A (by show 0<=r.K;omega) (by show r.K<=256;omega) (by show (bwC r (pickL r.Points ws) cs).length<=256;omega) hg.1⟩,hg.2⟩
theorem bwS_ok:mulE r.F (bwI r (pickL r.Points ws)) ⟨r.K,bwC r (pickL r.Points ws) cs⟩=0/\((bwS r (pickL r.Points ws) cs).rows.length:Int)=r.K/\good r.F r.K.toNat (bwS r (pickL r.Points ws) cs).rows/\good r.F (r.D-r.K).toNat (bwT r (pickL r.Points ws) cs).rows:=by
 have hT:=bwT_ok R hK0 N hcl hcg
 have hC:=bwC_ok R hK0 N hcl hcg
 have G:=F_y (bw_inv R hK0 N hcl hcg)
 have hx:=B_c G.x
 have hE:mulE r.F (bwI r (pickL r.Points ws)) ⟨r.K,bwC r (pickL r.Points ws) cs⟩=0:=E_m hx.1 hC.1 (by
  show (invM r.F ⟨r.K,vdm r.F (pickL r.Points ws) r.K⟩).cols=((bwC r (pickL r.Points ws) cs).length:Int)
  rw [hx.2.2,hC.2]
  show ((vdm r.F (pickL r.Points ws) r.K).length:Int)=_
  rw [A_7];exact N.xl)
 have hlI:((invM r.F ⟨r.K,vdm r.F (pickL r.Points ws) r.K⟩).rows.length:Int)=r.K:=by
  have:=B_c G.y
  rw [<- this.2.2]
 refine ⟨hE,?_,?_,?_⟩
 ·unfold bwS;rw [C_K hE,B_F];exact hlI
 ·unfold bwS;rw [C_K hE];exact C_h R.fld _ _ rfl
 ·have:=C_O (A_i.1 hT.2.2.2).2
  rw [hT.2.1] at this
  exact this
end
end Go.Cw
namespace Go.Cw
theorem symE_rng {f:Fld} (hS:Shape f) {l:List Int} (hlo:¬outF f l) (n i j p q:Int):0<=symE l n i j p q/\symE l n i j p q<f.q:=by
 have hb:=hS.bd
 unfold symE
 split
 ·exact F_U hS hlo _
 ·omega
theorem brE_rng {f:Fld} (hS:Shape f) {l:List Int} (hlo:¬outF f l) (K D i j p q:Int):0<=brE l K D i j p q/\brE l K D i j p q<f.q:=by
 unfold brE
 split
 ·exact F_U hS hlo _
 ·exact symE_rng hS hlo _ _ _ _ _
theorem F_r {f:Fld} {R C:Int} {g:Int->Int->Int} (h:∀i j:Int,0<=g i j/\g i j<f.q):good f C.toNat (mkM R C g):=by
 intro l hl
 obtain ⟨i,i0,i1,rfl⟩:=mem_ix [] hl
 rw [A_v] at i1
 rw [E_d _ i0 (by omega)]
 exact ⟨A_x _ _,D_j fun _ _ _=>h _ _⟩
def tMat (r:Rgn) (l:List Int):List (List Int):=mkM r.K (r.D-r.K) (fun p q=>brE l r.K r.D r.K r.K p (r.K+q))
theorem E_T (r:Rgn) (l:List Int):(tMat r l).length=r.K.toNat:=A_v _ _ _
theorem ix2_tMat (r:Rgn) (l:List Int) {p q:Int} (p0:0<=p) (p1:p<r.K) (q0:0<=q) (q1:q<r.D-r.K):ix 0 (ix [] (tMat r l) p) q=brE l r.K r.D r.K r.K p (r.K+q):=C_o _ p0 p1 q0 q1
theorem tMat_good {r:Rgn} (R:RgOk r) {l:List Int} (hlo:¬outF r.F l):good r.F (r.D-r.K).toNat (tMat r l):=F_r fun i j=>brE_rng R.fld.1 hlo r.K r.D r.K r.K i (r.K+j)
section
variable {r : Rgn} (R : RgOk r) (hK0 : r.Kind = 0) {ws : List Int} (N : NdF r ws) {cs : List (List Int)} (hcl : (cs.length : Int) = r.K) (hcg : good r.F r.D.toNat cs)
variable {l : List Int} (E : EncF r l) (hlo : ¬ outF r.F l) (hcs : ∀ t : Int, 0 <= t -> t < r.K -> ix [] cs t = ix [] (encW r l) (ix 0 ws t))
include R hK0 N hcl hcg E hlo hcs
theorem bw_ent {i j:Nat} (hi:(i:Int)<r.K) (hj:(j:Int)<r.D):ke R.fld (ix 0 (ix [] cs i) j) =
  La.sm (fun p=>ke R.fld (powF r.F (ix 0 (pickL r.Points ws) i) (p:Nat))*ke R.fld (brE l r.K r.D r.K r.K (p:Nat) j)) r.K.toNat +
  La.sm (fun p=>ke R.fld (powF r.F (ix 0 (pickL r.Points ws) i) ((r.K.toNat+p:Nat):Int))*ke R.fld (brE l r.K r.D r.K r.K ((r.K.toNat+p:Nat):Int) j)) (r.D-r.K).toNat:=by
 have hk:=bw_kd R hK0 N hcl hcg
 have hw:=N.rng i (by omega) hi
 rw [hcs i (by omega) hi,enc_ke R E hlo hw.1 hw.2 (by omega),N.xi i (by omega) hi,show r.D.toNat=r.K.toNat+(r.D-r.K).toNat by omega,La.sm_split]
 have hM:msgR r l=mkM r.D r.D (brE l r.K r.D r.K r.K):=by unfold msgR;rw [i_N (by omega)]
 rw [hM]
 congr 1
 ·refine La.sm_congr fun p hp=>?_
  rw [C_o _ (by omega) (by omega) (by omega) hj]
 ·refine La.sm_congr fun p hp=>?_
  rw [C_o _ (by omega) (by omega) (by omega) hj]
theorem bw_T:bwT r (pickL r.Points ws) cs=⟨r.D-r.K,tMat r l⟩:=by
 have hk:=bw_kd R hK0 N hcl hcg
 have hT:mErr r.F ⟨r.D-r.K,tMat r l⟩=0:=A_i.2 ⟨R.fld,C_A (by show 0<=r.D-r.K;omega) (by show r.D-r.K<=256;omega) (by show (tMat r l).length<=256;rw [E_T];omega) (tMat_good R hlo)⟩
 have hC:mErr r.F ⟨r.D-r.K,prtL cs r.K r.D⟩=0:=A_i.2 ⟨R.fld,C_A (by show 0<=r.D-r.K;omega) (by show r.D-r.K<=256;omega) (by show (prtL cs r.K r.D).length<=256;rw [C_d];omega) (F_j hcg)⟩
 have hxl:=N.xl
 refine (inv_mul R.fld (bw_inv R hK0 N hcl hcg) hT hC (by show r.K=((tMat r l).length:Int);rw [E_T];omega) rfl (by show (prtL _ _ _).length=(vdm _ _ _).length;rw [C_d,A_7];omega) fun i j hi hj=>?_).2
 have hi2:i<(vdm r.F (pickL r.Points ws) r.K).length:=hi
 rw [A_7] at hi2
 have hj2:(j:Int)<r.D-r.K:=hj
 show km R.fld (prtL cs r.K r.D) i j=La.sm (fun p=>km R.fld (vdm r.F (pickL r.Points ws) r.K) i p*km R.fld (tMat r l) p j) (tMat r l).length
 rw [E_T,C_8,ix2_prtL (by omega) (by omega) (by omega) (by omega) hj2]
 have he:=bw_ent R hK0 N hcl hcg E hlo hcs (i:=i) (j:=r.K.toNat+j) (by omega) (by omega)
 rw [show ((r.K.toNat+j:Nat):Int)=r.K+j by omega] at he
 rw [he,La.sm_zero (g:=fun p=>ke R.fld (powF r.F (ix 0 (pickL r.Points ws) i) ((r.K.toNat+p:Nat):Int))*ke R.fld (brE l r.K r.D r.K r.K ((r.K.toNat+p:Nat):Int) (r.K+j))) fun p hp=>?_,Fi.add_zero]
 ·refine La.sm_congr fun p hp=>?_
  rw [km_vdm R.fld _ hi2 (by omega),C_8,ix2_tMat r l (by omega) (by omega) (by omega) hj2]
 ·have : brE l r.K r.D r.K r.K ((r.K.toNat+p:Nat):Int) (r.K+j)=0:=by
   unfold brE symE
   rw [i_N (by omega),i_N (by omega)]
  rw [this,B_m,Fi.mul_zero]
theorem bw_S:(bwS r (pickL r.Points ws) cs).rows=mkM r.K r.K (symE l r.K r.K r.K):=by
 have hk:=bw_kd R hK0 N hcl hcg
 have hxl:=N.xl
 have hT:mErr r.F ⟨r.K,mkM r.K r.K (symE l r.K r.K r.K)⟩=0:=A_i.2 ⟨R.fld,C_A (by show 0<=r.K;omega) (by show r.K<=256;omega) (by show (mkM _ _ _).length<=256;rw [A_v];omega) (F_r fun _ _=>symE_rng R.fld.1 hlo _ _ _ _ _)⟩
 have hC:=bwC_ok R hK0 N hcl hcg
 have hT0:=bw_T R hK0 N hcl hcg E hlo hcs
 have key:=(inv_mul R.fld (bw_inv R hK0 N hcl hcg) hT hC.1 (by show r.K=((mkM _ _ _).length:Int);rw [A_v];omega) rfl (by show (bwC _ _ _).length=(vdm _ _ _).length;rw [A_7];have:=hC.2;omega) fun i j hi hj=>?_).2
 ·unfold bwS bwI;rw [key]
 have hi2:i<(vdm r.F (pickL r.Points ws) r.K).length:=hi
 rw [A_7] at hi2
 have hj2:(j:Int)<r.K:=hj
 show km R.fld (bwC r (pickL r.Points ws) cs) i j=La.sm (fun p=>km R.fld (vdm r.F (pickL r.Points ws) r.K) i p*km R.fld (mkM r.K r.K (symE l r.K r.K r.K)) p j) (mkM r.K r.K (symE l r.K r.K r.K)).length
 have hfst:La.sm (fun p=>ke R.fld (powF r.F (ix 0 (pickL r.Points ws) i) (p:Nat))*ke R.fld (brE l r.K r.D r.K r.K (p:Nat) j)) r.K.toNat=La.sm (fun p=>km R.fld (vdm r.F (pickL r.Points ws) r.K) i p*km R.fld (mkM r.K r.K (symE l r.K r.K r.K)) p j) r.K.toNat:=La.sm_congr fun p hp=>by
  rw [km_vdm R.fld _ hi2 (by omega),C_8,C_o _ (by omega) (by omega) (by omega) hj2]
  unfold brE
  rw [i_N (by omega)]
 have he:=bw_ent R hK0 N hcl hcg E hlo hcs (i:=i) (j:=j) (by omega) (by omega)
 rw [A_v,C_8]
 unfold bwC
 by_cases hlt:r.K<r.D
 ·have hP:=bwP_ok R hK0 N hcl hcg hlt
  rw [i_P hlt,C_o _ (by omega) (by omega) (by omega) hj2,G_a,F_A,he,hfst]
  have hprod:ke R.fld (ix 0 (ix [] (bwP r (pickL r.Points ws) cs).rows i) j)=La.sm (fun p=>ke R.fld (powF r.F (ix 0 (pickL r.Points ws) i) ((r.K.toNat+p:Nat):Int))*ke R.fld (brE l r.K r.D r.K r.K ((r.K.toNat+p:Nat):Int) j)) (r.D-r.K).toNat:=by
   have hz:=B_c hP.1
   have hTM:mErr r.F (bwT r (pickL r.Points ws) cs)=0:=(bwT_ok R hK0 N hcl hcg).2.2.2
   rw [<- C_8]
   unfold bwP
   rw [C_K hP.1,D_E R.fld (A_i.1 hz.1).2 (A_i.1 hz.2.1).2 hz.2.2 (by show i<(prtL _ _ _).length;rw [C_d,A_7];omega)]
   rw [D_0 hTM,hT0]
   show La.sm (fun p=>km R.fld (prtL (vdm r.F (pickL r.Points ws) r.D) r.K r.D) i p*km R.fld (turnL (tMat r l) (r.D-r.K)) p j) (turnL (tMat r l) (r.D-r.K)).length=_
   rw [B_X]
   refine La.sm_congr fun p hp=>?_
   rw [km_turn R.fld (by omega) (by rw [E_T];omega),C_8,C_8,ix2_tMat r l (by omega) (by omega) (by omega) (by omega),ix2_prtL (by omega) (by omega) (by rw [A_7];omega) (by omega) (by omega),show ((r.K.toNat+p:Nat):Int)=r.K+p by omega,brE_comm l r.K r.D r.K r.K (r.K+p) j]
   congr 2
   unfold vdm
   rw [F_B (fun x=>powsF r.F x r.D) (pickL r.Points ws) 0 [] (by omega) (by omega)]
   unfold powsF
   rw [B_d 0 _ (by omega) (by omega)]
  rw [hprod,Fi.add_assoc,Fi.add_neg,Fi.add_zero]
 ·rw [i_N hlt,ix2_prtL (Int.le_refl 0) (by omega) (by omega) (by omega) (by omega),show (0:Int)+(j:Int)=j by omega,he,hfst,show (r.D-r.K).toNat=0 by omega]
  exact Fi.add_zero _
end
end Go.Cw
namespace Go.Cw
def flo (g:Int->List Int):Nat->List Int
 | 0=>[]
 | n+1=>flo g n++g n
theorem D_Z (g:Int->List Int) {i:Int} (i0:0<=i):flo g (i+1).toNat=flo g i.toNat++g i:=by
 rw [show (i+1).toNat=i.toNat+1 by omega]
 show flo g i.toNat++g ((i.toNat:Nat):Int)=_
 rw [show ((i.toNat:Nat):Int)=i by omega]
theorem F_0 {g h:Int->List Int}:∀ {n:Nat},(∀i:Int,0<=i->i<n->g i=h i)->flo g n=flo h n
 | 0,_=>rfl
 | n+1,e=>by
  show flo g n++g n=flo h n++h n
  rw [F_0 fun i i0 i1=>e i i0 (by omega),e n (by omega) (by omega)]
theorem flo_take {g:Int->List Int} {l:List Int} {s:Nat->Int} (s0:s 0=0):∀ {n:Nat},(∀i:Nat,i<n->0<=s i/\s i<=s (i+1))->s n<=l.length->(∀i:Nat,i<n->g i=(l.drop (s i).toNat).take (s (i+1)-s i).toNat)->flo g n=l.take (s n).toNat
 | 0,_,_,_=>by rw [s0];rfl
 | n+1,m,hl,hg=>by
  have hm:=m n (by omega)
  show flo g n++g n=_
  rw [flo_take s0 (n:=n) (fun i hi=>m i (by omega)) (by omega) (fun i hi=>hg i (by omega)),hg n (by omega)]
  apply List.ext_getElem?
  intro k
  by_cases hk:k<(s n).toNat
  ·rw [List.getElem?_append_left (by rw [List.length_take];omega),List.getElem?_take,List.getElem?_take,i_P hk,i_P (by omega)]
  ·rw [List.getElem?_append_right (by rw [List.length_take];omega),List.length_take,List.getElem?_take,List.getElem?_take,g_D]
   by_cases h2:k<(s (n+1)).toNat
   ·rw [i_P (by omega),i_P h2];congr 1;omega
   ·rw [i_N (by omega),i_N h2]
theorem flo_len {g:Int->List Int} {s:Nat->Int} (s0:s 0=0):∀ {n:Nat},(∀i:Nat,i<n->((g i).length:Int)=s (i+1)-s i)->((flo g n).length:Int)=s n
 | 0,_=>by rw [s0];rfl
 | n+1,hg=>by
  have h1:=hg n (by omega)
  have h2:=flo_len s0 (n:=n) fun i hi=>hg i (by omega)
  show ((flo g n++g n).length:Int)=_
  rw [l_A];omega
theorem flo_out {f:Fld} {g:Int->List Int}:∀ {n:Nat},(∀i:Int,0<=i->i<n->¬outF f (g i))->¬outF f (flo g n)
 | 0,_=>fun ⟨_,hx,_⟩=>by cases hx
 | n+1,h=>E_F (flo_out fun i i0 i1=>h i i0 (by omega)) (h n (by omega) (by omega))
def triL (S:List (List Int)) (n:Nat):List Int:=flo (fun i=>(ix [] S i).drop i.toNat) n
theorem triL_len {f:Fld} {S:List (List Int)} {n:Int} (n0:0<=n) (hl:n<=S.length) (hg:good f n.toNat S):((triL S n.toNat).length:Int)=tri n n.toNat:=by
 unfold triL
 refine flo_len (s:=tri n) rfl fun i hi=>?_
 have:=(hg _ (B_Z (l:=S) (i:=(i:Int)) (by omega))).1
 rw [l_D,tri_s];omega
theorem triL_out {f:Fld} {S:List (List Int)} {n:Int} (n0:0<=n) (hl:n<=S.length) (hg:good f n.toNat S):¬outF f (triL S n.toNat) :=
 flo_out fun i i0 i1 ⟨x,hx,hb⟩=>(hg _ (B_Z (l:=S) (i:=i) i0)).2 ⟨x,List.mem_of_mem_drop hx,hb⟩
theorem triL_sym {l:List Int} {n:Int} (n0:0<=n) (hl:tri n n.toNat<=l.length):triL (mkM n n (symE l n n n)) n.toNat=l.take (tri n n.toNat).toNat:=by
 unfold triL
 refine flo_take (s:=tri n) rfl (fun i hi=>⟨B_w i (by omega),by rw [tri_s];omega⟩) hl fun i hi=>?_
 have t0:=B_w (n:=n) i (by omega)
 have t1:=tri_mono (n:=n) (a:=i+1) (b:=n.toNat) (by omega) (by omega)
 rw [tri_s] at t1
 rw [tri_s,E_d _ (by omega) (by omega)]
 refine D_O 0 (by rw [l_D,A_x,List.length_take,l_D];omega) fun j j0 j1=>?_
 rw [l_D,A_x] at j1
 rw [show (i:Int).toNat=((i:Int)).toNat from rfl,E_V (by omega) j0,B_d 0 _ (by omega) (by omega),ix_take _ j0 (by omega),E_V t0 j0]
 unfold symE
 rw [i_P (by omega),show min (i:Int) (i+j)=i by omega,show max (i:Int) (i+j)=i+j by omega]
 congr 1
 rw [show ((i:Int)).toNat=i by omega];omega
def rowL (S:List (List Int)) (n:Nat):List Int:=flo (fun i=>ix [] S i) n
theorem rowL_len {f:Fld} {S:List (List Int)} {n w:Int} (w0:0<=w) (n0:0<=n) (hl:n<=S.length) (hg:good f w.toNat S):((rowL S n.toNat).length:Int)=n*w:=by
 unfold rowL
 have h1:=flo_len (g:=fun i=>ix [] S i) (s:=fun i=>(i:Int)*w) (n:=n.toNat) (by show ((0:Nat):Int)*w=0;simp) fun i hi=>by
  have:=(hg _ (B_Z (l:=S) (i:=(i:Int)) (by omega))).1
  show ((ix [] S i).length:Int)=((i+1:Nat):Int)*w-(i:Int)*w
  rw [show ((i+1:Nat):Int)=(i:Int)+1 by omega,Int.add_mul];omega
 rw [h1]
 show ((n.toNat:Nat):Int)*w=_
 rw [show ((n.toNat:Nat):Int)=n by omega]
theorem rowL_out {f:Fld} {S:List (List Int)} {w:Nat} {n:Int} (n0:0<=n) (hl:n<=S.length) (hg:good f w S):¬outF f (rowL S n.toNat) :=
 flo_out fun i i0 i1=>(hg _ (B_Z (l:=S) (i:=i) i0)).2
theorem rowL_t {r:Rgn} {l:List Int} (hK:0<=r.K) (hKD:r.K<=r.D) (hl:(l.length:Int)=bI r.K r.D r.K):rowL (tMat r l) r.K.toNat=l.drop (tri r.K r.K.toNat).toNat:=by
 have t0:=B_w (n:=r.K) r.K.toNat (by omega)
 have hb:bI r.K r.D r.K=tri r.K r.K.toNat+r.K*(r.D-r.K):=rfl
 have hm0:0<=r.K*(r.D-r.K):=Int.mul_nonneg hK (by omega)
 have key:rowL (tMat r l) r.K.toNat=(l.drop (tri r.K r.K.toNat).toNat).take (((r.K.toNat:Nat):Int)*(r.D-r.K)).toNat:=by
  unfold rowL
  refine flo_take (s:=fun i=>(i:Int)*(r.D-r.K)) (by show ((0:Nat):Int)*_=0;simp) (fun i hi=>?_) (by rw [l_D,show ((r.K.toNat:Nat):Int)=r.K by omega];omega) fun i hi=>?_
  ·have h1:0<=(i:Int)*(r.D-r.K):=Int.mul_nonneg (by omega) (by omega)
   refine ⟨h1,?_⟩
   show (i:Int)*(r.D-r.K)<=((i+1:Nat):Int)*(r.D-r.K)
   rw [show ((i+1:Nat):Int)=(i:Int)+1 by omega,Int.add_mul];omega
  ·have h1:0<=(i:Int)*(r.D-r.K):=Int.mul_nonneg (by omega) (by omega)
   have h2:((i:Int)+1)*(r.D-r.K)<=r.K*(r.D-r.K):=Int.mul_le_mul_of_nonneg_right (by omega) (by omega)
   rw [Int.add_mul] at h2
   have h3:((i+1:Nat):Int)*(r.D-r.K)-(i:Int)*(r.D-r.K)=r.D-r.K:=by
    rw [show ((i+1:Nat):Int)=(i:Int)+1 by omega,Int.add_mul];omega
   show ix [] (tMat r l) i=((l.drop (tri r.K r.K.toNat).toNat).drop ((i:Int)*(r.D-r.K)).toNat).take (((i+1:Nat):Int)*(r.D-r.K)-(i:Int)*(r.D-r.K)).toNat
   rw [h3]
   unfold tMat
   rw [E_d _ (by omega) (by omega)]
   refine D_O 0 (by rw [A_x,List.length_take,l_D,l_D];omega) fun j j0 j1=>?_
   rw [A_x] at j1
   rw [B_d 0 _ j0 (by omega),ix_take _ j0 (by omega),E_V h1 j0,E_V t0 (by omega)]
   unfold brE
   rw [i_P (by omega),show min (i:Int) (r.K+j)=i by omega,show max (i:Int) (r.K+j)=r.K+j by omega]
   unfold bI
   congr 1;omega
 rw [key]
 apply t_L
 rw [l_D,show ((r.K.toNat:Nat):Int)=r.K by omega];omega
def filR (r:Rgn) (M:List (List Int)):List Int :=
 if r.Kind=1 then triL (M.take (rgA r).toNat) (rgA r).toNat++triL (M.drop (rgA r).toNat) (rgA r).toNat
 else flo (fun i=>((ix [] M i).take r.K.toNat).drop i.toNat) r.K.toNat++flo (fun i=>(ix [] M i).drop r.K.toNat) r.K.toNat
def bwM (r:Rgn) (S T:List (List Int)):List (List Int):=mapR (fun i=>if i<r.K then ix [] S i++ix [] T i else List.replicate r.D.toNat 0) r.D
theorem B_l (r:Rgn) (S T:List (List Int)):(bwM r S T).length=r.D.toNat:=A_x _ _
theorem ix_bwM {r:Rgn} {S T:List (List Int)} {i:Int} (i0:0<=i) (i1:i<r.K) (h:r.K<=r.D):ix [] (bwM r S T) i=ix [] S i++ix [] T i:=by
 unfold bwM
 rw [B_d [] _ i0 (by omega),i_P i1]
theorem wid_bwM {f:Fld} {r:Rgn} {S T:List (List Int)} (hK0:0<=r.K) (hK:r.K<=r.D) (hS:good f r.K.toNat S) (hT:good f (r.D-r.K).toNat T) (lS:(S.length:Int)=r.K) (lT:(T.length:Int)=r.K):∀row∈bwM r S T,(row.length:Int)=r.D:=fun row hr=>by
 unfold bwM at hr
 obtain ⟨i,i0,i1,rfl⟩:=D_K hr
 by_cases hi:i<r.K
 ·rw [i_P hi,l_A]
  have h1:=(hS _ (B_Z (l:=S) (i:=i) i0)).1
  have h2:=(hT _ (B_Z (l:=T) (i:=i) i0)).1
  omega
 ·rw [i_N hi,l_R];omega
theorem fil_bwM {f:Fld} {r:Rgn} (hk:r.Kind=0) {S T:List (List Int)} (hK0:0<=r.K) (hK:r.K<=r.D) (hS:good f r.K.toNat S) (lS:(S.length:Int)=r.K):filR r (bwM r S T)=triL S r.K.toNat++rowL T r.K.toNat:=by
 unfold filR triL rowL
 rw [i_N (by omega)]
 congr 1
 ·refine F_0 fun i i0 i1=>?_
  have h1:=(hS _ (B_Z (l:=S) (i:=i) i0)).1
  rw [ix_bwM i0 (by omega) hK,List.take_left' (by omega)]
 ·refine F_0 fun i i0 i1=>?_
  have h1:=(hS _ (B_Z (l:=S) (i:=i) i0)).1
  rw [ix_bwM i0 (by omega) hK,List.drop_left' (by omega)]
theorem fil_stM {r:Rgn} (hk:r.Kind=1) {S T:List (List Int)} (lS:S.length=(rgA r).toNat):filR r (S++T)=triL S (rgA r).toNat++triL T (rgA r).toNat:=by
 unfold filR
 rw [i_P hk,List.take_left' lS,List.drop_left' lS]
end Go.Cw
namespace Go.Cw
def omI {α:Type} (l:List α) (i:Int):List α:=l.take i.toNat++l.drop (i+1).toNat
theorem omI_map {α β:Type} (g:α->β) (l:List α) (i:Int):(omI l i).map g=omI (l.map g) i:=by
 unfold omI
 rw [List.map_append,List.map_take,List.map_drop]
theorem omI_len {α:Type} {l:List α} {i:Int} (i0:0<=i) (i1:i<l.length):((omI l i).length:Int)=l.length-1:=by
 unfold omI
 rw [l_A,List.length_take,l_D];omega
theorem omI_ix {α:Type} (d:α) {l:List α} {i j:Int} (i0:0<=i) (i1:i<l.length) (j0:0<=j):ix d (omI l i) j=if j<i then ix d l j else ix d l (j+1):=by
 unfold omI
 simp only [ix,List.getD]
 by_cases h:j<i
 ·rw [i_P h,List.getElem?_append_left (by rw [List.length_take];omega),List.getElem?_take,i_P (by omega)]
 ·rw [i_N h,List.getElem?_append_right (by rw [List.length_take];omega),List.length_take,g_D]
  congr 2;omega
theorem omI_sub {α:Type} {l:List α} {i:Int} {x:α} (hx:x∈omI l i):x∈l:=by
 unfold omI at hx
 rcases List.mem_append.1 hx with h | h
 ·exact List.mem_of_mem_take h
 ·exact List.mem_of_mem_drop h
theorem omI_nodup {α:Type} {l:List α} {i:Int} (i0:0<=i) (h:l.Nodup):(omI l i).Nodup:=by
 unfold omI
 refine List.nodup_append.2 ⟨h.sublist (List.take_sublist _ _),h.sublist (List.drop_sublist _ _),fun a ha b hb e=>?_⟩
 subst e
 have h2:(l.take i.toNat++l.drop i.toNat).Nodup:=by rw [List.take_append_drop];exact h
 refine (List.nodup_append.1 h2).2.2 a ha a ?_ rfl
 have e2:l.drop (i+1).toNat=(l.drop i.toNat).drop 1:=by rw [List.drop_drop];congr 1;omega
 rw [e2] at hb
 exact List.mem_of_mem_drop hb
theorem G_n {α:Type} (d:α) {l:List α} {i j:Int} (i0:0<=i) (j0:0<=j) (j1:j<l.length) (h:j≠i):omI (l.take (j+1).toNat) i=omI (l.take j.toNat) i++[ix d l j]:=by
 rw [B_A d l j0 j1]
 unfold omI
 have hl:(l.take j.toNat).length=j.toNat:=by rw [List.length_take];omega
 by_cases hlt:j<i
 ·have hl2:(l.take j.toNat++[ix d l j]).length=j.toNat+1:=by rw [l_A,hl];rfl
  rw [t_L (l:=l.take j.toNat++[ix d l j]) (by omega),List.drop_eq_nil_of_le (as:=l.take j.toNat++[ix d l j]) (by omega),t_L (l:=l.take j.toNat) (by omega),List.drop_eq_nil_of_le (as:=l.take j.toNat) (by omega),List.append_nil,List.append_nil]
 ·rw [List.take_append_of_le_length (by omega),List.drop_append_of_le_length (by omega),List.append_assoc]
theorem G_o {α:Type} (d:α) {l:List α} {i:Int} (i0:0<=i) (i1:i<l.length):omI (l.take (i+1).toNat) i=omI (l.take i.toNat) i:=by
 rw [B_A d l i0 i1]
 unfold omI
 have hl:(l.take i.toNat).length=i.toNat:=by rw [List.length_take];omega
 rw [List.take_append_of_le_length (by omega),List.drop_eq_nil_of_le (by rw [l_A,hl];show i.toNat+1<=_;omega),List.drop_eq_nil_of_le (by omega)]
theorem nodup_ix {l:List Int} (hn:l.Nodup) {i j:Int} (i0:0<=i) (i1:i<l.length) (j0:0<=j) (j1:j<l.length) (h:i≠j):ix 0 l i≠ix 0 l j:=fun e=>by
 have h1:i.toNat<l.length:=by omega
 have h2:j.toNat<l.length:=by omega
 have e3:l[i.toNat]=l[j.toNat]:=by
  have x1:=C_e 0 l i i0 i1
  have x2:=C_e 0 l j j0 j1
  rw [g_E h1] at x1
  rw [g_E h2] at x2
  rw [Option.some.inj x1,Option.some.inj x2];exact e
 rcases Nat.lt_trichotomy i.toNat j.toNat with hlt | heq | hgt
 ·exact absurd e3 (List.pairwise_iff_getElem.1 hn _ _ h1 h2 hlt)
 ·omega
 ·exact absurd e3.symm (List.pairwise_iff_getElem.1 hn _ _ h2 h1 hgt)
noncomputable def midS (f:Fld) (a:Int) (xs:List Int) (P:List (List Int)):List (List Int):=mapR (fun i=>solV f ⟨a,vdm f (omI xs i) a⟩ (omI (ix [] P i) i)) a
noncomputable def midV (f:Fld) (a:Int) (xs:List Int) (P:List (List Int)):List (List Int):=(mulV f (invM f ⟨a,vdm f (xs.take a.toNat) a⟩) ⟨a,midS f a xs P⟩).rows
theorem vdm_omI (f:Fld) (xs:List Int) (n i:Int):vdm f (omI xs i) n=omI (vdm f xs n) i:=omI_map _ _ _
theorem vdm_take (f:Fld) (xs:List Int) (n:Int) (k:Nat):vdm f (xs.take k) n=(vdm f xs n).take k:=List.map_take
theorem sol_good {f:Fld} (h:FOk f) {xs b:List Int} {n:Int} (hx:∀x∈xs,0<=x/\x<f.q) (hn:xs.Nodup) (hl:(xs.length:Int)=n) (n1:n<=256) (hq:n<=f.q-1) (hb:(b.length:Int)=n) (hbo:¬outF f b) :
  ((solV f ⟨n,vdm f xs n⟩ b).length:Int)=n/\¬outF f (solV f ⟨n,vdm f xs n⟩ b):=by
 have sol:=vdm_sol h hx hn hl n1 hq hb hbo
 have hz:=solV_ok sol
 have hg:=B_7 h.1 (Y:=[]) (D_z h.1 (E_z h xs n) hbo) n.toNat
 have hp:=C_p f (augL (vdm f xs n) b) [] n.toNat
 have hle:=(B_G f (augL (vdm f xs n) b) [] n.toNat).1
 exact ⟨by rw [hz,C_c];show ((n.toNat:Nat):Int)=n;omega,by rw [hz];exact solTo_rng h.1 hg n _ (by show (elim f (augL (vdm f xs n) b) [] n.toNat).piv.length<=(elim f (augL (vdm f xs n) b) [] n.toNat).X.length;omega)⟩
section
variable {f : Fld} (h : FOk f) {xs : List Int} {a : Int} (hx : ∀ x ∈ xs, 0 <= x /\ x < f.q) (hn : xs.Nodup) (hl : (xs.length : Int) = a + 1) (a1 : 1 <= a) (a2 : a <= 200) (hq : a <= f.q - 1)
variable {P : List (List Int)} (hPl : (P.length : Int) = a + 1) (hPg : good f (a + 1).toNat P)
include h hx hn hl a1 a2 hq hPl hPg
theorem mid_row {i:Int} (i0:0<=i) (i1:i<a):solE f ⟨a,vdm f (omI xs i) a⟩ (omI (ix [] P i) i)=0/\((solV f ⟨a,vdm f (omI xs i) a⟩ (omI (ix [] P i) i)).length:Int)=a/\¬outF f (solV f ⟨a,vdm f (omI xs i) a⟩ (omI (ix [] P i) i)):=by
 have hr:=hPg _ (B_Z (l:=P) (i:=i) i0)
 have e1:=omI_len (l:=xs) i0 (by omega)
 have e2:=omI_len (l:=ix [] P i) i0 (by omega)
 have x1:∀x∈omI xs i,0<=x/\x<f.q:=fun x hx2=>hx x (omI_sub hx2)
 have o1:¬outF f (omI (ix [] P i) i):=fun ⟨x,hx2,hb⟩=>hr.2 ⟨x,omI_sub hx2,hb⟩
 exact ⟨vdm_sol h x1 (omI_nodup i0 hn) (by omega) (by omega) hq (by omega) o1,sol_good h x1 (omI_nodup i0 hn) (by omega) (by omega) hq (by omega) o1⟩
theorem mid_good:good f a.toNat (midS f a xs P):=fun l hm=>by
 unfold midS at hm
 obtain ⟨i,i0,i1,rfl⟩:=D_K hm
 have:=mid_row h hx hn hl a1 a2 hq hPl hPg i0 i1
 exact ⟨by omega,this.2.2⟩
theorem mid_inv:invE f ⟨a,vdm f (xs.take a.toNat) a⟩=0 :=
 vdm_inv h (fun x hx2=>hx x (List.mem_of_mem_take hx2)) (hn.sublist (List.take_sublist _ _)) (by rw [List.length_take];omega) (by omega) hq
theorem mid_ok:mulE f (invM f ⟨a,vdm f (xs.take a.toNat) a⟩) ⟨a,midS f a xs P⟩=0/\((midV f a xs P).length:Int)=a/\good f a.toNat (midV f a xs P):=by
 have G:=F_y (mid_inv h hx hn hl a1 a2 hq hPl hPg)
 have hxx:=B_c G.x
 have hyy:=B_c G.y
 have lt:((xs.take a.toNat).length:Int)=a:=by rw [List.length_take];omega
 have lm:(midS f a xs P).length=a.toNat:=A_x _ _
 have hM:mErr f ⟨a,midS f a xs P⟩=0:=A_i.2 ⟨h,C_A (by show 0<=a;omega) (by show a<=256;omega) (by show (midS f a xs P).length<=256;omega) (mid_good h hx hn hl a1 a2 hq hPl hPg)⟩
 have hE:mulE f (invM f ⟨a,vdm f (xs.take a.toNat) a⟩) ⟨a,midS f a xs P⟩=0:=E_m hxx.1 hM (by
  rw [hxx.2.2]
  show ((vdm f (xs.take a.toNat) a).length:Int)=((midS f a xs P).length:Int)
  rw [A_7];omega)
 refine ⟨hE,?_,?_⟩
 ·unfold midV
  rw [C_K hE,B_F,<- hyy.2.2]
 ·unfold midV
  rw [C_K hE]
  exact C_h h _ _ rfl
theorem mid_right {S:List (List Int)} (hSl:(S.length:Int)=a) (hSg:good f a.toNat S)
  (hP:∀i j:Int,0<=i->i<a->0<=j->j<a+1->j≠i->ix 0 (ix [] P i) j=dotF f (powsF f (ix 0 xs j) a) (ix [] (mulM f ⟨a,vdm f xs a⟩ ⟨a,S⟩).rows i)):midV f a xs P=S:=by
 have hS:mErr f ⟨a,S⟩=0:=A_i.2 ⟨h,C_A (by show 0<=a;omega) (by show a<=256;omega) (by show S.length<=256;omega) hSg⟩
 have hV:mErr f ⟨a,vdm f xs a⟩=0:=E_L h (by omega) (by omega) (by omega)
 have wg:=C_h h ⟨a,vdm f xs a⟩ ⟨a,S⟩ rfl
 have wl:(mulM f ⟨a,vdm f xs a⟩ ⟨a,S⟩).rows.length=xs.length:=by rw [B_F];exact A_7 _ _ _
 have hrow:∀i:Int,0<=i->i<a->ix [] (midS f a xs P) i=ix [] (mulM f ⟨a,vdm f xs a⟩ ⟨a,S⟩).rows i:=fun i i0 i1=>by
  have hw:=wg _ (B_Z (l:=(mulM f ⟨a,vdm f xs a⟩ ⟨a,S⟩).rows) (i:=i) i0)
  have hr:=hPg _ (B_Z (l:=P) (i:=i) i0)
  have e1:=omI_len (l:=xs) i0 (by omega)
  have e2:=omI_len (l:=ix [] P i) i0 (by omega)
  have x1:∀x∈omI xs i,0<=x/\x<f.q:=fun x hx2=>hx x (omI_sub hx2)
  generalize hwd:ix [] (mulM f ⟨a,vdm f xs a⟩ ⟨a,S⟩).rows i=w at hw
  have hb:omI (ix [] P i) i=dots f (vdm f (omI xs i) a) w:=by
   refine D_O 0 (by rw [D_o,A_7];omega) fun t t0 t1=>?_
   rw [ix_dots t0 (by rw [A_7];omega),omI_ix 0 i0 (by omega) t0]
   have hv:ix [] (vdm f (omI xs i) a) t=powsF f (ix 0 (omI xs i) t) a:=F_B _ (omI xs i) 0 [] t0 (by omega)
   rw [hv,omI_ix 0 i0 (by omega) t0]
   by_cases ht:t<i
   ·rw [i_P ht,i_P ht,hP i t i0 i1 t0 (by omega) (by omega),hwd]
   ·rw [i_N ht,i_N ht,hP i (t+1) i0 i1 (by omega) (by omega) (by omega),hwd]
  have hm:=E_L h (xs:=omI xs i) (n:=a) (by omega) (by omega) (by omega)
  have SF:=sol_facts (m:=⟨a,vdm f (omI xs i) a⟩) (x:=w) hm (C_9.2 ⟨by show (w.length:Int)=a;have:=hw.1;have e:(⟨a,S⟩:Mat).cols=a:=rfl;omega,hw.2⟩)
  have mr:=mid_row h hx hn hl a1 a2 hq hPl hPg i0 i1
  unfold midS
  rw [B_d [] _ i0 i1]
  refine vdm_uniq h (n:=a.toNat) x1 (omI_nodup i0 hn) (by omega) (by omega) (by omega) hw.1 mr.2.2 hw.2 fun y hy=>?_
  obtain ⟨t,t0,t1,rfl⟩:=mem_ix 0 hy
  have:=SF.dot t t0 (by show t<(vdm f (omI xs i) a).length;rw [A_7];exact t1)
  rw [ix_dots t0 (by show t<(vdm f (omI xs i) a).length;rw [A_7];exact t1)] at this
  have hrw:ix [] (⟨a,vdm f (omI xs i) a⟩:Mat).rows t=powsF f (ix 0 (omI xs i) t) a:=F_B _ (omI xs i) 0 [] t0 t1
  rw [hrw] at this
  rw [show ((a.toNat:Nat):Int)=a by omega,hb]
  exact this
 have lm:(midS f a xs P).length=a.toNat:=A_x _ _
 have lt:(xs.take a.toNat).length=a.toNat:=by rw [List.length_take];omega
 have hC:mErr f ⟨a,midS f a xs P⟩=0:=A_i.2 ⟨h,C_A (by show 0<=a;omega) (by show a<=256;omega) (by show (midS f a xs P).length<=256;omega) (mid_good h hx hn hl a1 a2 hq hPl hPg)⟩
 have key:=(inv_mul h (mid_inv h hx hn hl a1 a2 hq hPl hPg) hS hC (by show a=(S.length:Int);omega) rfl (by show (midS f a xs P).length=(vdm f (xs.take a.toNat) a).length;rw [A_7];omega) fun i j hi hj=>?_).2
 ·unfold midV;rw [key]
 have hi2:i<(vdm f (xs.take a.toNat) a).length:=hi
 rw [A_7,lt] at hi2
 show km h (midS f a xs P) i j=La.sm (fun p=>km h (vdm f (xs.take a.toNat) a) i p*km h S p j) S.length
 rw [km_at,hrow i (by omega) (by omega),<- km_at,D_E h (A_i.1 hV).2 (A_i.1 hS).2 (by show a=(S.length:Int);omega) (by show i<(vdm f xs a).length;rw [A_7];omega)]
 show La.sm (fun p=>km h (vdm f xs a) i p*km h S p j) S.length=_
 refine La.sm_congr fun p hp=>?_
 rw [km_vdm h xs (by omega) (by omega),km_vdm h (xs.take a.toNat) (by omega) (by omega),ix_take xs (by omega) (by omega)]
end
end Go.Cw
namespace Go.Cw
noncomputable def stC (r:Rgn) (xs:List Int) (cs:List (List Int)):List (List Int):=(mulV r.F ⟨rgA r,cs⟩ (turM r.F ⟨rgA r,vdm r.F xs (rgA r)⟩)).rows
def stL (r:Rgn) (xs:List Int) (i:Int):Int:=powF r.F (ix 0 xs i) (rgA r)
noncomputable def stQe (r:Rgn) (xs:List Int) (cs:List (List Int)) (i j:Int):Int :=
 mulF r.F (addF r.F (ix 0 (ix [] (stC r xs cs) i) j) (negF r.F (ix 0 (ix [] (stC r xs cs) j) i))) (invF r.F (addF r.F (stL r xs i) (negF r.F (stL r xs j))))
noncomputable def stPe (r:Rgn) (xs:List Int) (cs:List (List Int)) (i j:Int):Int :=
 addF r.F (ix 0 (ix [] (stC r xs cs) i) j) (negF r.F (mulF r.F (stL r xs i) (stQe r xs cs i j)))
noncomputable def stQ (r:Rgn) (xs:List Int) (cs:List (List Int)):List (List Int):=mkM r.K r.K (fun i j=>if i=j then 0 else stQe r xs cs i j)
noncomputable def stP (r:Rgn) (xs:List Int) (cs:List (List Int)):List (List Int):=mkM r.K r.K (fun i j=>if i=j then 0 else stPe r xs cs i j)
noncomputable def stM (r:Rgn) (xs:List Int) (cs:List (List Int)):List (List Int):=midV r.F (rgA r) xs (stP r xs cs)++midV r.F (rgA r) xs (stQ r xs cs)
section
variable {r : Rgn} (R : RgOk r) (hK1 : r.Kind = 1) {ws : List Int} (N : NdF r ws) {cs : List (List Int)} (hcl : (cs.length : Int) = r.K) (hcg : good r.F (rgA r).toNat cs)
include R hK1 N hcl hcg
theorem st_kd:rgA r=r.K-1/\1<=rgA r/\r.D=2*rgA r/\r.D<=63/\r.D<=r.F.q-1:=by
 have hr:=R.rng
 have hn:=R.len
 have hS:=R.fld.1
 unfold rgBad at hr
 have h2:=nodup_ub R.nodup (q:=r.F.q) (fun x hx=>by obtain ⟨i,i0,i1,rfl⟩:=mem_ix 0 hx;exact F_U hS R.elt i) (by have:=hS.bd;omega)
 have hA:rgA r=r.K-1:=by unfold rgA;rw [i_N (by omega)]
 omega
theorem stL_ne (hnd:ws.Nodup) {i j:Int} (i0:0<=i) (i1:i<r.K) (j0:0<=j) (j1:j<r.K) (h:i≠j):stL r (pickL r.Points ws) i≠stL r (pickL r.Points ws) j:=by
 have hk:=st_kd R hK1 N hcl hcg
 have hp:=R.pows hK1
 have e:∀t:Int,0<=t->t<r.K->stL r (pickL r.Points ws) t=ix 0 (r.Points.map (rgPow r)) (ix 0 ws t):=fun t t0 t1=>by
  have hw:=N.rng t t0 t1
  rw [G_J hw.1 hw.2]
  unfold stL rgPow
  rw [N.xi t t0 t1,hk.1]
 have wi:=N.rng i i0 i1
 have wj:=N.rng j j0 j1
 have wl:=N.len
 rw [e i i0 i1,e j j0 j1]
 exact nodup_ix hp wi.1 (by rw [List.length_map];exact wi.2) wj.1 (by rw [List.length_map];exact wj.2) (nodup_ix hnd i0 (by omega) j0 (by omega) h)
theorem stC_ok:mulE r.F ⟨rgA r,cs⟩ (turM r.F ⟨rgA r,vdm r.F (pickL r.Points ws) (rgA r)⟩)=0/\((stC r (pickL r.Points ws) cs).length:Int)=r.K/\good r.F r.K.toNat (stC r (pickL r.Points ws) cs):=by
 have hk:=st_kd R hK1 N hcl hcg
 have hxl:=N.xl
 have hV:mErr r.F ⟨rgA r,vdm r.F (pickL r.Points ws) (rgA r)⟩=0:=E_L R.fld (by omega) (by omega) (by omega)
 have hU:mErr r.F (turM r.F ⟨rgA r,vdm r.F (pickL r.Points ws) (rgA r)⟩)=0:=by rw [D_0 hV];exact A_i.2 ⟨R.fld,turn_err R.fld (A_i.1 hV).2⟩
 have hC:mErr r.F ⟨rgA r,cs⟩=0:=A_i.2 ⟨R.fld,C_A (by show 0<=rgA r;omega) (by show rgA r<=256;omega) (by show cs.length<=256;omega) hcg⟩
 have hE:mulE r.F ⟨rgA r,cs⟩ (turM r.F ⟨rgA r,vdm r.F (pickL r.Points ws) (rgA r)⟩)=0:=E_m hC hU (by
  rw [D_0 hV]
  show rgA r=((turnL (vdm r.F (pickL r.Points ws) (rgA r)) (rgA r)).length:Int)
  rw [B_X];omega)
 have hc:(turM r.F ⟨rgA r,vdm r.F (pickL r.Points ws) (rgA r)⟩).cols=r.K:=by
  rw [D_0 hV]
  show ((vdm r.F (pickL r.Points ws) (rgA r)).length:Int)=r.K
  rw [A_7];exact hxl
 refine ⟨hE,?_,?_⟩
 ·unfold stC;rw [C_K hE,B_F];exact hcl
 ·unfold stC;rw [C_K hE];exact C_h R.fld _ _ (by rw [hc])
theorem stPQ_ok:((stP r (pickL r.Points ws) cs).length:Int)=rgA r+1/\good r.F (rgA r+1).toNat (stP r (pickL r.Points ws) cs)/\((stQ r (pickL r.Points ws) cs).length:Int)=rgA r+1/\good r.F (rgA r+1).toNat (stQ r (pickL r.Points ws) cs):=by
 have hk:=st_kd R hK1 N hcl hcg
 have hb:=R.fld.1.bd
 have eK:rgA r+1=r.K:=by omega
 rw [eK]
 refine ⟨by unfold stP;rw [A_v];omega,F_r fun i j=>?_,by unfold stQ;rw [A_v];omega,F_r fun i j=>?_⟩
 ·split
  ·omega
  ·exact R.fld.1.addF_lt _ _
 ·split
  ·omega
  ·exact R.fld.1.mulF_lt _ _
theorem stM_ok:(midV r.F (rgA r) (pickL r.Points ws) (stP r (pickL r.Points ws) cs)).length=(rgA r).toNat/\(midV r.F (rgA r) (pickL r.Points ws) (stQ r (pickL r.Points ws) cs)).length=(rgA r).toNat/\good r.F (rgA r).toNat (midV r.F (rgA r) (pickL r.Points ws) (stP r (pickL r.Points ws) cs))/\good r.F (rgA r).toNat (midV r.F (rgA r) (pickL r.Points ws) (stQ r (pickL r.Points ws) cs)):=by
 have hk:=st_kd R hK1 N hcl hcg
 have hpq:=stPQ_ok R hK1 N hcl hcg
 have hxl:=N.xl
 have h1:=mid_ok R.fld N.xr N.xn (by omega) hk.2.1 (by omega) (by omega) hpq.1 hpq.2.1
 have h2:=mid_ok R.fld N.xr N.xn (by omega) hk.2.1 (by omega) (by omega) hpq.2.2.1 hpq.2.2.2
 exact ⟨by omega,by omega,h1.2.2,h2.2.2⟩
end
def msS (r:Rgn) (l:List Int):List (List Int):=mkM (rgA r) (rgA r) (symE l (rgA r) (rgA r) (rgA r))
def msT (r:Rgn) (l:List Int):List (List Int):=mkM (rgA r) (rgA r) (symE (l.drop (tri (rgA r) (rgA r).toNat).toNat) (rgA r) (rgA r) (rgA r))
theorem symM_good {f:Fld} (hS:Shape f) {l:List Int} (hlo:¬outF f l) (n:Int):good f n.toNat (mkM n n (symE l n n n)):=F_r fun _ _=>symE_rng hS hlo _ _ _ _ _
section
variable {f : Fld} (h : FOk f)
noncomputable def vsv (xs:List Int) (a:Int) (S:List (List Int)) (i j:Int):KF f h:=La.sm (fun q=>La.sm (fun p=>ke h (powF f (ix 0 xs i) (p:Nat))*ke h (ix 0 (ix [] S (p:Nat)) (q:Nat))) a.toNat*ke h (powF f (ix 0 xs j) (q:Nat))) a.toNat
theorem vsv_sym {xs:List Int} {a:Int} {S:List (List Int)} (hS:∀p q:Nat,(p:Int)<a->(q:Int)<a->ix 0 (ix [] S p) q=ix 0 (ix [] S q) p) (i j:Int):vsv h xs a S i j=vsv h xs a S j i:=by
 unfold vsv
 rw [La.sm_congr (h:=fun q=>La.sm (fun p=>ke h (powF f (ix 0 xs i) (p:Nat))*ke h (ix 0 (ix [] S (p:Nat)) (q:Nat))*ke h (powF f (ix 0 xs j) (q:Nat))) a.toNat) fun q _=>(La.sm_mulR _ _ _).symm,La.sm_swap]
 refine La.sm_congr fun p hp=>?_
 rw [<- La.sm_mulR]
 refine La.sm_congr fun q hq=>?_
 rw [hS p q (by omega) (by omega)]
 ac_rfl
end
theorem msT_tl {r:Rgn} {l:List Int} (hlo:¬outF r.F l):¬outF r.F (l.drop (tri (rgA r) (rgA r).toNat).toNat):=fun ⟨x,hx,hb⟩=>hlo ⟨x,List.mem_of_mem_drop hx,hb⟩
section
variable {r : Rgn} (R : RgOk r) (hK1 : r.Kind = 1) {ws : List Int} (N : NdF r ws) {cs : List (List Int)} (hcl : (cs.length : Int) = r.K) (hcg : good r.F (rgA r).toNat cs)
variable {l : List Int} (E : EncF r l) (hlo : ¬ outF r.F l) (hcs : ∀ t : Int, 0 <= t -> t < r.K -> ix [] cs t = ix [] (encW r l) (ix 0 ws t))
include R hK1 N hcl hcg E hlo hcs
theorem st_ent {i q:Nat} (hi:(i:Int)<r.K) (hq:(q:Int)<rgA r):ke R.fld (ix 0 (ix [] cs i) q) =
  La.sm (fun p=>ke R.fld (powF r.F (ix 0 (pickL r.Points ws) i) (p:Nat))*ke R.fld (ix 0 (ix [] (msS r l) (p:Nat)) q)) (rgA r).toNat +
  ke R.fld (stL r (pickL r.Points ws) i)*La.sm (fun p=>ke R.fld (powF r.F (ix 0 (pickL r.Points ws) i) (p:Nat))*ke R.fld (ix 0 (ix [] (msT r l) (p:Nat)) q)) (rgA r).toNat:=by
 have hk:=st_kd R hK1 N hcl hcg
 have hw:=N.rng i (by omega) hi
 have hxr:=N.xr _ (B_i 0 (pickL r.Points ws) (i:=(i:Int)) (by omega) (by have:=N.xl;omega))
 have hM:msgR r l=msS r l++msT r l:=by unfold msgR;rw [i_P hK1];rfl
 have lS:(msS r l).length=(rgA r).toNat:=A_v _ _ _
 rw [hcs i (by omega) hi,enc_ke R E hlo hw.1 hw.2 (by omega),N.xi i (by omega) hi,show r.D.toNat=(rgA r).toNat+(rgA r).toNat by omega,La.sm_split,hM,<- La.sm_mul]
 congr 1
 ·refine La.sm_congr fun p hp=>?_
  congr 3
  simp only [ix,List.getD];rw [List.getElem?_append_left (by omega)]
 ·refine La.sm_congr fun p hp=>?_
  have e1:ix [] (msS r l++msT r l) (((rgA r).toNat+p:Nat):Int)=ix [] (msT r l) (p:Nat):=by
   simp only [ix,List.getD];rw [List.getElem?_append_right (by omega),lS];congr 2;omega
  rw [e1]
  unfold stL
  rw [N.xi i (by omega) hi] at hxr ⊢
  rw [ke_powF R.fld hxr.1 hxr.2 (by omega) (by omega),ke_powF R.fld hxr.1 hxr.2 (j:=rgA r) (by omega) (by omega),ke_powF R.fld hxr.1 hxr.2 (by omega) (by omega),show (((rgA r).toNat+p:Nat):Int).toNat=(rgA r).toNat+p by omega,Fi.pow_add,show ((p:Nat):Int).toNat=p by omega,Fi.mul_assoc]
theorem stC_ent {i j:Nat} (hi:(i:Int)<r.K) (hj:(j:Int)<r.K):ke R.fld (ix 0 (ix [] (stC r (pickL r.Points ws) cs) i) j) =
  vsv R.fld (pickL r.Points ws) (rgA r) (msS r l) i j+ke R.fld (stL r (pickL r.Points ws) i)*vsv R.fld (pickL r.Points ws) (rgA r) (msT r l) i j:=by
 have hk:=st_kd R hK1 N hcl hcg
 have hxl:=N.xl
 have hO:=(stC_ok R hK1 N hcl hcg).1
 have hz:=B_c hO
 have hV:mErr r.F ⟨rgA r,vdm r.F (pickL r.Points ws) (rgA r)⟩=0:=E_L R.fld (by omega) (by omega) (by omega)
 rw [<- C_8]
 unfold stC
 rw [C_K hO,D_E R.fld (A_i.1 hz.1).2 (A_i.1 hz.2.1).2 hz.2.2 (by show i<cs.length;omega),D_0 hV]
 show La.sm (fun q=>km R.fld cs i q*km R.fld (turnL (vdm r.F (pickL r.Points ws) (rgA r)) (rgA r)) q j) (turnL (vdm r.F (pickL r.Points ws) (rgA r)) (rgA r)).length=_
 rw [B_X]
 unfold vsv
 rw [<- La.sm_mul,<- La.sm_add]
 refine La.sm_congr fun q hq=>?_
 rw [km_turn R.fld hq (by rw [A_7];omega),km_vdm R.fld _ (by omega) (by omega),C_8,st_ent R hK1 N hcl hcg E hlo hcs hi (by omega),Fi.add_mul,Fi.mul_assoc]
theorem msST_sym:(∀p q:Nat,(p:Int)<rgA r->(q:Int)<rgA r->ix 0 (ix [] (msS r l) p) q=ix 0 (ix [] (msS r l) q) p)/\(∀p q:Nat,(p:Int)<rgA r->(q:Int)<rgA r->ix 0 (ix [] (msT r l) p) q=ix 0 (ix [] (msT r l) q) p):=by
 constructor <;> intro p q hp hq
 ·unfold msS
  rw [C_o _ (by omega) hp (by omega) hq,C_o _ (by omega) hq (by omega) hp,symE_comm]
 ·unfold msT
  rw [C_o _ (by omega) hp (by omega) hq,C_o _ (by omega) hq (by omega) hp,symE_comm]
theorem stPQ_ent (hnd:ws.Nodup) {i j:Nat} (hi:(i:Int)<r.K:=by omega) (hj:(j:Int)<r.K:=by omega) (hne:i≠j:=by omega) :
  ke R.fld (stQe r (pickL r.Points ws) cs i j)=vsv R.fld (pickL r.Points ws) (rgA r) (msT r l) i j/\ke R.fld (stPe r (pickL r.Points ws) cs i j)=vsv R.fld (pickL r.Points ws) (rgA r) (msS r l) i j:=by
 have c1:=stC_ent R hK1 N hcl hcg E hlo hcs hi hj
 have c2:=stC_ent R hK1 N hcl hcg E hlo hcs hj hi
 have sy:=msST_sym R hK1 N hcl hcg E hlo hcs
 rw [vsv_sym R.fld sy.1 j i,vsv_sym R.fld sy.2 j i] at c2
 have hS:=R.fld.1
 have hL:=stL_ne R hK1 N hcl hcg hnd (i:=i) (j:=j) (by omega) hi (by omega) hj (by omega)
 have r1:=F_k R.fld (ix 0 (pickL r.Points ws) i) (rgA r)
 have r2:=F_k R.fld (ix 0 (pickL r.Points ws) j) (rgA r)
 generalize vsv R.fld (pickL r.Points ws) (rgA r) (msS r l) i j=A at *
 generalize vsv R.fld (pickL r.Points ws) (rgA r) (msT r l) i j=B at *
 have hne0:ke R.fld (addF r.F (stL r (pickL r.Points ws) i) (negF r.F (stL r (pickL r.Points ws) j)))≠0:=fun h0=>by
  rw [G_a,F_A] at h0
  have h1:=congrArg (fun t=>t+ke R.fld (stL r (pickL r.Points ws) j)) h0
  simp only [Fi.zero_add] at h1
  rw [Fi.add_assoc,Fi.neg_add,Fi.add_zero] at h1
  exact hL (E_H R.fld r1.1 r1.2 r2.1 r2.2 h1)
 have q1:ke R.fld (stQe r (pickL r.Points ws) cs i j)=B:=by
  unfold stQe
  rw [E_p,ke_inv R.fld hne0,G_a,F_A,c1,c2]
  have e:A+ke R.fld (stL r (pickL r.Points ws) i)*B + -(A+ke R.fld (stL r (pickL r.Points ws) j)*B)=B*ke R.fld (addF r.F (stL r (pickL r.Points ws) i) (negF r.F (stL r (pickL r.Points ws) j))):=by
   rw [G_a,F_A,Fi.mul_add,Fi.mul_neg,Fi.neg_add_rev,Fi.mul_comm B,Fi.mul_comm B]
   rw [Fi.add_comm A,Fi.add_assoc,Fi.add_neg_cancel_left]
  rw [e,Fi.mul_assoc,Fi.mul_inv hne0,Fi.mul_one]
 refine ⟨q1,?_⟩
 unfold stPe
 rw [G_a,F_A,E_p,q1,c1,Fi.add_assoc,Fi.add_neg,Fi.add_zero]
theorem vsv_dot {S:List (List Int)} (hSl:(S.length:Int)=rgA r) (hSg:good r.F (rgA r).toNat S) {i j:Nat} (hi:(i:Int)<r.K) (hj:(j:Int)<r.K):ke R.fld (dotF r.F (powsF r.F (ix 0 (pickL r.Points ws) j) (rgA r)) (ix [] (mulM r.F ⟨rgA r,vdm r.F (pickL r.Points ws) (rgA r)⟩ ⟨rgA r,S⟩).rows i))=vsv R.fld (pickL r.Points ws) (rgA r) S i j:=by
 have hk:=st_kd R hK1 N hcl hcg
 have hxl:=N.xl
 have hV:mErr r.F ⟨rgA r,vdm r.F (pickL r.Points ws) (rgA r)⟩=0:=E_L R.fld (by omega) (by omega) (by omega)
 have hS:mErr r.F ⟨rgA r,S⟩=0:=A_i.2 ⟨R.fld,C_A (by show 0<=rgA r;omega) (by show rgA r<=256;omega) (by show S.length<=256;omega) hSg⟩
 rw [E_q R.fld _ _ (n:=(rgA r).toNat) (by rw [show (powsF r.F (ix 0 (pickL r.Points ws) j) (rgA r)).length=(rgA r).toNat from A_x _ _];exact Nat.le_refl _)]
 unfold vsv
 refine La.sm_congr fun q hq=>?_
 rw [<- km_at,D_E R.fld (A_i.1 hV).2 (A_i.1 hS).2 (by show rgA r=(S.length:Int);omega) (by show i<(vdm r.F (pickL r.Points ws) (rgA r)).length;rw [A_7];omega),Fi.mul_comm]
 congr 1
 ·show La.sm (fun p=>km R.fld (vdm r.F (pickL r.Points ws) (rgA r)) i p*km R.fld S p q) S.length=_
  rw [show S.length=(rgA r).toNat by omega]
  refine La.sm_congr fun p hp=>?_
  rw [km_vdm R.fld _ (by omega) (by omega),C_8]
 ·rw [D_4]
  unfold powsF
  rw [B_d 0 _ (by omega) (by omega)]
theorem st_right (hnd:ws.Nodup):stM r (pickL r.Points ws) cs=msS r l++msT r l:=by
 have hk:=st_kd R hK1 N hcl hcg
 have hpq:=stPQ_ok R hK1 N hcl hcg
 have hxl:=N.xl
 have hS:=R.fld.1
 have g1:=symM_good hS hlo (rgA r)
 have g2:=symM_good hS (msT_tl hlo) (rgA r)
 unfold stM
 rw [mid_right R.fld N.xr N.xn (by omega) hk.2.1 (by omega) (by omega) hpq.1 hpq.2.1 (S:=msS r l) (by unfold msS;rw [A_v];omega) g1 fun i j i0 i1 j0 j1 hne=>?_,
  mid_right R.fld N.xr N.xn (by omega) hk.2.1 (by omega) (by omega) hpq.2.2.1 hpq.2.2.2 (S:=msT r l) (by unfold msT;rw [A_v];omega) g2 fun i j i0 i1 j0 j1 hne=>?_]
 rotate_left
 ·have h1:=(stPQ_ent R hK1 N hcl hcg E hlo hcs hnd (i:=i.toNat) (j:=j.toNat)).2
  have h2:=vsv_dot R hK1 N hcl hcg E hlo hcs (S:=msS r l) (by unfold msS;rw [A_v];omega) g1 (i:=i.toNat) (j:=j.toNat) (by omega) (by omega)
  rw [show ((i.toNat:Nat):Int)=i by omega,show ((j.toNat:Nat):Int)=j by omega] at h1 h2
  have r1:=hS.addF_lt (ix 0 (ix [] (stC r (pickL r.Points ws) cs) i) j) (negF r.F (mulF r.F (stL r (pickL r.Points ws) i) (stQe r (pickL r.Points ws) cs i j)))
  have r2:=G_f hS (powsF r.F (ix 0 (pickL r.Points ws) j) (rgA r)) (ix [] (mulM r.F ⟨rgA r,vdm r.F (pickL r.Points ws) (rgA r)⟩ ⟨rgA r,msS r l⟩).rows i)
  unfold stP
  rw [C_o _ i0 (by omega) j0 (by omega),i_N (fun e=>hne e.symm)]
  exact E_H R.fld r1.1 r1.2 r2.1 r2.2 (h1.trans h2.symm)
 ·have h1:=(stPQ_ent R hK1 N hcl hcg E hlo hcs hnd (i:=i.toNat) (j:=j.toNat)).1
  have h2:=vsv_dot R hK1 N hcl hcg E hlo hcs (S:=msT r l) (by unfold msT;rw [A_v];omega) g2 (i:=i.toNat) (j:=j.toNat) (by omega) (by omega)
  rw [show ((i.toNat:Nat):Int)=i by omega,show ((j.toNat:Nat):Int)=j by omega] at h1 h2
  have r1:=hS.mulF_lt (addF r.F (ix 0 (ix [] (stC r (pickL r.Points ws) cs) i) j) (negF r.F (ix 0 (ix [] (stC r (pickL r.Points ws) cs) j) i))) (invF r.F (addF r.F (stL r (pickL r.Points ws) i) (negF r.F (stL r (pickL r.Points ws) j))))
  have r2:=G_f hS (powsF r.F (ix 0 (pickL r.Points ws) j) (rgA r)) (ix [] (mulM r.F ⟨rgA r,vdm r.F (pickL r.Points ws) (rgA r)⟩ ⟨rgA r,msT r l⟩).rows i)
  unfold stQ
  rw [C_o _ i0 (by omega) j0 (by omega),i_N (fun e=>hne e.symm)]
  exact E_H R.fld r1.1 r1.2 r2.1 r2.2 (h1.trans h2.symm)
end
end Go.Cw
namespace Go.Cw
noncomputable def recM (r:Rgn) (xs:List Int) (cs:List (List Int)):List (List Int):=if r.Kind=1 then stM r xs cs else bwM r (bwS r xs cs).rows (bwT r xs cs).rows
noncomputable def recL (r:Rgn) (ws:List Int) (cs:List (List Int)):List Int:=filR r (recM r (pickL r.Points ws) cs)
def mtch (r:Rgn) (ws:List Int) (cs:List (List Int)) (l:List Int):Prop:=∀t:Int,0<=t->t<r.K->ix [] (encW r l) (ix 0 ws t)=ix [] cs t
noncomputable def fstE (f:Fld) (a:Int):List (List Int)->Int
 | []=>0
 | c::cs=>if lenErr f c a≠0 then lenErr f c a else fstE f a cs
theorem E_t {f:Fld} {a:Int}:∀ {cs:List (List Int)},fstE f a cs=0↔∀c∈cs,lenErr f c a=0
 | []=>by simp [fstE]
 | c::cs=>by
  have ih:=E_t (f:=f) (a:=a) (cs:=cs)
  simp only [fstE]
  by_cases h:lenErr f c a=0
  ·rw [i_N (fun hn=>hn h),ih]
   exact ⟨fun g d hd=>by rcases List.mem_cons.1 hd with e | e;(rw [e];exact h);exact g d e,fun g d hd=>g d (List.mem_cons_of_mem _ hd)⟩
  ·rw [i_P h]
   exact ⟨fun g=>absurd g h,fun g=>absurd (g c (by simp)) h⟩
theorem fstE_at {f:Fld} {a:Int}:∀ {cs:List (List Int)} {i:Int},0<=i->i<cs.length->(∀c∈cs.take i.toNat,lenErr f c a=0)->lenErr f (ix [] cs i) a≠0->fstE f a cs=lenErr f (ix [] cs i) a
 | [],i,h0,h1,_,_=>by simp only [List.length_nil] at h1;omega
 | c::cs,i,h0,h1,h,hn=>by
  by_cases e:i=0
  ·subst e
   have hn2:lenErr f c a≠0:=hn
   show (if lenErr f c a≠0 then lenErr f c a else fstE f a cs)=_
   rw [i_P hn2];rfl
  ·have e1:ix [] (c::cs) i=ix [] cs (i-1):=by
    simp only [ix,List.getD]
    rw [show i.toNat=(i-1).toNat+1 by omega];rfl
   have e2:(c::cs).take i.toNat=c::cs.take (i-1).toNat:=by rw [show i.toNat=(i-1).toNat+1 by omega];rfl
   rw [e2] at h
   rw [e1] at hn ⊢
   show (if lenErr f c a≠0 then lenErr f c a else fstE f a cs)=_
   rw [i_N (fun hh=>hh (h c (by simp)))]
   exact fstE_at (by omega) (by simp only [List.length_cons] at h1;omega) (fun d hd=>h d (List.mem_cons_of_mem _ hd)) hn
theorem fstE_succ {f:Fld} {a:Int} {cs:List (List Int)} {i:Int} (h0:0<=i) (h1:i<cs.length) (h:∀c∈cs.take i.toNat,lenErr f c a=0) (hn:lenErr f (ix [] cs i) a=0):∀c∈cs.take (i+1).toNat,lenErr f c a=0:=fun c hc=>by
 rw [B_A [] cs h0 h1] at hc
 rcases List.mem_append.1 hc with g | g
 ·exact h c g
 ·rw [List.mem_singleton.1 g];exact hn
noncomputable def rarE (r:Rgn) (ws:List Int) (cs:List (List Int)):Int :=
 if rgErr r≠0 then rgErr r else if nodErr r.Points.length r.K (-1) ws≠0 then nodErr r.Points.length r.K (-1) ws else if (cs.length:Int)≠r.K then 3 else fstE r.F (rgA r) cs
open Classical in
noncomputable def recE (r:Rgn) (ws:List Int) (cs:List (List Int)):Int:=if rarE r ws cs≠0 then rarE r ws cs else if mtch r ws cs (recL r ws cs) then 0 else 10
open Classical in
noncomputable def recV (r:Rgn) (ws:List Int) (cs:List (List Int)):List Int:=if recE r ws cs=0 then recL r ws cs else []
theorem rarE_1 {r:Rgn} {ws:List Int} {cs:List (List Int)} (h:rgErr r≠0):rarE r ws cs=rgErr r:=i_P h
theorem rarE_n {r:Rgn} {ws:List Int} {cs:List (List Int)} (h:rgErr r=0) (h2:nodErr r.Points.length r.K (-1) ws≠0):rarE r ws cs=nodErr r.Points.length r.K (-1) ws:=by unfold rarE;rw [i_N (fun hn=>hn h),i_P h2]
theorem rarE_3 {r:Rgn} {ws:List Int} {cs:List (List Int)} (h:rgErr r=0) (h2:nodErr r.Points.length r.K (-1) ws=0) (h3:(cs.length:Int)≠r.K):rarE r ws cs=3:=by unfold rarE;rw [i_N (fun hn=>hn h),i_N (fun hn=>hn h2),i_P h3]
theorem rarE_f {r:Rgn} {ws:List Int} {cs:List (List Int)} (h:rgErr r=0) (h2:nodErr r.Points.length r.K (-1) ws=0) (h3:(cs.length:Int)=r.K):rarE r ws cs=fstE r.F (rgA r) cs:=by unfold rarE;rw [i_N (fun hn=>hn h),i_N (fun hn=>hn h2),i_N (fun hn=>hn h3)]
theorem rarE_zero {r:Rgn} {ws:List Int} {cs:List (List Int)} (h:rarE r ws cs=0):rgErr r=0/\nodErr r.Points.length r.K (-1) ws=0/\(cs.length:Int)=r.K/\fstE r.F (rgA r) cs=0:=by
 by_cases h1:rgErr r=0
 ·by_cases h2:nodErr r.Points.length r.K (-1) ws=0
  ·by_cases h3:(cs.length:Int)=r.K
   ·rw [rarE_f h1 h2 h3] at h
    exact ⟨h1,h2,h3,h⟩
   ·rw [rarE_3 h1 h2 h3] at h;cases h
  ·rw [rarE_n h1 h2] at h;exact absurd h h2
 ·rw [rarE_1 h1] at h;exact absurd h h1
theorem recE_a {r:Rgn} {ws:List Int} {cs:List (List Int)} (h:rarE r ws cs≠0):recE r ws cs=rarE r ws cs:=i_P h
theorem recE_0 {r:Rgn} {ws:List Int} {cs:List (List Int)} (h:rarE r ws cs=0) (h2:mtch r ws cs (recL r ws cs)):recE r ws cs=0:=by unfold recE;rw [i_N (fun hn=>hn h),i_P h2]
theorem recE_10 {r:Rgn} {ws:List Int} {cs:List (List Int)} (h:rarE r ws cs=0) (h2:¬mtch r ws cs (recL r ws cs)):recE r ws cs=10:=by unfold recE;rw [i_N (fun hn=>hn h),i_N h2]
theorem recV_0 {r:Rgn} {ws:List Int} {cs:List (List Int)} (h:recE r ws cs=0):recV r ws cs=recL r ws cs:=i_P h
theorem E_g {r:Rgn} {ws:List Int} {cs:List (List Int)} (h:recE r ws cs≠0):recV r ws cs = []:=i_N h
structure RecF (r:Rgn) (ws:List Int) (cs:List (List Int)):Prop where
 R:RgOk r
 N:NdF r ws
 nd:ws.Nodup
 cl:(cs.length:Int)=r.K
 cg:good r.F (rgA r).toNat cs
 a0:1<=rgA r
 kk:r.Kind=0\/r.Kind=1
theorem rec_facts {r:Rgn} {ws:List Int} {cs:List (List Int)} (h:rarE r ws cs=0):RecF r ws cs:=by
 obtain ⟨h1,h2,h3,h4⟩:=rarE_zero h
 have R:=C_y.1 h1
 have hb:=F_K R
 have E:=B_8 R (l:=List.replicate (rgB r).toNat 0) (by rw [l_R];omega)
 have ha:=E.a
 refine ⟨R,nd_facts R h2,(F_P h2).2.2,h3,fun c hc=>?_,ha.1,E.kk⟩
 have:=E_t.1 h4 c hc
 have hl:=G_H this
 exact ⟨by omega,lenErr_out this⟩
section
variable {r : Rgn} {ws : List Int} {cs : List (List Int)} (Q : RecF r ws cs)
include Q
theorem rec_cgD (h:r.Kind=0):good r.F r.D.toNat cs:=by
 have:=Q.cg
 rwa [show rgA r=r.D by unfold rgA;rw [i_P h]] at this
theorem rec_len:((recL r ws cs).length:Int)=rgB r/\¬outF r.F (recL r ws cs):=by
 have hr:=Q.R.rng
 unfold rgBad at hr
 rcases Q.kk with h | h
 ·have hcg:=rec_cgD Q h
  have hS:=bwS_ok Q.R h Q.N Q.cl hcg
  have hT:=bwT_ok Q.R h Q.N Q.cl hcg
  have e:recL r ws cs=triL (bwS r (pickL r.Points ws) cs).rows r.K.toNat++rowL (bwT r (pickL r.Points ws) cs).rows r.K.toNat:=by
   unfold recL recM
   rw [i_N (by omega)]
   exact fil_bwM h (by omega) (by omega) hS.2.2.1 hS.2.1
  rw [e]
  have l1:=triL_len (n:=r.K) (by omega) (by omega) hS.2.2.1
  have l2:=rowL_len (n:=r.K) (w:=r.D-r.K) (by omega) (by omega) (by omega) hS.2.2.2
  refine ⟨?_,E_F (triL_out (by omega) (by omega) hS.2.2.1) (rowL_out (by omega) (by omega) hS.2.2.2)⟩
  rw [l_A,rgB_0 h (by omega)]
  unfold bI
  omega
 ·have hM:=stM_ok Q.R h Q.N Q.cl Q.cg
  have ha:=Q.a0
  have e:recL r ws cs=triL (midV r.F (rgA r) (pickL r.Points ws) (stP r (pickL r.Points ws) cs)) (rgA r).toNat++triL (midV r.F (rgA r) (pickL r.Points ws) (stQ r (pickL r.Points ws) cs)) (rgA r).toNat:=by
   unfold recL recM
   rw [i_P h]
   exact fil_stM h hM.1
  rw [e]
  have l1:=triL_len (n:=rgA r) (by omega) (by omega) hM.2.2.1
  have l2:=triL_len (n:=rgA r) (by omega) (by omega) hM.2.2.2
  refine ⟨?_,E_F (triL_out (by omega) (by omega) hM.2.2.1) (triL_out (by omega) (by omega) hM.2.2.2)⟩
  rw [l_A,rgB_1 h (by omega)]
  omega
theorem rec_right {l:List Int} (hl:(l.length:Int)=rgB r) (hlo:¬outF r.F l) (hm:mtch r ws cs l):recL r ws cs=l:=by
 have E:=B_8 Q.R hl
 have hr:=Q.R.rng
 unfold rgBad at hr
 have hcs:∀t:Int,0<=t->t<r.K->ix [] cs t=ix [] (encW r l) (ix 0 ws t):=fun t t0 t1=>(hm t t0 t1).symm
 rcases Q.kk with h | h
 ·have hcg:=rec_cgD Q h
  have k0:=E.k0 h
  have hS:=bwS_ok Q.R h Q.N Q.cl hcg
  unfold recL recM
  rw [i_N (by omega),fil_bwM h (by omega) (by omega) hS.2.2.1 hS.2.1,bw_S Q.R h Q.N Q.cl hcg E hlo hcs,bw_T Q.R h Q.N Q.cl hcg E hlo hcs,triL_sym (by omega) k0.2.2.2,rowL_t (by omega) (by omega) k0.2.2.1,List.take_append_drop]
 ·have k1:=E.k1 h
  unfold recL recM
  have lS:(msS r l).length=(rgA r).toNat:=A_v _ _ _
  rw [i_P h,st_right Q.R h Q.N Q.cl Q.cg E hlo hcs Q.nd,fil_stM h lS]
  have e1:=triL_sym (l:=l) (n:=rgA r) (by omega) (by omega)
  have e2:=triL_sym (l:=l.drop (tri (rgA r) (rgA r).toNat).toNat) (n:=rgA r) (by omega) (by rw [l_D];omega)
  show triL (msS r l) _++triL (msT r l) _=l
  unfold msS msT
  rw [e1,e2,t_L (l:=l.drop _) (by rw [l_D];omega),List.take_append_drop]
end
end Go.Cw
namespace Go.Cw
theorem flo_two (g:Int->List Int):flo g 2=g 0++g 1:=by
 show ([]++g ((0:Nat):Int))++g ((1:Nat):Int)=_
 rw [List.nil_append];rfl
theorem filR_1 {r:Rgn} {M:List (List Int)} (h:r.Kind=1):filR r M=flo (fun p=>triL (ix [] [M.take (rgA r).toNat,M.drop (rgA r).toNat] p) (rgA r).toNat) 2:=by
 rw [flo_two]
 unfold filR
 rw [i_P h];rfl
theorem filR_0 {r:Rgn} {M:List (List Int)} (h:r.Kind≠1):filR r M=flo (fun i=>((ix [] M i).take r.K.toNat).drop i.toNat) r.K.toNat++flo (fun i=>(ix [] M i).drop r.K.toNat) r.K.toNat:=i_N h
theorem G_0 (pre:List Int) (g:Int->List Int) {i:Int} (i0:0<=i):pre++flo g (i+1).toNat=(pre++flo g i.toNat)++g i:=by rw [D_Z g i0,List.append_assoc]
end Go.Cw
namespace Go.Cw
theorem pp_len {M:List (List Int)} {a i:Int} (a0:0<=a) (hl:(M.length:Int)=2*a) (hw:∀i:Int,0<=i->i<M.length->((ix [] M i).length:Int)=a) (i0:0<=i) (i1:i<2) :
  ((ix [] [M.take a.toNat,M.drop a.toNat] i).length:Int)=a/\∀j:Int,0<=j->j<a->((ix [] (ix [] [M.take a.toNat,M.drop a.toNat] i) j).length:Int)=a:=by
 have h:i=0\/i=1:=by omega
 rcases h with rfl | rfl
 ·refine ⟨by show ((M.take a.toNat).length:Int)=a;rw [List.length_take];omega,fun j j0 j1=>?_⟩
  have e:ix [] (ix [] [M.take a.toNat,M.drop a.toNat] 0) j=ix [] M j:=by
   show ix [] (M.take a.toNat) j=_
   simp only [ix,List.getD]
   rw [List.getElem?_take,i_P (by omega)]
  rw [e];exact hw j j0 (by omega)
 ·refine ⟨by show ((M.drop a.toNat).length:Int)=a;rw [l_D];omega,fun j j0 j1=>?_⟩
  have e:ix [] (ix [] [M.take a.toNat,M.drop a.toNat] 1) j=ix [] M (a+j):=by
   show ix [] (M.drop a.toNat) j=_
   simp only [ix,List.getD]
   rw [g_D];congr 2;omega
  rw [e];exact hw (a+j) (by omega) (by omega)
end Go.Cw
namespace Go.Cw
theorem G_b {g:Int->List Int} {w:Nat}:∀ {n:Nat},(∀i:Int,0<=i->i<n->(g i).length<=w)->(flo g n).length<=n*w
 | 0,_=>Nat.zero_le _
 | n+1,h=>by
  have h1:=G_b (g:=g) (w:=w) (n:=n) fun i i0 i1=>h i i0 (by omega)
  have h2:=h n (by omega) (by omega)
  show (flo g n++g n).length<=(n+1)*w
  rw [l_A,Nat.add_mul];omega
theorem flo_le1 {M:List (List Int)} {a i:Int} (a0:0<=a) (a1:a<=64) (hl:(M.length:Int)=2*a) (hw:∀i:Int,0<=i->i<M.length->((ix [] M i).length:Int)=a) (i0:0<=i) (i1:i<=2) :
  (flo (fun p=>triL (ix [] [M.take a.toNat,M.drop a.toNat] p) a.toNat) i.toNat).length<=10000:=by
 have:=G_b (g:=fun p=>triL (ix [] [M.take a.toNat,M.drop a.toNat] p) a.toNat) (w:=4096) (n:=i.toNat) fun p p0 p1=>by
  have h1:=G_b (g:=fun u=>(ix [] (ix [] [M.take a.toNat,M.drop a.toNat] p) u).drop u.toNat) (w:=64) (n:=a.toNat) fun u u0 u1=>by
   have:=(pp_len a0 hl hw p0 (by omega)).2 u u0 (by omega)
   rw [l_D];omega
  show (flo _ _).length<=4096
  omega
 omega
theorem flo_le2 {M:List (List Int)} {a i j:Int} (a0:0<=a) (a1:a<=64) (hl:(M.length:Int)=2*a) (hw:∀i:Int,0<=i->i<M.length->((ix [] M i).length:Int)=a) (i0:0<=i) (i1:i<2) (j0:0<=j) (j1:j<=a) :
  (flo (fun u=>(ix [] (ix [] [M.take a.toNat,M.drop a.toNat] i) u).drop u.toNat) j.toNat).length<=4096:=by
 have h1:=G_b (g:=fun u=>(ix [] (ix [] [M.take a.toNat,M.drop a.toNat] i) u).drop u.toNat) (w:=64) (n:=j.toNat) fun u u0 u1=>by
  have:=(pp_len a0 hl hw i0 i1).2 u u0 (by omega)
  rw [l_D];omega
 omega
theorem flo_le3 {M:List (List Int)} {K a i:Int} (a1:a<=64) (hl:K<=M.length) (hw:∀i:Int,0<=i->i<M.length->((ix [] M i).length:Int)=a) (i1:i<=K) (k1:K<=64) :
  (flo (fun u=>((ix [] M u).take K.toNat).drop u.toNat) i.toNat).length<=4096/\(flo (fun u=>(ix [] M u).drop K.toNat) i.toNat).length<=4096:=by
 have h1:=G_b (g:=fun u=>((ix [] M u).take K.toNat).drop u.toNat) (w:=64) (n:=i.toNat) fun u u0 u1=>by
  have:=hw u u0 (by omega)
  rw [l_D,List.length_take];omega
 have h2:=G_b (g:=fun u=>(ix [] M u).drop K.toNat) (w:=64) (n:=i.toNat) fun u u0 u1=>by
  have:=hw u u0 (by omega)
  rw [l_D];omega
 omega
end Go.Cw
namespace Go.Cw
def stX (g:Int->Int->Int) (i j p q:Int):Int:=if p≠q/\(p<i\/(p=i/\q<j)) then g p q else 0
theorem stX_zero (R:Int) (g:Int->Int->Int):mkM R R (fun _ _=>0)=mkM R R (stX g 0 0) :=
 C_U fun p q p0 p1 q0 q1=>by unfold stX;rw [i_N (by omega)]
theorem stX_row (R:Int) (g:Int->Int->Int) (i:Int):mkM R R (stX g i R)=mkM R R (stX g (i+1) 0) :=
 C_U fun p q p0 p1 q0 q1=>by
  unfold stX
  by_cases h:p≠q/\(p<i\/(p=i/\q<R))
  ·rw [i_P h,i_P (by omega)]
  ·rw [i_N h,i_N (by omega)]
theorem stX_same (R:Int) (g:Int->Int->Int) {i j:Int} (e:j=i):mkM R R (stX g i j)=mkM R R (stX g i (j+1)) :=
 C_U fun p q p0 p1 q0 q1=>by
  unfold stX
  by_cases h:p≠q/\(p<i\/(p=i/\q<j))
  ·rw [i_P h,i_P (by omega)]
  ·rw [i_N h,i_N (by omega)]
theorem stX_step {R:Int} (g:Int->Int->Int) {i j x:Int} (i0:0<=i) (i1:i<R) (j0:0<=j) (j1:j<R) (hne:i≠j) (hx:x=g i j) :
  (mkM R R (stX g i j)).set i.toNat ((ix [] (mkM R R (stX g i j)) i).set j.toNat x)=mkM R R (stX g i (j+1)):=by
 rw [mkM_set _ x i0 i1 j0 j1]
 refine C_U fun p q p0 p1 q0 q1=>?_
 by_cases ha:p=i/\q=j
 ·rw [i_P ha,hx]
  unfold stX
  rw [i_P (by omega),ha.1,ha.2]
 ·rw [i_N ha]
  unfold stX
  by_cases h:p≠q/\(p<i\/(p=i/\q<j))
  ·rw [i_P h,i_P (by omega)]
  ·rw [i_N h,i_N (by omega)]
theorem stX_all (R:Int) (g:Int->Int->Int):mkM R R (stX g R 0)=mkM R R (fun i j=>if i=j then 0 else g i j) :=
 C_U fun p q p0 p1 q0 q1=>by
  unfold stX
  by_cases h:p=q
  ·rw [i_P h,i_N (by omega)]
  ·rw [i_N h,i_P (by omega)]
theorem stX_read {R:Int} (g:Int->Int->Int) {i j:Int} (i0:0<=i) (i1:i<R) (j0:0<=j) (j1:j<R) (hne:i≠j):ix 0 (ix [] (mkM R R (stX g i (j+1))) i) j=g i j:=by
 rw [C_o _ i0 i1 j0 j1]
 unfold stX
 rw [i_P (by omega)]
structure StF (r:Rgn) (ws:List Int) (cs:List (List Int)):Prop where
 a:rgA r=r.K-1
 k:2<=r.K/\r.K<=32/\r.K-1<=r.F.q-1
 l:(pickL r.Points ws).length=r.K.toNat
 l1:((pickL r.Points ws).length:Int)=r.K-1+1
 k1:1<=r.K-1
 k2:r.K-1<=200
 v:mErr r.F ⟨r.K-1,vdm r.F (pickL r.Points ws) (r.K-1)⟩=0
 c:mulE r.F ⟨r.K-1,cs⟩ (turM r.F ⟨r.K-1,vdm r.F (pickL r.Points ws) (r.K-1)⟩)=0
 ce:(mulV r.F ⟨r.K-1,cs⟩ (turM r.F ⟨r.K-1,vdm r.F (pickL r.Points ws) (r.K-1)⟩)).rows=stC r (pickL r.Points ws) cs
 cl:((stC r (pickL r.Points ws) cs).length:Int)=r.K
 cg:∀i:Int,0<=i->i<r.K->((ix [] (stC r (pickL r.Points ws) cs) i).length:Int)=r.K
 pl:((stP r (pickL r.Points ws) cs).length:Int)=r.K-1+1
 pg:good r.F (r.K-1+1).toNat (stP r (pickL r.Points ws) cs)
 ql:((stQ r (pickL r.Points ws) cs).length:Int)=r.K-1+1
 qg:good r.F (r.K-1+1).toNat (stQ r (pickL r.Points ws) cs)
 m1:((midV r.F (r.K-1) (pickL r.Points ws) (stP r (pickL r.Points ws) cs)).length:Int)=r.K-1
 m2:((midV r.F (r.K-1) (pickL r.Points ws) (stQ r (pickL r.Points ws) cs)).length:Int)=r.K-1
 ne:∀i j:Int,0<=i->i<r.K->0<=j->j<r.K->i≠j->inF r.F (addF r.F (powF r.F (ix 0 (pickL r.Points ws) i) (r.K-1)) (negF r.F (powF r.F (ix 0 (pickL r.Points ws) j) (r.K-1))))≠0
theorem st_facts {r:Rgn} {ws:List Int} {cs:List (List Int)} (Q:RecF r ws cs) (h:r.Kind=1):StF r ws cs:=by
 have kd:=st_kd Q.R h Q.N Q.cl Q.cg
 have hC:=stC_ok Q.R h Q.N Q.cl Q.cg
 have hP:=stPQ_ok Q.R h Q.N Q.cl Q.cg
 have hS:=Q.R.fld.1
 have hxl:=Q.N.xl
 have ha:rgA r=r.K-1:=kd.1
 have hV:mErr r.F ⟨r.K-1,vdm r.F (pickL r.Points ws) (r.K-1)⟩=0:=E_L Q.R.fld (by omega) (by omega) (by omega)
 have hM:=stM_ok Q.R h Q.N Q.cl Q.cg
 rw [ha] at hP hC hM
 refine ⟨ha,by omega,by omega,by omega,by omega,by omega,hV,hC.1,by unfold stC;rw [ha],hC.2.1,fun i i0 i1=>?_,hP.1,hP.2.1,hP.2.2.1,hP.2.2.2,by omega,by omega,fun i j i0 i1 j0 j1 hne e=>?_⟩
 ·have:=(hC.2.2 _ (B_Z (l:=stC r (pickL r.Points ws) cs) (i:=i) i0)).1
  omega
 ·have h1:=stL_ne Q.R h Q.N Q.cl Q.cg Q.nd i0 i1 j0 j1 hne
  have r1:=F_k Q.R.fld (ix 0 (pickL r.Points ws) i) (r.K-1)
  have r2:=F_k Q.R.fld (ix 0 (pickL r.Points ws) j) (r.K-1)
  unfold stL at h1
  rw [ha] at h1
  have r3:=hS.addF_lt (powF r.F (ix 0 (pickL r.Points ws) i) (r.K-1)) (negF r.F (powF r.F (ix 0 (pickL r.Points ws) j) (r.K-1)))
  rw [D_N r3.1 r3.2] at e
  have h2:=congrArg (ke Q.R.fld) e
  rw [G_a,F_A,B_m] at h2
  have h3:=congrArg (fun t=>t+ke Q.R.fld (powF r.F (ix 0 (pickL r.Points ws) j) (r.K-1))) h2
  simp only [Fi.zero_add] at h3
  rw [Fi.add_assoc,Fi.neg_add,Fi.add_zero] at h3
  exact h1 (E_H Q.R.fld r1.1 r1.2 r2.1 r2.2 h3)
theorem stQe_eq {r:Rgn} {xs:List Int} {cs:List (List Int)} (ha:rgA r=r.K-1) (i j:Int) :
  mulF r.F (addF r.F (ix 0 (ix [] (stC r xs cs) i) j) (negF r.F (ix 0 (ix [] (stC r xs cs) j) i))) (invF r.F (addF r.F (powF r.F (ix 0 xs i) (r.K-1)) (negF r.F (powF r.F (ix 0 xs j) (r.K-1)))))=stQe r xs cs i j:=by
 unfold stQe stL;rw [ha]
theorem stPe_eq {r:Rgn} {xs:List Int} {cs:List (List Int)} (ha:rgA r=r.K-1) (i j:Int) :
  addF r.F (ix 0 (ix [] (stC r xs cs) i) j) (negF r.F (mulF r.F (powF r.F (ix 0 xs i) (r.K-1)) (stQe r xs cs i j)))=stPe r xs cs i j:=by
 unfold stPe stL;rw [ha]
end Go.Cw
namespace Go.Cw
def zM (r:Rgn):List (List Int):=mkM r.D r.D (fun _ _=>0)
theorem E_n (r:Rgn):(zM r).length=r.D.toNat:=A_v _ _ _
theorem ix_zM {r:Rgn} {i:Int} (i0:0<=i) (i1:i<r.D):ix [] (zM r) i=List.replicate r.D.toNat 0:=by
 unfold zM
 rw [<- mkM_zero]
 simp only [ix,List.getD]
 rw [List.getElem?_replicate,i_P (by omega)];rfl
def bwX (r:Rgn) (S T:List (List Int)) (i:Int):List (List Int):=mixG (bwM r S T) (zM r) i
theorem E_2 {r:Rgn} {S T:List (List Int)} {i:Int} (i0:0<=i) (i1:i<=r.D):(bwX r S T i).length=r.D.toNat:=by
 unfold bwX
 rw [D_D _ _ (by rw [B_l,E_n]) i0 (by rw [B_l];omega),B_l]
theorem ix_bwX {r:Rgn} {S T:List (List Int)} {i:Int} (i0:0<=i) (i1:i<r.D):ix [] (bwX r S T i) i=List.replicate r.D.toNat 0:=by
 unfold bwX
 rw [ix_mixG [] _ _ i0 (by rw [B_l];omega) (by rw [B_l,E_n]),ix_zM i0 i1]
theorem bwX_set {r:Rgn} {S T:List (List Int)} {i:Int} (i0:0<=i) (i1:i<r.K) (hK:r.K<=r.D):(bwX r S T i).set i.toNat (ix [] S i++ix [] T i)=bwX r S T (i+1):=by
 unfold bwX
 rw [F_s [] _ _ i0 (by rw [B_l];omega) (by rw [B_l,E_n]),ix_bwM i0 i1 hK]
theorem bwX_all {r:Rgn} (S T:List (List Int)) (hK0:0<=r.K) (hK:r.K<=r.D):bwX r S T r.K=bwM r S T:=by
 unfold bwX
 refine D_O [] (by rw [D_D _ _ (by rw [B_l,E_n]) hK0 (by rw [B_l];omega)]) fun j j0 j1=>?_
 rw [D_D _ _ (by rw [B_l,E_n]) hK0 (by rw [B_l];omega),B_l] at j1
 by_cases h:j<r.K
 ·have e:ix [] (mixG (bwM r S T) (zM r) r.K) j=ix [] (bwM r S T) j:=by
   unfold mixG
   simp only [ix,List.getD]
   rw [List.getElem?_append_left (by rw [List.length_take,B_l];omega),List.getElem?_take,i_P (by omega)]
  exact e
 ·have e:ix [] (mixG (bwM r S T) (zM r) r.K) j=ix [] (zM r) j:=by
   unfold mixG
   simp only [ix,List.getD]
   rw [List.getElem?_append_right (by rw [List.length_take,B_l];omega),List.length_take,B_l,g_D]
   congr 2;omega
  rw [e,ix_zM j0 (by omega)]
  unfold bwM
  rw [B_d [] _ j0 (by omega),i_N h]
theorem bwX_one {r:Rgn} {S T:List (List Int)} {i:Int} (i0:0<=i) (i1:i<r.K) (hK:r.K=r.D) (lS:((ix [] S i).length:Int)=r.K) (lT:((ix [] T i).length:Int)=r.D-r.K) :
  (bwX r S T i).set i.toNat ((List.take 0 (ix [] (bwX r S T i) i)++ix [] S i)++List.drop (0+(ix [] S i).length) (ix [] (bwX r S T i) i))=bwX r S T (i+1):=by
 rw [<- bwX_set i0 i1 (by omega),ix_bwX i0 (by omega)]
 have e1:ix [] T i = []:=List.eq_nil_of_length_eq_zero (by omega)
 rw [e1,List.take_zero,List.nil_append,List.drop_eq_nil_of_le (by rw [l_R];omega)]
theorem bwX_two {r:Rgn} {S T:List (List Int)} {i:Int} {R1 R2:List Int} (i0:0<=i) (i1:i<r.K) (hK:r.K<=r.D) (lS:((ix [] S i).length:Int)=r.K) (lT:((ix [] T i).length:Int)=r.D-r.K)
  (h1:R1=(List.take 0 (ix [] (bwX r S T i) i)++ix [] S i)++List.drop (0+(ix [] S i).length) (ix [] (bwX r S T i) i))
  (h2:R2=ix [] ((bwX r S T i).set i.toNat R1) i) :
  ((bwX r S T i).set i.toNat R1).set i.toNat ((List.take r.K.toNat R2++ix [] T i)++List.drop (r.K.toNat+(ix [] T i).length) R2)=bwX r S T (i+1):=by
 rw [D_q [] _ _ i0 (by rw [E_2 i0 (by omega)];omega) i0,i_P rfl] at h2
 rw [ix_bwX i0 (by omega),List.take_zero,List.nil_append] at h1
 rw [h2,h1,List.set_set,<- bwX_set i0 i1 hK]
 congr 1
 rw [List.take_left' (by omega),List.drop_eq_nil_of_le (by simp only [l_A,l_D,l_R];omega),List.append_nil]
theorem bwX_len1 {r:Rgn} {S T:List (List Int)} {i:Int} {X:List Int} (i0:0<=i) (i1:i<r.D):(ix [] ((bwX r S T i).set i.toNat X) i).length=X.length:=by
 rw [D_q [] _ _ i0 (by rw [E_2 i0 (by omega)];omega) i0,i_P rfl]
structure BwF (r:Rgn) (ws:List Int) (cs:List (List Int)):Prop where
 k:1<=r.K/\r.K<=r.D/\r.D<=63
 l:((pickL r.Points ws).length:Int)=r.K
 hpv:prtL (vdm r.F (pickL r.Points ws) r.D) 0 r.K=vdm r.F (pickL r.Points ws) r.K
 vl:∀i:Int,0<=i->i<r.K->((ix [] (vdm r.F (pickL r.Points ws) r.D) i).length:Int)=r.D
 cl:∀i:Int,0<=i->i<r.K->((ix [] cs i).length:Int)=r.D
 e1:mulE r.F (bwI r (pickL r.Points ws)) ⟨r.D-r.K,prtL cs r.K r.D⟩=0
 e2:r.K<r.D->mulE r.F ⟨r.D-r.K,prtL (vdm r.F (pickL r.Points ws) r.D) r.K r.D⟩ (turM r.F (bwT r (pickL r.Points ws) cs))=0
 e3:mulE r.F (bwI r (pickL r.Points ws)) ⟨r.K,bwC r (pickL r.Points ws) cs⟩=0
 pl:r.K<r.D->((bwP r (pickL r.Points ws) cs).rows.length:Int)=r.K
 pr:r.K<r.D->∀i:Int,0<=i->i<r.K->((ix [] (bwP r (pickL r.Points ws) cs).rows i).length:Int)=r.K
 sl:((bwS r (pickL r.Points ws) cs).rows.length:Int)=r.K
 sr:∀i:Int,0<=i->i<r.K->((ix [] (bwS r (pickL r.Points ws) cs).rows i).length:Int)=r.K
 tl:((bwT r (pickL r.Points ws) cs).rows.length:Int)=r.K
 tr:∀i:Int,0<=i->i<r.K->((ix [] (bwT r (pickL r.Points ws) cs).rows i).length:Int)=r.D-r.K
 c1:r.K<r.D->bwC r (pickL r.Points ws) cs=mkM r.K r.K (fun i j=>addF r.F (ix 0 (ix [] cs i) j) (negF r.F (ix 0 (ix [] (bwP r (pickL r.Points ws) cs).rows i) j)))
 c0:¬r.K<r.D->bwC r (pickL r.Points ws) cs=prtL cs 0 r.K
theorem bw_facts {r:Rgn} {ws:List Int} {cs:List (List Int)} (Q:RecF r ws cs) (h:r.Kind=0):BwF r ws cs:=by
 have hcg:=rec_cgD Q h
 have kd:=bw_kd Q.R h Q.N Q.cl hcg
 have hT:=bwT_ok Q.R h Q.N Q.cl hcg
 have hS:=bwS_ok Q.R h Q.N Q.cl hcg
 have hP:=fun hlt=>bwP_ok Q.R h Q.N Q.cl hcg hlt
 have hxl:=Q.N.xl
 have hcl:=Q.cl
 have hrow:∀ {n:Nat} {X:List (List Int)},good r.F n X->(X.length:Int)=r.K->∀i:Int,0<=i->i<r.K->(ix [] X i).length=n:=fun hg hl i i0 i1=>(hg _ (B_Z i0)).1
 refine ⟨by omega,hxl,prt_vdm _ _ (by omega) (by omega),fun i i0 i1=>?_,fun i i0 i1=>?_,hT.1,fun hlt=>(hP hlt).1,hS.1,fun hlt=>(hP hlt).2.2.1,fun hlt i i0 i1=>?_,hS.2.1,fun i i0 i1=>?_,hT.2.2.1,fun i i0 i1=>?_,fun hlt=>i_P hlt,fun hlt=>i_N hlt⟩
 ·have:=hrow (E_z Q.R.fld (pickL r.Points ws) r.D) (by rw [A_7];exact hxl) i i0 i1;omega
 ·have:=hrow hcg Q.cl i i0 i1;omega
 ·have:=hrow (hP hlt).2.2.2 (hP hlt).2.2.1 i i0 i1;omega
 ·have:=hrow hS.2.2.1 hS.2.1 i i0 i1;omega
 ·have:=hrow hS.2.2.2 hT.2.2.1 i i0 i1;omega
end Go.Cw
namespace Go.Cw
theorem recM_len {r:Rgn} {ws:List Int} {cs:List (List Int)} (Q:RecF r ws cs):((recM r (pickL r.Points ws) cs).length:Int)=r.D/\∀i:Int,0<=i->i<(recM r (pickL r.Points ws) cs).length->((ix [] (recM r (pickL r.Points ws) cs) i).length:Int)=rgA r:=by
 have hr:=Q.R.rng
 unfold rgBad at hr
 rcases Q.kk with h | h
 ·have hcg:=rec_cgD Q h
  have hS:=bwS_ok Q.R h Q.N Q.cl hcg
  have hT:=bwT_ok Q.R h Q.N Q.cl hcg
  have e:recM r (pickL r.Points ws) cs=bwM r (bwS r (pickL r.Points ws) cs).rows (bwT r (pickL r.Points ws) cs).rows:=i_N (by omega)
  have ha:rgA r=r.D:=by unfold rgA;rw [i_P h]
  rw [e,B_l]
  refine ⟨by omega,fun i i0 i1=>?_⟩
  rw [ha]
  exact wid_bwM (by omega) (by omega) hS.2.2.1 hS.2.2.2 hS.2.1 hT.2.2.1 _ (B_Z i0 (by rw [B_l];omega))
 ·have hM:=stM_ok Q.R h Q.N Q.cl Q.cg
  have kd:=st_kd Q.R h Q.N Q.cl Q.cg
  have e:recM r (pickL r.Points ws) cs=Cw.stM r (pickL r.Points ws) cs:=i_P h
  have hg:good r.F (rgA r).toNat (Cw.stM r (pickL r.Points ws) cs):=fun l hl=>by
   unfold Cw.stM at hl
   rcases List.mem_append.1 hl with g | g
   ·exact hM.2.2.1 l g
   ·exact hM.2.2.2 l g
  rw [e]
  have hl:(Cw.stM r (pickL r.Points ws) cs).length=(rgA r).toNat+(rgA r).toNat:=by unfold Cw.stM;rw [l_A,hM.1,hM.2.1]
  refine ⟨by omega,fun i i0 i1=>?_⟩
  have:=(hg _ (B_Z (l:=Cw.stM r (pickL r.Points ws) cs) i0 i1)).1
  omega
theorem rec_enc {r:Rgn} {ws:List Int} {cs:List (List Int)} (Q:RecF r ws cs):encErr r (recL r ws cs)=0:=by
 have h:=rec_len Q
 rw [encErr_l (C_y.2 Q.R)]
 unfold lenErr
 rw [i_N (by omega)]
 exact C_g.2 h.2
theorem mtch_no {r:Rgn} {ws:List Int} {cs:List (List Int)} {l:List Int} {i:Int} (i0:0<=i) (i1:i<r.K) (h:ix [] (encW r l) (ix 0 ws i)≠ix [] cs i):¬mtch r ws cs l:=fun hm=>h (hm i i0 i1)
end Go.Cw
namespace Go.Cw
end Go.Cw
namespace Go.Cw
def unI (b c:Int):List Int:=(List.replicate b.toNat 0).set c.toNat 1
@[simp] theorem D_d (b c:Int):(unI b c).length=b.toNat:=by unfold unI;rw [l_S,l_R]
theorem ix_unI {b c k:Int} (c0:0<=c) (c1:c<b) (k0:0<=k):ix 0 (unI b c) k=if k=c then 1 else 0:=by
 unfold unI
 rw [D_q 0 _ _ c0 (by rw [l_R];omega) k0,C_6]
theorem unI_out {f:Fld} (hS:Shape f) (b c:Int):¬outF f (unI b c):=by
 have hb:=hS.bd
 unfold unI
 exact E_1 (D_k hS _) (by omega) (by omega) _
section
variable {r : Rgn} (R : RgOk r)
include R
theorem msg_units {l:List Int} (hl:(l.length:Int)=rgB r) {p j:Int} (p0:0<=p) (p1:p<r.D) (j0:0<=j) (j1:j<rgA r) :
  ke R.fld (ix 0 (ix [] (msgR r l) p) j)=La.sm (fun c=>ke R.fld (ix 0 l (c:Nat))*ke R.fld (ix 0 (ix [] (msgR r (unI (rgB r) (c:Nat))) p) j)) (rgB r).toNat:=by
 have E:=B_8 R hl
 have hd:=E.d;have ha:=E.a
 rcases msg_ent r E.kk (by omega) (by omega) (fun h=>(E.k1 h).2.1) (fun h=>(E.k0 h).2.1) p j p0 p1 j0 j1 with e | ⟨k,k0,e⟩
 ·rw [e,B_m]
  refine (La.sm_zero fun c _=>?_).symm
  rw [e,B_m,Fi.mul_zero]
 ·rw [e]
  by_cases hk:k<rgB r
  ·rw [La.sm_one (k:=k.toNat) (by omega) (fun c hc hne=>?_)]
   ·rw [e,ix_unI (by omega) (by omega) k0,i_P (by omega),D_u,Fi.mul_one,show ((k.toNat:Nat):Int)=k by omega]
   ·rw [e,ix_unI (by omega) (by omega) k0,i_N (by omega),B_m,Fi.mul_zero]
  ·have h0:ix 0 l k=0:=by
    simp only [ix,List.getD]
    rw [List.getElem?_eq_none (by omega)];rfl
   rw [h0,B_m]
   refine (La.sm_zero fun c hc=>?_).symm
   rw [e,ix_unI (by omega) (by omega) k0,i_N (by omega),B_m,Fi.mul_zero]
theorem enc_units {l:List Int} (hl:(l.length:Int)=rgB r) (hlo:¬outF r.F l) {i j:Int} (i0:0<=i) (i1:i<r.Points.length) (j0:0<=j) (j1:j<rgA r) :
  ke R.fld (ix 0 (ix [] (encW r l) i) j)=La.sm (fun c=>ke R.fld (ix 0 l (c:Nat))*ke R.fld (ix 0 (ix [] (encW r (unI (rgB r) (c:Nat))) i) j)) (rgB r).toNat:=by
 have hb:=F_K R
 have E:=B_8 R hl
 have hd:=E.d
 have EU:∀c:Nat,EncF r (unI (rgB r) c):=fun c=>B_8 R (by rw [D_d];omega)
 rw [enc_ke R E hlo i0 i1 j0]
 rw [La.sm_congr (h:=fun p=>La.sm (fun c=>ke R.fld (powF r.F (ix 0 r.Points i) (p:Nat))*(ke R.fld (ix 0 l (c:Nat))*ke R.fld (ix 0 (ix [] (msgR r (unI (rgB r) (c:Nat))) (p:Nat)) j))) (rgB r).toNat) fun p hp=>by rw [msg_units R hl (by omega) (by omega) j0 j1,La.sm_mul],La.sm_swap]
 refine La.sm_congr fun c hc=>?_
 rw [enc_ke R (EU c) (unI_out R.fld.1 _ _) i0 i1 j0,<- La.sm_mul]
 refine La.sm_congr fun p hp=>?_
 ac_rfl
end
theorem flo_inj {g h:Int->List Int}:∀ {n:Nat},(∀t:Int,0<=t->t<n->(g t).length=(h t).length)->flo g n=flo h n->∀t:Int,0<=t->t<n->g t=h t
 | 0,_,_,t,t0,t1=>by omega
 | n+1,hl,e,t,t0,t1=>by
  have e':flo g n++g n=flo h n++h n:=e
  obtain ⟨e1,e2⟩:=List.append_inj' e' (hl n (by omega) (by omega))
  by_cases ht:t=n
  ·rw [ht];exact e2
  ·exact flo_inj (fun t t0 t1=>hl t t0 (by omega)) e1 t t0 (by omega)
theorem flo_wid {g:Int->List Int} {a:Int} (a0:0<=a):∀ {n:Nat},(∀t:Int,0<=t->t<n->((g t).length:Int)=a)->((flo g n).length:Int)=n*a
 | 0,_=>by simp [flo]
 | n+1,h=>by
  have h1:=flo_wid a0 (n:=n) fun t t0 t1=>h t t0 (by omega)
  have h2:=h n (by omega) (by omega)
  show ((flo g n++g n).length:Int)=_
  rw [l_A,show ((n+1:Nat):Int)=(n:Int)+1 by omega,Int.add_mul];omega
theorem flo_ix {g:Int->List Int} {a:Int} (a0:0<=a):∀ {n:Nat},(∀t:Int,0<=t->t<n->((g t).length:Int)=a)->∀t j:Int,0<=t->t<n->0<=j->j<a->ix 0 (flo g n) (t*a+j)=ix 0 (g t) j
 | 0,_,t,j,t0,t1,_,_=>by omega
 | n+1,h,t,j,t0,t1,j0,j1=>by
  have h1:=flo_wid a0 (n:=n) fun t t0 t1=>h t t0 (by omega)
  have hta:=Int.mul_nonneg t0 a0
  show ix 0 (flo g n++g n) (t*a+j)=_
  by_cases ht:t=n
  ·subst ht
   rw [G_K (by omega),h1]
   congr 1;omega
  ·have h2:(t+1)*a<=n*a:=Int.mul_le_mul_of_nonneg_right (by omega) a0
   rw [Int.add_mul] at h2
   rw [D_5 (by omega) (by omega)]
   exact flo_ix a0 (fun t t0 t1=>h t t0 (by omega)) t j t0 (by omega) j0 j1
noncomputable def colL (r:Rgn) (ws:List Int) (l:List Int):List Int:=flo (fun t=>ix [] (encW r l) (ix 0 ws t)) r.K.toNat
noncomputable def unsM (r:Rgn) (ws:List Int):List (List Int):=mapR (fun c=>colL r ws (unI (rgB r) c)) (rgB r)
noncomputable def eqsM (r:Rgn) (ws:List Int):List (List Int):=turnL (unsM r ws) (rgA r*r.K)
section
variable {r : Rgn} (R : RgOk r) {ws : List Int} (N : NdF r ws)
include R N
theorem colL_len {l:List Int} (hl:(l.length:Int)=rgB r) (hlo:¬outF r.F l):((colL r ws l).length:Int)=rgA r*r.K/\¬outF r.F (colL r ws l):=by
 have ha:=(B_8 R hl).a
 have hk:=(B_8 R hl).k
 have hrow:∀t:Int,0<=t->t<r.K->((ix [] (encW r l) (ix 0 ws t)).length:Int)=rgA r/\¬outF r.F (ix [] (encW r l) (ix 0 ws t)):=fun t t0 t1=>by
  have hw:=N.rng t t0 t1
  exact enc_row R hl hl hlo hw.1 hw.2
 refine ⟨?_,flo_out fun t t0 t1=>(hrow t t0 (by omega)).2⟩
 have:=flo_wid (g:=fun t=>ix [] (encW r l) (ix 0 ws t)) (a:=rgA r) (by omega) (n:=r.K.toNat) fun t t0 t1=>(hrow t t0 (by omega)).1
 unfold colL
 rw [this,show ((r.K.toNat:Nat):Int)=r.K by omega,Int.mul_comm]
theorem eqs_len:((eqsM r ws).length:Int)=rgA r*r.K/\good r.F (rgB r).toNat (eqsM r ws):=by
 have hb:=F_K R
 have hl:((unI (rgB r) 0).length:Int)=rgB r:=by rw [D_d];omega
 have E:=B_8 R hl
 have hm:=Int.mul_nonneg (show 0<=rgA r by have:=E.a;omega) (show 0<=r.K by have:=E.k;omega)
 refine ⟨by unfold eqsM;rw [B_X];omega,?_⟩
 unfold eqsM
 refine turn_good R.fld (fun c hc=>?_) (by unfold unsM;rw [A_x])
 unfold unsM at hc
 obtain ⟨k,k0,k1,rfl⟩:=D_K hc
 have:=colL_len R N (l:=unI (rgB r) k) (by rw [D_d];omega) (unI_out R.fld.1 _ _)
 exact ⟨by omega,this.2⟩
theorem G_1 {l:List Int} (hl:(l.length:Int)=rgB r) (hlo:¬outF r.F l):dots r.F (eqsM r ws) l=colL r ws l:=by
 have hb:=F_K R
 have E:=B_8 R hl
 have ha:=E.a;have hk:=E.k
 have hL:=colL_len R N hl hlo
 have hA:=eqs_len R N
 have hS:=R.fld.1
 refine D_O 0 (by rw [D_o];omega) fun q q0 q1=>?_
 rw [D_o] at q1
 have hq:q=q/rgA r*rgA r+q%rgA r:=by have:=Int.mul_ediv_add_emod q (rgA r);rw [Int.mul_comm];omega
 have t0:0<=q/rgA r:=Int.ediv_nonneg q0 (by omega)
 have j0:=Int.emod_nonneg q (show rgA r≠0 by omega)
 have j1:=Int.emod_lt_of_pos q (show 0<rgA r by omega)
 have t1:q/rgA r<r.K:=Int.ediv_lt_of_lt_mul (by omega) (by rw [Int.mul_comm];omega)
 have hw:=N.rng _ t0 t1
 have hcol:∀x:List Int,(x.length:Int)=rgB r->¬outF r.F x->ix 0 (colL r ws x) q=ix 0 (ix [] (encW r x) (ix 0 ws (q/rgA r))) (q%rgA r):=fun x hx hxo=>by
  have:=flo_ix (g:=fun t=>ix [] (encW r x) (ix 0 ws t)) (a:=rgA r) (by omega) (n:=r.K.toNat) (fun t t0 t1=>by
   have hw:=N.rng t t0 (by omega)
   exact (enc_row R hx hx hxo hw.1 hw.2).1) (q/rgA r) (q%rgA r) t0 (by omega) j0 j1
  rw [<- hq] at this
  exact this
 have r1:=G_f hS (ix [] (eqsM r ws) q) l
 have r2:=F_U hS hL.2 q
 rw [ix_dots q0 q1]
 refine E_H R.fld r1.1 r1.2 r2.1 r2.2 ?_
 have hg:=(hA.2 _ (B_Z (l:=eqsM r ws) (i:=q) q0 q1)).1
 rw [E_q R.fld _ _ (n:=(rgB r).toNat) (by omega),hcol l hl hlo,enc_units R hl hlo hw.1 hw.2 j0 j1]
 refine La.sm_congr fun c hc=>?_
 rw [D_4,D_4,Fi.mul_comm]
 congr 2
 unfold eqsM
 rw [turnL_ix _ q0 (by omega),ix_colC _ _ (by omega) (by unfold unsM;rw [A_x];omega)]
 unfold unsM
 rw [B_d [] _ (by omega) (by omega)]
 exact hcol _ (by rw [D_d];omega) (unI_out hS _ _)
end
end Go.Cw
namespace Go.Cw
theorem inc_id {p:Nat->Nat} {n:Nat} (inc:∀i j,i<j->j<n->p i<p j) (lt:∀i,i<n->p i<n):∀i,i<n->p i=i:=by
 have lo:∀i,i<n->i<=p i:=fun i=>by
  induction i with
  | zero=>intro _;omega
  | succ i ih=>intro h;have h1:=ih (by omega);have h2:=inc i (i+1) (by omega) h;omega
 have up:∀d i,i+d<n->p i+d<=p (i+d):=fun d=>by
  induction d with
  | zero=>intro i _;exact Nat.le_refl _
  | succ d ih=>intro i h;have h1:=ih i (by omega);have h2:=inc (i+d) (i+(d+1)) (by omega) h;omega
 intro i hi
 have h1:=lo i hi
 have h2:=up (n-1-i) i (by omega)
 have h3:=lt (n-1) (by omega)
 rw [show i+(n-1-i)=n-1 by omega] at h2
 omega
section
variable {f : Fld} (h : FOk f) {n : Nat} {A : List (List Int)} (hA : good f n A) {b : List Int} (hb : ¬ outF f b) (hp : (elim f A [] n).piv.length = n)
include h hA hb hp
theorem aug_piv:(elim f (augL A b) [] n).piv.length=n/\∀i:Int,0<=i->i<n->ix 0 (elim f (augL A b) [] n).piv i=i:=by
 have e:=piv_aug h hA hb
 have hl:(elim f (augL A b) [] n).piv.length=n:=by rw [e];exact hp
 refine ⟨hl,fun i i0 i1=>?_⟩
 have rr:=C_H h (D_z h.1 hA hb) (C_X 0) (.inl rfl) n
 rw [hl] at rr
 have h1:=inc_id rr.inc rr.lt i.toNat (by omega)
 have h2:=piv_ix f (augL A b) [] n i0 (by rw [hl];exact i1)
 unfold pvN at h1
 have h3:ix 0 (elim f (augL A b) [] n).piv i=(elim f (augL A b) [] n).piv.getD i.toNat 0:=rfl
 rw [h3] at h2 ⊢
 omega
theorem aug_ok (ho:¬offR (elim f (augL A b) [] n) n):elim f (augL A b) [] (n+1)=elim f (augL A b) [] n:=by
 have hl:=aug_piv h hA hb hp
 have hx:=(B_G f (augL A b) [] n).1
 have hle:=(C_p f (augL A b) [] n).1
 have key:=elim_same (f:=f) (X:=augL A b) (Y:=[]) (c:=(n:Int)) (k:=(augL A b).length) (by omega) ?_ rfl
 ·rw [show ((n:Int)+1).toNat=n+1 by omega,show ((n:Int)).toNat=n by omega] at key
  exact key
 rw [show ((n:Int)).toNat=n by omega]
 refine F_O (by omega) (by omega) (by omega) (fun z z0 z1=>?_) (.inl (by omega))
 refine Classical.byContradiction fun hne=>ho ⟨ix [] (elim f (augL A b) [] n).X z,?_,hne⟩
 have hz:z.toNat<(elim f (augL A b) [] n).X.length:=by omega
 rw [List.mem_iff_getElem?]
 refine ⟨z.toNat-(elim f (augL A b) [] n).piv.length,?_⟩
 rw [g_D,show (elim f (augL A b) [] n).piv.length+(z.toNat-(elim f (augL A b) [] n).piv.length)=z.toNat by omega]
 exact C_e [] _ z (by omega) (by omega)
theorem aug_no (ho:offR (elim f (augL A b) [] n) n):(elim f (augL A b) [] (n+1)).piv.length=n+1:=by
 have hl:=aug_piv h hA hb hp
 have hx:=(B_G f (augL A b) [] n).1
 have hle:=(C_p f (augL A b) [] n).1
 obtain ⟨row,hr,hne⟩:=ho
 obtain ⟨q,hq⟩:=List.mem_iff_getElem?.1 hr
 rw [g_D] at hq
 have hql:(elim f (augL A b) [] n).piv.length+q<(elim f (augL A b) [] n).X.length:=(g_S hq).1
 obtain ⟨k,e,k1,k2,k3,k4⟩:=pivK_spec (elim f (augL A b) [] n).X (n:Int) (p:=(elim f (augL A b) [] n).piv.length) (by omega)
 have hk:k<(elim f (augL A b) [] n).X.length:=by
  refine Classical.byContradiction fun hn=>hne ?_
  have:=k3 ((elim f (augL A b) [] n).piv.length+q) (by omega) (by omega)
  rw [show ix [] (elim f (augL A b) [] n).X (((elim f (augL A b) [] n).piv.length+q:Nat):Int)=row by simp only [ix,List.getD];rw [show (((elim f (augL A b) [] n).piv.length+q:Nat):Int).toNat=(elim f (augL A b) [] n).piv.length+q by omega,hq];rfl] at this
  exact this
 show (col f (n:Nat) (elim f (augL A b) [] n)).piv.length=n+1
 unfold col
 rw [i_P (by omega),e,i_P (by omega)]
 show ((elim f (augL A b) [] n).piv++[((n:Nat):Int)]).length=n+1
 rw [l_A,hl.1];rfl
theorem solTo_at:∀k:Nat,k<=n->∀j:Int,0<=j->j<n->ix 0 (solTo (elim f (augL A b) [] n) n k) j=if j<k then ix 0 (ix [] (elim f (augL A b) [] n).X j) n else 0
 | 0,_,j,j0,j1=>by
  rw [i_N (by omega)]
  exact C_6 _ _
 | k+1,hk,j,j0,j1=>by
  have ih:=solTo_at k (by omega) j j0 j1
  have hpk:=(aug_piv h hA hb hp).2 k (by omega) (by omega)
  have hl:=C_c (elim f (augL A b) [] n) n k
  show ix 0 ((solTo (elim f (augL A b) [] n) n k).set (ix 0 (elim f (augL A b) [] n).piv k).toNat (ix 0 (ix [] (elim f (augL A b) [] n).X k) n)) j=_
  rw [hpk,D_q 0 _ _ (by omega) (by omega) j0,ih]
  by_cases e:j=k
  ·rw [i_P e,i_P (by omega),e]
  ·rw [i_N e]
   by_cases e2:j<k
   ·rw [i_P e2,i_P (by omega)]
   ·rw [i_N e2,i_N (by omega)]
end
noncomputable def refE (r:Rgn) (ws:List Int) (cs:List (List Int)):El:=elim r.F (augL (eqsM r ws) (rowL cs r.K.toNat)) [] (rgB r+1).toNat
open Classical in
noncomputable def refErr (r:Rgn) (ws:List Int) (cs:List (List Int)):Int:=if ((refE r ws cs).piv.length:Int)≠rgB r\/ix 0 (refE r ws cs).piv (rgB r-1)≠rgB r-1 then 10 else 0
open Classical in
noncomputable def refV (r:Rgn) (ws:List Int) (cs:List (List Int)):List Int:=if refErr r ws cs=0 then mapR (fun i=>ix 0 (ix [] (canR (refE r ws cs)) i) (rgB r)) (rgB r) else []
section
variable {r : Rgn} {ws : List Int} {cs : List (List Int)} (Q : RecF r ws cs)
include Q
theorem colL_inj {l l':List Int} (hl:(l.length:Int)=rgB r) (hlo:¬outF r.F l) (hl':(l'.length:Int)=rgB r) (hlo':¬outF r.F l') (e:colL r ws l=colL r ws l'):l=l':=by
 have hk:=(B_8 Q.R hl).k
 have hrow:∀x:List Int,(x.length:Int)=rgB r->¬outF r.F x->∀t:Int,0<=t->t<r.K->((ix [] (encW r x) (ix 0 ws t)).length:Int)=rgA r/\¬outF r.F (ix [] (encW r x) (ix 0 ws t)):=fun x hx hxo t t0 t1=>by
  have hw:=Q.N.rng t t0 t1
  exact enc_row Q.R hx hx hxo hw.1 hw.2
 have hin:=flo_inj (n:=r.K.toNat) (fun t t0 t1=>by
  have h1:=(hrow l hl hlo t t0 (by omega)).1
  have h2:=(hrow l' hl' hlo' t t0 (by omega)).1
  omega) e
 let c0:List (List Int):=mapR (fun t=>ix [] (encW r l) (ix 0 ws t)) r.K
 have hc0:∀t:Int,0<=t->t<r.K->ix [] c0 t=ix [] (encW r l) (ix 0 ws t):=fun t t0 t1=>B_d [] _ t0 t1
 have Q0:RecF r ws c0:=⟨Q.R,Q.N,Q.nd,by show ((mapR _ _).length:Int)=r.K;rw [A_x];omega,fun c hc=>by
  obtain ⟨t,t0,t1,rfl⟩:=D_K hc
  have:=hrow l hl hlo t t0 t1
  exact ⟨by omega,this.2⟩,Q.a0,Q.kk⟩
 have e1:=rec_right Q0 hl hlo fun t t0 t1=>(hc0 t t0 t1).symm
 have e2:=rec_right Q0 hl' hlo' fun t t0 t1=>by rw [hc0 t t0 t1];exact (hin t t0 (by omega)).symm
 rw [<- e1,e2]
theorem eqs_rank:(elim r.F (eqsM r ws) [] (rgB r).toNat).piv.length=(rgB r).toNat:=by
 have h:=Q.R.fld
 have hb:=F_K Q.R
 have hg:=(eqs_len Q.R Q.N).2
 have hd:=null_dim h hg
 refine Classical.byContradiction fun hne=>?_
 have h0:0<(nullR r.F (eqsM r ws) (rgB r).toNat).length:=by omega
 have hk:=F_x h.1 (eqsM r ws) (rgB r).toNat
 have hgn:good r.F (rgB r).toNat (nullR r.F (eqsM r ws) (rgB r).toNat):=canR_good h.1 hk (rgB r).toNat
 have hlc:=E_U r.F (kerX r.F (eqsM r ws) (rgB r).toNat) (rgB r).toNat
 have hr:=C_H h hk (C_X 0) (.inl rfl) (rgB r).toNat
 have h0':0<(elim r.F (kerX r.F (eqsM r ws) (rgB r).toNat) [] (rgB r).toNat).piv.length:=by rw [<- hlc];exact h0
 have hone:=hr.one 0 h0'
 have hx0:ix [] (nullR r.F (eqsM r ws) (rgB r).toNat) 0∈nullR r.F (eqsM r ws) (rgB r).toNat:=B_Z (by omega) (by omega)
 have e:kv h (ix [] (nullR r.F (eqsM r ws) (rgB r).toNat) 0) (pvN (elim r.F (kerX r.F (eqsM r ws) (rgB r).toNat) [] (rgB r).toNat).piv 0)=1:=by
  rw [<- hone]
  show kv h (ix [] ((elim r.F (kerX r.F (eqsM r ws) (rgB r).toNat) [] (rgB r).toNat).X.take (elim r.F (kerX r.F (eqsM r ws) (rgB r).toNat) [] (rgB r).toNat).piv.length) 0) _=kv h ((elim r.F (kerX r.F (eqsM r ws) (rgB r).toNat) [] (rgB r).toNat).X.getD 0 []) _
  congr 1
  simp only [ix,List.getD]
  rw [List.getElem?_take,i_P (by omega)];rfl
 generalize ix [] (nullR r.F (eqsM r ws) (rgB r).toNat) 0=x at hx0 e
 have hxg:=hgn x hx0
 have hz:((List.replicate (rgB r).toNat (0:Int)).length:Int)=rgB r:=by rw [l_R];omega
 have hzo:¬outF r.F (List.replicate (rgB r).toNat (0:Int)):=D_k h.1 _
 have ed:dots r.F (eqsM r ws) x=dots r.F (eqsM r ws) (List.replicate (rgB r).toNat 0):=by
  refine List.map_congr_left fun row hrow=>?_
  have ho:=null_orth h hg hx0 hrow
  have hw:=(hg row hrow).1
  have r1:=G_f h.1 row x
  have r2:=G_f h.1 row (List.replicate (rgB r).toNat 0)
  refine E_H h r1.1 r1.2 r2.1 r2.2 ?_
  have k1:=E_q h x row (n:=(rgB r).toNat) (by omega)
  rw [ho,B_m] at k1
  rw [E_q h row x (n:=(rgB r).toNat) (by omega),E_q h row _ (n:=(rgB r).toNat) (by omega),La.sm_congr (h:=fun j=>kv h x j*kv h row j) fun j _=>Fi.mul_comm _ _,<- k1]
  refine (La.sm_zero fun j _=>?_).symm
  rw [D_4 h (List.replicate _ _),C_6,B_m,Fi.mul_zero]
 rw [G_1 Q.R Q.N (by omega) hxg.2,G_1 Q.R Q.N hz hzo] at ed
 have hx:=colL_inj Q (by omega) hxg.2 hz hzo ed
 rw [hx,D_4,C_6,B_m] at e
 exact Fi.one_ne e.symm
end
end Go.Cw
namespace Go.Cw
theorem rgB_pos {r:Rgn} (R:RgOk r):1<=rgB r:=by
 have hb:=F_K R
 have E:=B_8 R (l:=List.replicate (rgB r).toNat 0) (by rw [l_R];omega)
 have hr:=R.rng
 unfold rgBad at hr
 have ha:=E.a
 rcases E.kk with h | h
 ·have e:=rgB_0 h (by omega)
  have t:=tri_lt (n:=r.K) (i:=0) (j:=0) (by omega) (by omega) (by omega)
  have hm:0<=r.K*(r.D-r.K):=Int.mul_nonneg (by omega) (by omega)
  unfold bI at e
  omega
 ·have e:=rgB_1 h (by omega)
  have t:=tri_lt (n:=rgA r) (i:=0) (j:=0) (by omega) (by omega) (by omega)
  omega
theorem rgB_small {r:Rgn} (R:RgOk r) (h12:(r.Points.length:Int)<=12):rgB r<=256/\rgA r*r.K<=256:=by
 have hr:=R.rng
 unfold rgBad at hr
 have hA:=rgA_le R
 have h1:rgA r*r.K<=11*11:=Int.mul_le_mul (by omega) (by omega) (by omega) (by omega)
 refine ⟨?_,by omega⟩
 unfold rgB
 split
 ·have h2:r.K*r.D<=11*11:=Int.mul_le_mul (by omega) (by omega) (by omega) (by omega)
  have h3:0<=r.K*(r.K-1):=Int.mul_nonneg (by omega) (by omega)
  omega
 ·have h2:r.K*(r.K-1)<=12*12:=Int.mul_le_mul (by omega) (by omega) (by omega) (by omega)
  omega
theorem ref_eq {r:Rgn} {ws:List Int} {cs:List (List Int)} (hz:rarE r ws cs=0) (h12:(r.Points.length:Int)<=12):refErr r ws cs=recE r ws cs/\refV r ws cs=recV r ws cs:=by
 have Q:=rec_facts hz
 have R:=Q.R
 have h:=R.fld
 have hS:=h.1
 have hb1:=rgB_pos R
 have hbs:=rgB_small R h12
 have hA:=eqs_len R Q.N
 have hrk:=eqs_rank Q
 have ha0:=Q.a0
 have hcl:=Q.cl
 have hrL:=rec_len Q
 have hbn:rgB r=(((rgB r).toNat:Nat):Int):=by omega
 have hcg:∀t:Int,0<=t->t<r.K->((ix [] cs t).length:Int)=rgA r/\¬outF r.F (ix [] cs t):=fun t t0 t1=>by
  have:=Q.cg _ (B_Z (l:=cs) (i:=t) t0)
  exact ⟨by omega,this.2⟩
 have hK:0<=r.K:=by omega
 have hrl:((rowL cs r.K.toNat).length:Int)=rgA r*r.K:=by
  have:=rowL_len (f:=r.F) (S:=cs) (n:=r.K) (w:=rgA r) (by omega) hK (by omega) Q.cg
  rw [this,Int.mul_comm]
 have hro:¬outF r.F (rowL cs r.K.toNat):=rowL_out (f:=r.F) hK (by omega) Q.cg
 have hm:mErr r.F ⟨rgB r,eqsM r ws⟩=0:=A_i.2 ⟨h,C_A (by show 0<=rgB r;omega) (by show rgB r<=256;omega) (by show (eqsM r ws).length<=256;omega) hA.2⟩
 have hcol:∀l:List Int,mtch r ws cs l->colL r ws l=rowL cs r.K.toNat:=fun l hl=>F_0 fun t t0 t1=>hl t t0 (by omega)
 have hback:∀l:List Int,(l.length:Int)=rgB r->¬outF r.F l->colL r ws l=rowL cs r.K.toNat->mtch r ws cs l:=fun l hl hlo e t t0 t1 =>
  flo_inj (n:=r.K.toNat) (fun t t0 t1=>by
   have hw:=Q.N.rng t t0 (by omega)
   have h1:=(enc_row R hl hl hlo hw.1 hw.2).1
   have h2:=(hcg t t0 (by omega)).1
   omega) e t t0 (by omega)
 have eE:refE r ws cs=elim r.F (augL (eqsM r ws) (rowL cs r.K.toNat)) [] ((rgB r).toNat+1):=by
  unfold refE;rw [show (rgB r+1).toNat=(rgB r).toNat+1 by omega]
 by_cases ho:offR (elim r.F (augL (eqsM r ws) (rowL cs r.K.toNat)) [] (rgB r).toNat) ((rgB r).toNat:Nat)
 ·have hp:=aug_no h hA.2 hro hrk ho
  have hnm:¬mtch r ws cs (recL r ws cs):=fun hmm=>by
   have e1:=hcol _ hmm
   rw [<- G_1 R Q.N hrL.1 hrL.2] at e1
   have SF:=sol_facts (m:=⟨rgB r,eqsM r ws⟩) (x:=recL r ws cs) hm (C_9.2 ⟨hrL.1,hrL.2⟩)
   have h0:=SF.err
   have e2:solE r.F ⟨rgB r,eqsM r ws⟩ (rowL cs r.K.toNat)=0:=by rw [<- e1];exact h0
   have e3:=solE_off (f:=r.F) (m:=⟨rgB r,eqsM r ws⟩) (b:=rowL cs r.K.toNat) (by rw [G_B hm];exact C_9.2 ⟨by show ((rowL cs r.K.toNat).length:Int)=((eqsM r ws).length:Int);omega,hro⟩) (by
    show offR (elim r.F (augL (eqsM r ws) (rowL cs r.K.toNat)) [] (rgB r).toNat) (rgB r)
    rw [<- hbn] at ho;exact ho)
   rw [e3] at e2;cases e2
  have hE:=recE_10 hz hnm
  have hr10:refErr r ws cs=10:=by
   unfold refErr
   rw [eE,i_P (.inl (by rw [hp];omega))]
  refine ⟨hr10.trans hE.symm,?_⟩
  rw [E_g (by rw [hE];decide)]
  unfold refV
  rw [i_N (by rw [hr10];decide)]
 ·have hok:=aug_ok h hA.2 hro hrk ho
  have hpv:=aug_piv h hA.2 hro hrk
  have hr0:refErr r ws cs=0:=by
   unfold refErr
   rw [eE,hok,i_N]
   rintro (g | g)
   ·exact g (by rw [hpv.1];omega)
   ·exact g (hpv.2 _ (by omega) (by omega))
  have hEg:=B_7 hS (Y:=[]) (D_z hS hA.2 hro) (rgB r).toNat
  have hEl:=(B_G r.F (augL (eqsM r ws) (rowL cs r.K.toNat)) [] (rgB r).toNat).1
  have hpl:=(C_p r.F (augL (eqsM r ws) (rowL cs r.K.toNat)) [] (rgB r).toNat).1
  rw [B_K] at hEl hpl
  have hxl:=C_c (elim r.F (augL (eqsM r ws) (rowL cs r.K.toNat)) [] (rgB r).toNat) ((rgB r).toNat:Nat) (rgB r).toNat
  have hxo:=solTo_rng hS hEg ((rgB r).toNat:Nat) (rgB r).toNat (by omega)
  have hxa:=solTo_at h hA.2 hro hrk (rgB r).toNat (Nat.le_refl _)
  have hd:dots r.F (eqsM r ws) (solTo (elim r.F (augL (eqsM r ws) (rowL cs r.K.toNat)) [] (rgB r).toNat) ((rgB r).toNat:Nat) (rgB r).toNat)=rowL cs r.K.toNat:=by
   refine D_O 0 (by rw [D_o];omega) fun q q0 q1=>?_
   rw [D_o] at q1
   have:=sol_dot h hA.2 hro (fun i i0 i1=>?_) q0 q1
   ·rw [hpv.1,i_P (by omega)] at this
    rw [ix_dots q0 q1];exact this
   ·rw [C_8]
    refine Classical.byContradiction fun hne=>ho ⟨ix [] (elim r.F (augL (eqsM r ws) (rowL cs r.K.toNat)) [] (rgB r).toNat).X i,?_,fun e0=>hne (by rw [e0,B_m])⟩
    rw [List.mem_iff_getElem?]
    refine ⟨i-(elim r.F (augL (eqsM r ws) (rowL cs r.K.toNat)) [] (rgB r).toNat).piv.length,?_⟩
    rw [g_D,show (elim r.F (augL (eqsM r ws) (rowL cs r.K.toNat)) [] (rgB r).toNat).piv.length+(i-(elim r.F (augL (eqsM r ws) (rowL cs r.K.toNat)) [] (rgB r).toNat).piv.length)=i by omega]
    have:=C_e [] (elim r.F (augL (eqsM r ws) (rowL cs r.K.toNat)) [] (rgB r).toNat).X (i:Int) (by omega) (by omega)
    exact this
  generalize hX:solTo (elim r.F (augL (eqsM r ws) (rowL cs r.K.toNat)) [] (rgB r).toNat) ((rgB r).toNat:Nat) (rgB r).toNat=X at *
  have hXl:(X.length:Int)=rgB r:=by omega
  rw [G_1 R Q.N hXl hxo] at hd
  have hmX:=hback X hXl hxo hd
  have eX:=rec_right Q hXl hxo hmX
  have hE:recE r ws cs=0:=recE_0 hz (by rw [eX];exact hmX)
  refine ⟨hr0.trans hE.symm,?_⟩
  rw [recV_0 hE,eX]
  unfold refV
  rw [i_P hr0,eE,hok]
  refine D_O 0 (by rw [A_x];omega) fun j j0 j1=>?_
  rw [A_x] at j1
  rw [B_d 0 _ j0 (by omega),hxa j j0 (by omega),i_P (by omega)]
  unfold canR
  rw [hpv.1,<- hbn]
  congr 1
  simp only [ix,List.getD]
  rw [List.getElem?_take,i_P (by omega)]
end Go.Cw
namespace Go.Cw
theorem uns_succ {r:Rgn} {ws:List Int} {i j:Int} (hwl:(ws.length:Int)=r.K) (h0:0<=i) (h1:i<rgB r) (hj:j=ws.length):(unsM r ws).take (i+1).toNat=(unsM r ws).take i.toNat++[flo (fun u=>ix [] (encW r (unI (rgB r) i)) (ix 0 ws u)) j.toNat]:=by
 rw [B_A [] (unsM r ws) h0 (by unfold unsM;rw [A_x];omega)]
 congr 2
 unfold unsM
 rw [B_d [] _ h0 h1,hj,hwl];rfl
structure RwF (r:Rgn) (ws:List Int) (cs:List (List Int)):Prop where
 q:RecF r ws cs
 ro:RgOk r
 b:1<=rgB r/\rgB r<=256
 a:1<=rgA r/\rgA r<=63
 wl:(ws.length:Int)=r.K
 cl:(cs.length:Int)=r.K
 k:1<=r.K/\r.K<=12
 m:0<=rgA r*r.K/\rgA r*r.K<=256
 ul:(unsM r ws).length=(rgB r).toNat
 el:((eqsM r ws).length:Int)=rgA r*r.K
 rl:((rowL cs r.K.toNat).length:Int)=rgA r*r.K
 c1:∀i j:Int,0<=j->j<=r.K->(flo (fun u=>ix [] (encW r (unI (rgB r) i)) (ix 0 ws u)) j.toNat).length<=4096
 e1:∀i j:Int,0<=j->j<r.K->((ix [] (encW r (unI (rgB r) i)) (ix 0 ws j)).length:Int)=rgA r
 c2:∀k:Int,0<=k->k<=r.K->(flo (fun u=>ix [] cs u) k.toNat).length<=4096
 e2:∀k:Int,0<=k->k<r.K->((ix [] cs k).length:Int)=rgA r
 en:∀i:Int,((encW r (unI (rgB r) i)).length:Int)=r.Points.length
 ur:∀i:Int,0<=i->i<(unsM r ws).length->((ix [] (unsM r ws) i).length:Int)=rgA r*r.K
 er:∀i:Int,0<=i->i<(eqsM r ws).length->((ix [] (eqsM r ws) i).length:Int)=rgB r
 ag:good r.F ((rgB r).toNat+1) (augL (eqsM r ws) (rowL cs r.K.toNat))
 w:∀j:Int,0<=j->j<ws.length->0<=ix 0 ws j/\ix 0 ws j<r.Points.length
 pl:((refE r ws cs).piv.length:Int)=rgB r->((canR (refE r ws cs)).length:Int)=rgB r
 cr:((refE r ws cs).piv.length:Int)=rgB r->∀i:Int,0<=i->i<rgB r->((ix [] (canR (refE r ws cs)) i).length:Int)=rgB r+1
theorem rw_facts {r:Rgn} {ws:List Int} {cs:List (List Int)} (hz:rarE r ws cs=0) (h12:(r.Points.length:Int)<=12):RwF r ws cs:=by
 have Q:=rec_facts hz
 have R:=Q.R
 have h:=R.fld
 have hb1:=rgB_pos R
 have hbs:=rgB_small R h12
 have hA:=eqs_len R Q.N
 have ha0:=Q.a0
 have hrg:=R.rng
 unfold rgBad at hrg
 have haL:=rgA_le R
 have hul:(unsM r ws).length=(rgB r).toNat:=A_x _ _
 have hrl:((rowL cs r.K.toNat).length:Int)=rgA r*r.K:=by
  have:=rowL_len (f:=r.F) (S:=cs) (n:=r.K) (w:=rgA r) (by omega) (by omega) (by have:=Q.cl;omega) Q.cg
  rw [this,Int.mul_comm]
 have hro:¬outF r.F (rowL cs r.K.toNat):=rowL_out (f:=r.F) (by omega) (by have:=Q.cl;omega) Q.cg
 have hm0:=Int.mul_nonneg (show 0<=rgA r by omega) (show 0<=r.K by omega)
 have hUl:∀i:Int,((unI (rgB r) i).length:Int)=rgB r:=fun i=>by rw [D_d];omega
 have he1:∀i j:Int,0<=j->j<r.K->((ix [] (encW r (unI (rgB r) i)) (ix 0 ws j)).length:Int)=rgA r:=fun i j j0 j1=>by
  have hw:=Q.N.rng j j0 j1
  exact (enc_row R (hUl i) (hUl i) (unI_out h.1 _ _) hw.1 hw.2).1
 have he2:∀k:Int,0<=k->k<r.K->((ix [] cs k).length:Int)=rgA r:=fun k k0 k1=>by
  have:=(Q.cg _ (B_Z (l:=cs) (i:=k) k0 (by have:=Q.cl;omega))).1
  omega
 have hag:=D_z h.1 hA.2 hro
 have hEg:=B_7 h.1 (Y:=[]) hag (rgB r+1).toNat
 have hEl:=(B_G r.F (augL (eqsM r ws) (rowL cs r.K.toNat)) [] (rgB r+1).toNat).1
 have hPl:=(C_p r.F (augL (eqsM r ws) (rowL cs r.K.toNat)) [] (rgB r+1).toNat).1
 have hpl:((refE r ws cs).piv.length:Int)=rgB r->((canR (refE r ws cs)).length:Int)=rgB r:=fun e=>by
  have e':((elim r.F (augL (eqsM r ws) (rowL cs r.K.toNat)) [] (rgB r+1).toNat).piv.length:Int)=rgB r:=e
  show ((List.take (elim r.F (augL (eqsM r ws) (rowL cs r.K.toNat)) [] (rgB r+1).toNat).piv.length (elim r.F (augL (eqsM r ws) (rowL cs r.K.toNat)) [] (rgB r+1).toNat).X).length:Int)=rgB r
  rw [List.length_take];omega
 refine ⟨Q,R,⟨hb1,hbs.1⟩,by omega,Q.N.len,Q.cl,by omega,⟨hm0,hbs.2⟩,hul,hA.1,hrl,fun i j j0 j1=>?_,he1,fun k k0 k1=>?_,he2,fun i=>?_,fun i i0 i1=>?_,fun i i0 i1=>?_,hag,fun j j0 j1=>Q.N.rng j j0 (by have:=Q.N.len;omega),hpl,fun e i i0 i1=>?_⟩
 ·have:=G_b (g:=fun u=>ix [] (encW r (unI (rgB r) i)) (ix 0 ws u)) (w:=64) (n:=j.toNat) fun u u0 u1=>by
   have:=he1 i u u0 (by omega);omega
  omega
 ·have:=G_b (g:=fun u=>ix [] cs u) (w:=64) (n:=k.toNat) fun u u0 u1=>by
   have:=he2 u u0 (by omega);omega
  omega
 ·exact enc_len (hUl i) (hUl i)
 ·rw [hul] at i1
  unfold unsM
  rw [B_d [] _ i0 (by omega)]
  exact (colL_len R Q.N (hUl i) (unI_out h.1 _ _)).1
 ·have:=(hA.2 _ (B_Z (l:=eqsM r ws) (i:=i) i0 i1)).1
  omega
 ·have hl:=hpl e
  have hmem:ix [] (canR (refE r ws cs)) i∈canR (refE r ws cs):=B_Z i0 (by omega)
  have:=(hEg _ (List.mem_of_mem_take (show ix [] (canR (refE r ws cs)) i∈List.take _ _ from hmem))).1
  omega
end Go.Cw
