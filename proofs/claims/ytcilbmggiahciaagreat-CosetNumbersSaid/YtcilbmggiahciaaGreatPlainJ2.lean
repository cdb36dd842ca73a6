/-
  Plain facts.
-/
import Derived.Test.YtcilbmggiahciaaGreatPlainJ1
set_option linter.unnecessarySimpa false
set_option linter.unusedVariables false
set_option linter.unusedSimpArgs false
set_option linter.unusedSectionVars false
namespace Go.Cw
theorem dgs_top {q:Int} (hq:0<=q):∀(t:Nat) (v:Int),dgs q (t+1) v=(v/q^t%q)::dgs q t v
 | 0,v=>by show []++[v%q]=_;rw [Int.pow_zero,Int.ediv_one];rfl
 | t+1,v=>by
  show dgs q (t+1) (v/q)++[v%q]=_
  rw [dgs_top hq t (v/q),Int.ediv_ediv_of_nonneg hq,List.cons_append,show q*q^t=q^(t+1) by rw [Int.pow_succ,Int.mul_comm]]
  rfl
def atL (q K i v:Int):List Int:=List.replicate (i+1).toNat 0++dgs q (K-1-i).toNat v
theorem length_atL {q K i v:Int} (h0 : -1<=i) (h1:i<K):(atL q K i v).length=K.toNat:=by unfold atL;simp;omega
theorem atL_set {q K i v:Int} (hq:0<=q) (h0:0<=i) (h1:i<K):(atL q K i v).set i.toNat (v/q^(K-1-i).toNat%q)=atL q K (i-1) v:=by
 unfold atL
 rw [show (i+1).toNat=i.toNat+1 by omega,show (i-1+1).toNat=i.toNat by omega,show (K-1-(i-1)).toNat=(K-1-i).toNat+1 by omega,dgs_top hq,List.replicate_succ',List.append_assoc]
 rw [List.set_append_right _ _ (by simp)]
 simp
theorem atL_all (q v:Int) (K:Nat):atL q K (-1) v=dgs q K v:=by unfold atL;rw [show (-1+1:Int).toNat=0 from rfl,show ((K:Int)-1 - -1).toNat=K by omega];rfl
theorem atL_none (q v:Int) (K:Int):atL q K (K-1) v=List.replicate K.toNat 0:=by unfold atL;rw [show K-1+1=K by omega,show (K-1-(K-1)).toNat=0 by omega];simp [dgs]
theorem pow_step (q:Int) {K i:Int} (h0:0<=i) (h1:i<K):q^(K-1-(i-1)).toNat=q^(K-1-i).toNat*q:=by rw [show (K-1-(i-1)).toNat=(K-1-i).toNat+1 by omega,Int.pow_succ]
theorem cur_step {q K i v:Int} (hq:0<=q) (h0:0<=i) (h1:i<K):v/q^(K-1-i).toNat/q=v/q^(K-1-(i-1)).toNat:=by
 have hp:0<=q^(K-1-i).toNat:=Int.pow_nonneg hq
 rw [Int.ediv_ediv_of_nonneg hp,pow_step q h0 h1]
theorem dgs_out {f:Fld} (hS:Shape f):∀(k:Nat) (v:Int),¬outF f (dgs f.q k v)
 | 0,_=>by simp [dgs,outF]
 | k+1,v=>notOut_app (dgs_out hS k _) (by
  have:=hS.bd
  intro ⟨x,hx,hn⟩
  rw [List.mem_singleton.1 hx] at hn
  exact hn ⟨Int.emod_nonneg _ (by omega),Int.emod_lt_of_pos _ (by omega)⟩)
theorem dgs_inj {q:Int} (hq:2<=q):∀(k:Nat) {v w:Int},0<=v->v<q^k->0<=w->w<q^k->dgs q k v=dgs q k w->v=w
 | 0,v,w,h1,h2,h3,h4,_=>by rw [Int.pow_zero] at h2 h4;omega
 | k+1,v,w,h1,h2,h3,h4,h=>by
  have h':dgs q k (v/q)++[v%q]=dgs q k (w/q)++[w%q]:=h
  obtain ⟨e1,e2⟩:=List.append_inj h' (by simp)
  have e3:v%q=w%q:=by simpa using e2
  rw [Int.pow_succ] at h2 h4
  have e4:=dgs_inj hq k (v:=v/q) (w:=w/q) (Int.ediv_nonneg h1 (by omega)) ((Int.ediv_lt_iff_lt_mul (by omega)).2 h2) (Int.ediv_nonneg h3 (by omega)) ((Int.ediv_lt_iff_lt_mul (by omega)).2 h4) e1
  have h5:=Int.mul_ediv_add_emod v q
  have h6:=Int.mul_ediv_add_emod w q
  rw [e4] at h5
  omega
theorem dgs_zero (q:Int):∀k:Nat,dgs q k 0=List.replicate k 0
 | 0=>rfl
 | k+1=>by
  show dgs q k (0/q)++[0%q]=_
  rw [Int.zero_ediv,Int.zero_emod,dgs_zero q k,<- List.replicate_succ']
theorem comb_zeros (f:Fld) (n:Nat) (G:List (List Int)) (N:Int):comb f (List.replicate n 0) G N=List.replicate N.toNat 0:=by
 have : ∀k:Nat,combTo f (List.replicate n 0) G N k=List.replicate N.toNat 0:=fun k=>by
  induction k with
  | zero=>rfl
  | succ k ih=>rw [combTo,if_pos (ix_zeros _ _),ih]
 exact this _
noncomputable def wdsL (c:Cod):List (List Int):=if sizE c=0 then wds c.F c.N c.Gen else []
theorem wdsL_ok {c:Cod} (h:sizE c=0):wdsL c=wds c.F c.N c.Gen:=if_pos h
theorem wdsL_no {c:Cod} (h:sizE c≠0):wdsL c = []:=if_neg h
theorem his_wds {c:Cod} (g:List Int->Int) (n:Int):hisTo n (fun i=>g (ix [] (wds c.F c.N c.Gen) i)) (wds c.F c.N c.Gen).length=hisTo n (fun i=>g (wdF c.F c.N c.Gen i)) (c.F.q^c.Gen.length).toNat:=by
 unfold wds
 rw [A_j]
 exact his_congr fun i h0 h1=>by rw [A_w [] _ h0 (by omega)]
namespace COk
variable {c : Cod}
theorem canf (h:COk c):CanF c.F c.m:=can_facts h.mat
theorem plen (h:COk c):(canP c.F c.m).length=c.Gen.length:=by rw [<- h.canf.len,h.can]
theorem q2 (h:COk c):2<=c.F.q:=h.fld.1.bd.2.2.2.2.2.1
theorem wdl (h:COk c) (v:Int):((wdF c.F c.N c.Gen v).length:Int)=c.N:=by have:=h.n1;rw [length_wdF];omega
theorem wd_out (h:COk c) (v:Int):¬outF c.F (wdF c.F c.N c.Gen v):=comb_out h.fld.1 _ _ _
theorem wdn (h:COk c) {l:List Int} (hl:l∈c.Gen):l.length<=c.N.toNat:=by
 obtain ⟨z,z0,z1,rfl⟩:=mem_ix [] hl
 have:=h.row z0 z1
 omega
theorem comb_piv (h:COk c) {x:List Int} (hx:x.length=c.Gen.length) (ho:¬outF c.F x) {i:Int} (i0:0<=i) (i1:i<c.Gen.length):ix 0 (comb c.F x c.Gen c.N) (ix 0 (canP c.F c.m) i)=ix 0 x i:=by
 have hp:=h.plen
 have hr:=h.canf.rng i i0 (by omega)
 have w1:=ix_ok h.fld.1 (comb_out h.fld.1 x c.Gen c.N) (ix 0 (canP c.F c.m) i)
 have w2:=ix_ok h.fld.1 ho i
 refine ke_inj h.fld w1.1 w1.2 w2.1 w2.2 ?_
 obtain ⟨p,hp'⟩:∃p:Nat,ix 0 (canP c.F c.m) i=p:=⟨(ix 0 (canP c.F c.m) i).toNat,by omega⟩
 rw [hp',<- kv_ix h.fld,kv_comb h.fld (fun l hl=>h.wdn hl) (by omega)]
 unfold La.lin
 have hd:∀j:Nat,j<c.Gen.length->km h.fld c.Gen j p=ke h.fld (if (j:Int)=i then 1 else 0):=fun j hj=>by
  rw [km_ix,<- hp',<- h.can,h.canf.ent i j i0 (by omega) (by omega) (by omega)]
 rw [La.sm_one (k:=i.toNat) (by omega) (fun j hj hne=>by rw [hd j hj,if_neg (by omega),ke_zero,Fi.mul_zero])]
 rw [hd i.toNat (by omega),if_pos (by omega),ke_one,Fi.mul_one,kv_ix,show ((i.toNat:Nat):Int)=i by omega]
theorem wd_zero (_h:COk c):wdF c.F c.N c.Gen 0=List.replicate c.N.toNat 0:=by unfold wdF;rw [dgs_zero];exact comb_zeros _ _ _ _
theorem wd_inj (h:COk c) {v w:Int} (v0:0<=v) (v1:v<c.F.q^c.Gen.length) (w0:0<=w) (w1:w<c.F.q^c.Gen.length) (e:wdF c.F c.N c.Gen v=wdF c.F c.N c.Gen w):v=w:=by
 refine dgs_inj h.q2 c.Gen.length v0 v1 w0 w1 (ext_ix 0 (by simp) fun i i0 i1=>?_)
 rw [length_dgs] at i1
 rw [<- h.comb_piv (length_dgs _ _ _) (dgs_out h.fld.1 _ _) i0 i1,<- h.comb_piv (length_dgs _ _ _) (dgs_out h.fld.1 _ _) i0 i1]
 exact congrArg (fun l=>ix 0 l _) e
theorem wt_pos (h:COk c) {v:Int} (v0:1<=v) (v1:v<c.F.q^c.Gen.length):wt (wdF c.F c.N c.Gen v)≠0:=by
 intro e
 have e2:=wt_zero.1 e
 rw [length_wdF,<- h.wd_zero] at e2
 have:=h.wd_inj (by omega) v1 (Int.le_refl 0) (by omega) e2
 omega
end COk
end Go.Cw
set_option linter.unusedVariables false
set_option linter.unusedSimpArgs false
set_option linter.unusedSectionVars false
namespace Go.Cw
section
variable {α : Type} {g : Int -> Int} {p : Int -> Bool} {z : Int} {wd : Int -> List α} {i : Int}
end
def valD (q:Int):List Int->Int:=fun l=>l.foldl (fun a d=>a*q+d) 0
theorem valD_snoc (q:Int) (l:List Int) (d:Int):valD q (l++[d])=valD q l*q+d:=by unfold valD;rw [List.foldl_append];rfl
theorem valD_dgs {q:Int} (hq:2<=q):∀(n:Nat) (l:List Int),l.length=n->(∀d∈l,0<=d/\d<q)->0<=valD q l/\valD q l<q^n/\dgs q n (valD q l)=l
 | 0,l,hl,_=>by
  have : l = []:=List.eq_nil_of_length_eq_zero hl
  subst this
  exact ⟨Int.le_refl _,by simp [valD],rfl⟩
 | n+1,l,hl,h=>by
  obtain ⟨l',d,rfl⟩:∃l' d,l=l'++[d]:=by
   have hne:l≠[]:=fun e=>by rw [e] at hl;cases hl
   exact ⟨l.dropLast,l.getLast hne,(List.dropLast_concat_getLast hne).symm⟩
  have hl':l'.length=n:=by simp at hl;omega
  obtain ⟨h1,h2,h3⟩:=valD_dgs hq n l' hl' fun x hx=>h x (List.mem_append_left _ hx)
  have hd:=h d (List.mem_append_right _ (List.mem_singleton.2 rfl))
  rw [valD_snoc]
  refine ⟨Int.add_nonneg (Int.mul_nonneg h1 (by omega)) hd.1,?_,?_⟩
  ·rw [Int.pow_succ]
   have:=Int.mul_le_mul_of_nonneg_right (show valD q l'+1<=q^n by omega) (show 0<=q by omega)
   rw [Int.add_mul,Int.one_mul] at this
   omega
  ·rw [dgs_next hd.1 hd.2,h3]
noncomputable def lisE (f:Fld) (l:List Int) (n:Int):Int:=if (l.length:Int)≠n then 4 else entErr f l
theorem lisE_zero {f:Fld} {l:List Int} {n:Int}:lisE f l n=0↔(l.length:Int)=n/\¬outF f l:=by
 unfold lisE
 by_cases h:(l.length:Int)≠n
 ·rw [if_pos h];exact Iff.intro (fun h=>by cases h) (fun h2=>absurd h2.1 h)
 ·rw [if_neg h,entErr_zero];exact ⟨fun h2=>⟨Classical.not_not.1 h,h2⟩,fun h2=>h2.2⟩
noncomputable def wrdE (c:Cod) (w:List Int):Int:=if codE c=0 then lisE c.F w c.N else codE c
theorem wrdE_zero {c:Cod} {w:List Int}:wrdE c w=0↔COk c/\(w.length:Int)=c.N/\¬outF c.F w:=by
 unfold wrdE
 by_cases h:codE c=0
 ·rw [if_pos h,lisE_zero,<- codE_zero];exact ⟨fun h2=>⟨h,h2⟩,fun h2=>h2.2⟩
 ·rw [if_neg h,<- codE_zero];exact ⟨fun h2=>absurd h2 h,fun h2=>absurd h2.1 h⟩
theorem msg_index {c:Cod} (hk:COk c) {m:List Int} (hl:m.length=c.Gen.length) (ho:¬outF c.F m):∃v:Int,0<=v/\v<c.F.q^c.Gen.length/\comb c.F m c.Gen c.N=wdF c.F c.N c.Gen v:=by
 obtain ⟨h1,h2,h3⟩:=valD_dgs hk.q2 c.Gen.length m hl fun x hx=>outF_no ho hx
 exact ⟨_,h1,h2,by unfold wdF;rw [h3]⟩
abbrev Cod.w (c:Cod) (i:Int):List Int:=wdF c.F c.N c.Gen i
abbrev Cod.n (c:Cod):Nat:=(c.F.q^c.Gen.length).toNat
noncomputable def neE (c:Cod) (y:List Int):Int:=if wrdE c y=0 then sizE c else wrdE c y
theorem COk.cn {c:Cod} (h:COk c):(c.n:Int)=c.F.q^c.Gen.length:=by
 have:=pow_pos_of c.F.q h.q2 c.Gen.length
 exact Int.toNat_of_nonneg (by omega)
theorem wds_len (c:Cod):(wds c.F c.N c.Gen).length=c.n:=A_j _ _
theorem wt_le_dst {c:Cod} (hk:COk c) (i:Int):dst (c.w i) (List.replicate c.N.toNat 0)=wt (c.w i):=dst_zeros (by simp)
end Go.Cw
set_option linter.unusedVariables false
set_option linter.unusedSimpArgs false
set_option linter.unusedSectionVars false
namespace Go.Cw
def smT (h:Int->Int):Nat->Int
 | 0=>0
 | k+1=>smT h k+h k
theorem smT_congr {h h':Int->Int}:∀ {k:Nat},(∀i:Int,0<=i->i<k->h i=h' i)->smT h k=smT h' k
 | 0,_=>rfl
 | k+1,e=>by rw [smT,smT,smT_congr fun i h0 h1=>e i h0 (by omega),e k (by omega) (by omega)]
theorem smT_add (g h:Int->Int):∀k:Nat,smT (fun i=>g i+h i) k=smT g k+smT h k
 | 0=>rfl
 | k+1=>by rw [smT,smT,smT,smT_add g h k];omega
theorem smT_zero {h:Int->Int} {k:Nat} (e:∀i:Int,0<=i->i<k->h i=0):smT h k=0:=by
 induction k with
 | zero=>rfl
 | succ k ih=>rw [smT,ih fun i h0 h1=>e i h0 (by omega),e k (by omega) (by omega)];rfl
theorem smT_const (a:Int):∀k:Nat,smT (fun _=>a) k=k*a
 | 0=>by simp [smT]
 | k+1=>by rw [smT,smT_const a k,show ((k+1:Nat):Int)=(k:Int)+1 by omega,Int.add_mul,Int.one_mul]
theorem smT_mul (a:Int) (h:Int->Int):∀k:Nat,smT (fun i=>a*h i) k=a*smT h k
 | 0=>by simp [smT]
 | k+1=>by rw [smT,smT,smT_mul a h k,Int.mul_add]
theorem smT_single (a v:Int):∀(k:Nat),0<=v->smT (fun i=>if v=i then a else 0) k=if v<k then a else 0
 | 0,h=>by rw [if_neg (by omega)];rfl
 | k+1,h=>by
  rw [smT,smT_single a v k h]
  by_cases e:v=k
  ·rw [if_neg (by omega),if_pos e,if_pos (by omega)];omega
  ·rw [if_neg e]
   by_cases h2:v<k
   ·rw [if_pos h2,if_pos (by omega)];omega
   ·rw [if_neg h2,if_neg (by omega)];rfl
theorem smT_swap (g:Int->Int->Int) (m:Nat):∀n:Nat,smT (fun i=>smT (fun j=>g i j) m) n=smT (fun j=>smT (fun i=>g i j) n) m
 | 0=>(smT_zero fun _ _ _=>rfl).symm
 | n+1=>by rw [smT,smT_swap g m n,<- smT_add];rfl
theorem smT_le_one {h:Int->Int}:∀ {n:Nat},(∀i:Int,0<=i->i<n->h i<=1)->smT h n<=n
 | 0,_=>Int.le_refl _
 | n+1,e=>by
  have : smT h n<=n:=smT_le_one (n:=n) fun i h0 h1=>e i h0 (by omega)
  have h2:=e n (by omega) (by omega)
  rw [smT];omega
theorem smT_all_one {h:Int->Int}:∀ {n:Nat},(∀i:Int,0<=i->i<n->h i<=1)->smT h n=n->∀i:Int,0<=i->i<n->h i=1
 | 0,_,_,i,h0,h1=>by omega
 | n+1,e,hs,i,h0,h1=>by
  have h2:=e n (by omega) (by omega)
  have h3:smT h n<=n:=smT_le_one (n:=n) fun i h0 h1=>e i h0 (by omega)
  rw [smT] at hs
  by_cases hi:i=n
  ·rw [hi];omega
  ·exact smT_all_one (n:=n) (fun i h0 h1=>e i h0 (by omega)) (by omega) i h0 (by omega)
theorem cnt_smT (g:Int->Int) (j:Int):∀k:Nat,cntTo g j k=smT (fun i=>if g i=j then 1 else 0) k
 | 0=>rfl
 | k+1=>by rw [cntTo,smT,cnt_smT g j k]
structure PermN (p:Int->Int) (n:Nat):Prop where
 rng:∀i:Int,0<=i->i<n->0<=p i/\p i<n
 inj:∀i j:Int,0<=i->i<n->0<=j->j<n->p i=p j->i=j
namespace PermN
variable {p : Int -> Int} {n : Nat}
theorem le_one (h:PermN p n) (v:Int):∀k:Nat,k<=n->cntTo p v k<=1/\(cntTo p v k=1->∃i:Int,0<=i/\i<k/\p i=v)
 | 0,_=>⟨show (0:Int)<=1 by decide,fun h=>absurd (show (0:Int)=1 from h) (by decide)⟩
 | k+1,hk=>by
  obtain ⟨h1,h2⟩:=h.le_one v k (by omega)
  have hb:=cntTo_bd p v k
  unfold cntTo
  by_cases e:p k=v
  ·rw [if_pos e]
   have h0:cntTo p v k=0:=by
    by_cases h3:cntTo p v k=1
    ·obtain ⟨i,i0,i1,i2⟩:=h2 h3
     have:=h.inj i k i0 (by omega) (by omega) (by omega) (by rw [i2,e])
     omega
    ·omega
   rw [h0]
   exact ⟨by decide,fun _=>⟨k,by omega,by omega,e⟩⟩
  ·rw [if_neg e,Int.add_zero]
   exact ⟨h1,fun h3=>by obtain ⟨i,i0,i1,i2⟩:=h2 h3;exact ⟨i,i0,by omega,i2⟩⟩
theorem total (h:PermN p n):∀k:Nat,k<=n->smT (fun v=>cntTo p v k) n=k
 | 0,_=>smT_zero fun _ _ _=>rfl
 | k+1,hk=>by
  have hr:=h.rng k (by omega) (by omega)
  show smT (fun v=>cntTo p v k+(if p k=v then 1 else 0)) n=_
  rw [smT_add,h.total k (by omega),smT_single 1 (p k) n hr.1,if_pos hr.2];omega
theorem one (h:PermN p n):∀v:Int,0<=v->v<n->cntTo p v n=1 :=
 smT_all_one (fun i _ _=>(h.le_one i n (Nat.le_refl _)).1) (h.total n (Nat.le_refl _))
theorem sum_to (h:PermN p n) (g:Int->Int):∀k:Nat,k<=n->smT (fun i=>g (p i)) k=smT (fun v=>g v*cntTo p v k) n
 | 0,_=>(smT_zero fun _ _ _=>Int.mul_zero _).symm
 | k+1,hk=>by
  have hr:=h.rng k (by omega) (by omega)
  have e:smT (fun v=>g v*cntTo p v (k+1)) n=smT (fun v=>g v*cntTo p v k+(if p k=v then g (p k) else 0)) n:=smT_congr fun v _ _=>by
   show g v*(cntTo p v k+(if p k=v then 1 else 0))=_
   by_cases e:p k=v
   ·rw [if_pos e,if_pos e,Int.mul_add,Int.mul_one,e]
   ·rw [if_neg e,if_neg e,Int.add_zero,Int.add_zero]
  rw [e,smT_add,<- h.sum_to g k (by omega),smT_single (g (p k)) (p k) n hr.1,if_pos hr.2];rfl
theorem sum (h:PermN p n) (g:Int->Int):smT (fun i=>g (p i)) n=smT g n:=by
 rw [h.sum_to g n (Nat.le_refl _)]
 exact smT_congr fun v h0 h1=>by rw [h.one v h0 h1,Int.mul_one]
theorem cnt (h:PermN p n) (g:Int->Int) (j:Int):cntTo (fun i=>g (p i)) j n=cntTo g j n:=by
 rw [cnt_smT,cnt_smT]
 exact h.sum fun v=>if g v=j then 1 else 0
end PermN
def vadd (f:Fld) (a b:List Int):List Int:=mapR (fun i=>addF f (ix 0 a i) (ix 0 b i)) a.length
def vneg (f:Fld) (a:List Int):List Int:=mapR (fun i=>negF f (ix 0 a i)) a.length
@[simp] theorem length_vadd (f:Fld) (a b:List Int):(vadd f a b).length=a.length:=by unfold vadd;rw [A_j];omega
@[simp] theorem length_vneg (f:Fld) (a:List Int):(vneg f a).length=a.length:=by unfold vneg;rw [A_j];omega
theorem vadd_out {f:Fld} (hS:Shape f) (a b:List Int):¬outF f (vadd f a b):=outF_mapR fun _ _ _=>hS.addF_lt _ _
theorem vneg_out {f:Fld} (hS:Shape f) (a:List Int):¬outF f (vneg f a):=outF_mapR fun _ _ _=>hS.negF_lt _
section
variable {f : Fld} (h : FOk f)
theorem kv_vadd {a b:List Int} (hl:b.length<=a.length) (j:Nat):kv h (vadd f a b) j=kv h a j+kv h b j:=by
 by_cases hj:j<a.length
 ·rw [kv_ix,kv_ix h a,kv_ix h b]
  unfold vadd
  rw [A_w 0 _ (by omega) (by omega),ke_add]
 ·rw [kv_out h (by rw [length_vadd];omega),kv_out h (v:=a) (by omega),kv_out h (v:=b) (by omega),Fi.add_zero]
theorem kv_vneg (a:List Int) (j:Nat):kv h (vneg f a) j = -kv h a j:=by
 by_cases hj:j<a.length
 ·rw [kv_ix,kv_ix h a]
  unfold vneg
  rw [A_w 0 _ (by omega) (by omega),ke_neg]
 ·rw [kv_out h (by rw [length_vneg];omega),kv_out h (v:=a) (by omega)]
  exact (Fi.neg_zero).symm
end
namespace COk
variable {c : Cod}
theorem kvw (h:COk c) {x:List Int} (hx:c.Gen.length<=x.length):kv h.fld (comb c.F x c.Gen c.N)=La.lin (kv h.fld x) (km h.fld c.Gen) c.Gen.length:=kv_comb h.fld (fun _ hl=>h.wdn hl) hx
theorem comb_add (h:COk c) {x y:List Int} (hx:x.length=c.Gen.length) (hy:y.length=c.Gen.length):comb c.F (vadd c.F x y) c.Gen c.N=vadd c.F (comb c.F x c.Gen c.N) (comb c.F y c.Gen c.N):=by
 refine kv_ext h.fld (comb_out h.fld.1 _ _ _) (vadd_out h.fld.1 _ _) (by rw [length_vadd,length_comb,length_comb]) fun j _=>?_
 rw [kv_vadd h.fld (by rw [length_comb,length_comb];exact Nat.le_refl _),h.kvw (by simp [hx]),h.kvw (by omega),h.kvw (by omega)]
 unfold La.lin
 rw [<- La.sm_add]
 exact La.sm_congr fun i _=>by rw [kv_vadd h.fld (by omega),Fi.add_mul]
theorem comb_neg (h:COk c) {x:List Int} (hx:x.length=c.Gen.length):comb c.F (vneg c.F x) c.Gen c.N=vneg c.F (comb c.F x c.Gen c.N):=by
 refine kv_ext h.fld (comb_out h.fld.1 _ _ _) (vneg_out h.fld.1 _) (by rw [length_vneg,length_comb,length_comb]) fun j _=>?_
 rw [kv_vneg h.fld,h.kvw (by simp [hx]),h.kvw (by omega)]
 unfold La.lin
 rw [<- La.sm_neg]
 exact La.sm_congr fun i _=>by rw [kv_vneg h.fld,Fi.neg_mul]
end COk
theorem addF_cancel {f:Fld} (h:FOk f) {x y u:Int} (x0:0<=x) (x1:x<f.q) (y0:0<=y) (y1:y<f.q) (e:addF f x u=addF f y u):x=y:=by
 have e2:ke h x+ke h u=ke h y+ke h u:=by rw [<- ke_add,<- ke_add,e]
 rw [Fi.add_comm,Fi.add_comm (ke h y)] at e2
 exact ke_inj h x0 x1 y0 y1 (Fi.add_left_cancel e2)
theorem negF_inj {f:Fld} (h:FOk f) {x y:Int} (x0:0<=x) (x1:x<f.q) (y0:0<=y) (y1:y<f.q) (e:negF f x=negF f y):x=y:=by
 have e2 : -ke h x = -ke h y:=by rw [<- ke_neg,<- ke_neg,e]
 have e3:=congrArg (fun z=>-z) e2
 simp only [Fi.neg_neg] at e3
 exact ke_inj h x0 x1 y0 y1 e3
theorem ix_vadd {f:Fld} {a b:List Int} {i:Int} (h0:0<=i) (h1:i<a.length):ix 0 (vadd f a b) i=addF f (ix 0 a i) (ix 0 b i):=A_w 0 _ h0 h1
theorem ix_vneg {f:Fld} {a:List Int} {i:Int} (h0:0<=i) (h1:i<a.length):ix 0 (vneg f a) i=negF f (ix 0 a i):=A_w 0 _ h0 h1
theorem dst_vadd {f:Fld} (h:FOk f) {a b u:List Int} (ha:¬outF f a) (hb:¬outF f b) (hl:a.length=b.length):dst (vadd f a u) (vadd f b u)=dst a b:=by
 unfold dst
 rw [length_vadd,length_vadd]
 refine dstTo_congr _ fun i h0 h1=>?_
 rw [ix_vadd h0 (by omega),ix_vadd h0 (by omega)]
 have r1:=ix_ok h.1 ha i
 have r2:=ix_ok h.1 hb i
 exact ⟨fun hn e=>hn (by rw [e]),fun hn e=>hn (addF_cancel h r1.1 r1.2 r2.1 r2.2 e)⟩
theorem vadd_cancel {f:Fld} (h:FOk f) {a b u:List Int} (ha:¬outF f a) (hb:¬outF f b) (hl:a.length=b.length) (e:vadd f a u=vadd f b u):a=b:=by
 refine ext_ix 0 (by omega) fun i i0 i1=>?_
 have r1:=ix_ok h.1 ha i
 have r2:=ix_ok h.1 hb i
 refine addF_cancel h r1.1 r1.2 r2.1 r2.2 (u:=ix 0 u i) ?_
 rw [<- ix_vadd i0 i1,<- ix_vadd i0 (by omega),e]
theorem vneg_cancel {f:Fld} (h:FOk f) {a b:List Int} (ha:¬outF f a) (hb:¬outF f b) (hl:a.length=b.length) (e:vneg f a=vneg f b):a=b:=by
 refine ext_ix 0 (by omega) fun i i0 i1=>?_
 have r1:=ix_ok h.1 ha i
 have r2:=ix_ok h.1 hb i
 refine negF_inj h r1.1 r1.2 r2.1 r2.2 ?_
 rw [<- ix_vneg i0 i1,<- ix_vneg i0 (by omega),e]
namespace COk
variable {c : Cod}
theorem wl (h:COk c) (i:Int):(c.w i).length=c.N.toNat:=length_wdF _ _ _ _
theorem perm_of (h:COk c) (F:List Int->List Int) (G:List Int->List Int) (hF:∀x:List Int,x.length=c.Gen.length->(F x).length=c.Gen.length/\¬outF c.F (F x)/\comb c.F (F x) c.Gen c.N=G (comb c.F x c.Gen c.N))
  (hG:∀i j:Int,G (c.w i)=G (c.w j)->c.w i=c.w j):∃p:Int->Int,PermN p c.n/\∀i:Int,0<=i->i<c.n->c.w (p i)=G (c.w i):=by
 have key:∀i:Int,0<=valD c.F.q (F (dgs c.F.q c.Gen.length i))/\valD c.F.q (F (dgs c.F.q c.Gen.length i))<c.F.q^c.Gen.length/\c.w (valD c.F.q (F (dgs c.F.q c.Gen.length i)))=G (c.w i):=fun i=>by
  obtain ⟨l1,l2,l3⟩:=hF (dgs c.F.q c.Gen.length i) (length_dgs _ _ _)
  obtain ⟨h1,h2,h3⟩:=valD_dgs h.q2 c.Gen.length _ l1 fun x hx=>outF_no l2 hx
  refine ⟨h1,h2,?_⟩
  show comb c.F (dgs c.F.q c.Gen.length _) c.Gen c.N=_
  rw [h3,l3]
  rfl
 refine ⟨fun i=>valD c.F.q (F (dgs c.F.q c.Gen.length i)),⟨fun i _ _=>⟨(key i).1,by rw [h.cn];exact (key i).2.1⟩,fun i j i0 i1 j0 j1 e=>?_⟩,fun i _ _=>(key i).2.2⟩
 rw [h.cn] at i1 j1
 refine h.wd_inj i0 i1 j0 j1 (hG i j ?_)
 rw [<- (key i).2.2,<- (key j).2.2]
 exact congrArg c.w e
theorem perm_add (h:COk c) (u:Int):∃p:Int->Int,PermN p c.n/\∀i:Int,0<=i->i<c.n->c.w (p i)=vadd c.F (c.w i) (c.w u) :=
 h.perm_of (fun x=>vadd c.F x (dgs c.F.q c.Gen.length u)) (fun w=>vadd c.F w (c.w u)) (fun x hx=>⟨by simp [hx],vadd_out h.fld.1 _ _,h.comb_add hx (length_dgs _ _ _)⟩)
  (fun i j e=>vadd_cancel h.fld (h.wd_out i) (h.wd_out j) (by rw [h.wl,h.wl]) e)
theorem perm_neg (h:COk c):∃p:Int->Int,PermN p c.n/\∀i:Int,0<=i->i<c.n->c.w (p i)=vneg c.F (c.w i) :=
 h.perm_of (fun x=>vneg c.F x) (fun w=>vneg c.F w) (fun x hx=>⟨by simp [hx],vneg_out h.fld.1 _,h.comb_neg hx⟩)
  (fun i j e=>vneg_cancel h.fld (h.wd_out i) (h.wd_out j) (by rw [h.wl,h.wl]) e)
theorem cnt_add (h:COk c) {y:List Int} (hl:(y.length:Int)=c.N) (ho:¬outF c.F y) (u j:Int):cntTo (fun i=>dst (c.w i) (vadd c.F y (c.w u))) j c.n=cntTo (fun i=>dst (c.w i) y) j c.n:=by
 obtain ⟨p,hp,hw⟩:=h.perm_add u
 rw [<- hp.cnt]
 exact cnt_congr fun i i0 i1=>by rw [hw i i0 i1];exact dst_vadd h.fld (h.wd_out i) ho (by rw [h.wl];omega)
end COk
noncomputable def coL (c:Cod) (y:List Int):List Int:=if neE c y=0 then hisTo (c.N+1) (fun i=>dst (c.w i) y) c.n else []
theorem coL_no {c:Cod} {y:List Int} (h:neE c y≠0):coL c y = []:=if_neg h
theorem ne_zero {c:Cod} {y:List Int}:neE c y=0↔wrdE c y=0/\sizE c=0:=by
 unfold neE
 by_cases h:wrdE c y=0
 ·rw [if_pos h];exact ⟨fun h2=>⟨h,h2⟩,fun h2=>h2.2⟩
 ·rw [if_neg h];exact ⟨fun h2=>absurd h2 h,fun h2=>absurd h2.1 h⟩
theorem dst_rng {c:Cod} (hk:COk c) (y:List Int) (i:Int):0<=dst (c.w i) y/\dst (c.w i) y<c.N+1:=by
 have h1:=dst_le (c.w i) y
 have h2:=(dst_bd (c.w i) y).1
 have h3:((c.w i).length:Int)=c.N:=hk.wdl i
 exact ⟨h2,by omega⟩
theorem co_ref {c:Cod} {y:List Int} (h:neE c y=0):hisTo (y.length+1) (fun z=>dst (ix [] (wds c.F c.N c.Gen) z) y) (wds c.F c.N c.Gen).length=coL c y:=by
 obtain ⟨hw,hs⟩:=ne_zero.1 h
 obtain ⟨hk,hl,ho⟩:=wrdE_zero.1 hw
 unfold coL
 rw [if_pos h,his_wds (fun w=>dst w y),hl]
end Go.Cw
set_option linter.unusedVariables false
set_option linter.unusedSimpArgs false
set_option linter.unusedSectionVars false
namespace Go.Cw
def hisOn (L:List Int) (g:Int->Int) (s:Int):Nat->List Int
 | 0=>L
 | k+1=>(hisOn L g s k).set (g k).toNat (ix 0 (hisOn L g s k) (g k)+s)
@[simp] theorem length_hisOn (L:List Int) (g:Int->Int) (s:Int):∀k,(hisOn L g s k).length=L.length
 | 0=>rfl
 | k+1=>by simp [hisOn,length_hisOn L g s k]
theorem ix_set (l:List Int) {i j v:Int} (i0:0<=i) (i1:i<l.length) (j0:0<=j):ix 0 (l.set i.toNat v) j=if i=j then v else ix 0 l j:=by
 unfold ix
 rw [List.getD_eq_getElem?_getD,List.getD_eq_getElem?_getD]
 by_cases e:i=j
 ·subst e;rw [if_pos rfl,List.getElem?_set_self (by omega)];rfl
 ·rw [if_neg e,List.getElem?_set_ne (by omega)]
def lens (l:List (List Int)) (n:Int):Prop:=∀i:Int,0<=i->i<l.length->((ix [] l i).length:Int)=n
def dg (l:List (List Int)) (a:Int):Int->Int:=fun b=>dst (ix [] l a) (ix [] l b)
def disR (l:List (List Int)) (n:Int):Nat->List Int
 | 0=>List.replicate (n+1).toNat 0
 | k+1=>hisOn (disR l n k) (dg l k) 1 l.length
def disP (l:List (List Int)) (n:Int):Nat->List Int
 | 0=>(List.replicate (n+1).toNat 0).set 0 l.length
 | k+1=>hisOn (disP l n k) (dg l k) 2 k
@[simp] theorem length_disR (l:List (List Int)) (n:Int):∀k,(disR l n k).length=(n+1).toNat
 | 0=>by simp [disR]
 | k+1=>by simp [disR,length_disR l n k]
@[simp] theorem length_disP (l:List (List Int)) (n:Int):∀k,(disP l n k).length=(n+1).toNat
 | 0=>by simp [disP]
 | k+1=>by simp [disP,length_disP l n k]
section
variable {l : List (List Int)} {n : Int}
theorem dst_self (a:List Int):dst a a=0:=dstTo_zero.2 fun _ _ _=>rfl
theorem pairs (l:List (List Int)) (j:Int):∀k:Nat,smT (fun a=>cntTo (dg l a) j k) k=(if 0=j then (k:Int) else 0)+2*smT (fun a=>cntTo (dg l a) j a.toNat) k
 | 0=>by
  show (0:Int)=(if 0=j then ((0:Nat):Int) else 0)+2*0
  split <;> rfl
 | k+1=>by
  have ih:=pairs l j k
  have e1:smT (fun a=>cntTo (dg l a) j (k+1)) k=smT (fun a=>cntTo (dg l a) j k) k+cntTo (dg l k) j k:=by
   have : smT (fun a=>cntTo (dg l a) j (k+1)) k=smT (fun a=>cntTo (dg l a) j k+(if dg l a k=j then 1 else 0)) k:=rfl
   rw [this,smT_add,cnt_smT (dg l k)]
   congr 1
   exact smT_congr fun a _ _=>by unfold dg;rw [dst_symm]
  have e2:cntTo (dg l k) j (k+1)=cntTo (dg l k) j k+(if 0=j then 1 else 0):=by
   show cntTo (dg l k) j k+(if dg l k k=j then 1 else 0)=_
   rw [show dg l k k=0 from dst_self _]
  rw [smT,smT,e1,e2,ih,show ((k:Int)).toNat=k by omega]
  split <;> omega
end
end Go.Cw
set_option linter.unusedVariables false
set_option linter.unusedSimpArgs false
set_option linter.unusedSectionVars false
namespace Go.Cw
theorem canR_idem {f:Fld} {n:Nat} {X:List (List Int)} (h:FOk f) (hX:good f n X):canR (elim f (canR (elim f X [] n)) [] n)=canR (elim f X [] n):=by
 have hg:=canR_good h.1 hX n
 have hl:=length_canR f X n
 have s1:=elim_span h hX n
 refine (can_uniq h hg hX (fun i hi=>?_) (fun i hi=>?_)).2
 ·rw [km_canR h (by omega)]
  exact s1.1 i (by have:=piv_le f X [] n;omega)
 ·have hm:ix [] X i∈X:=ix_mem [] X (i:=(i:Int)) (by omega) (by omega)
  have e:=can_row h hX hm
  have hk:km h X i=kv h (ix [] X i):=by rw [ix_nat];rfl
  rw [hk,<- e,kv_comb h (fun l hl'=>by have:=(hg l hl').1;omega) (by simp;omega)]
  exact ⟨_,rfl⟩
def dua (c:Cod):Cod:=⟨c.F,c.N,nullR c.F c.Gen c.N⟩
namespace COk
variable {c : Cod}
theorem rows_can (hk:COk c):canR (elim c.F c.Gen [] c.N.toNat)=c.Gen:=by
 have:=hk.can
 rw [canM_ok hk.mat] at this
 exact this
theorem good (hk:COk c):good c.F c.N.toNat c.Gen:=mat_good hk.gmat
theorem dim_dua (hk:COk c):((dua c).Gen.length:Int)+c.Gen.length=c.N:=by
 have hd:=null_dim hk.fld hk.good
 have hl:=length_canR c.F c.Gen c.N.toNat
 have hn:=hk.n1
 rw [hk.rows_can] at hl
 show ((nullR c.F c.Gen c.N).length:Int)+_=_
 rw [show ((c.N.toNat:Nat):Int)=c.N by omega] at hd
 omega
theorem good_dua (hk:COk c):Go.Cw.good c.F c.N.toNat (dua c).Gen:=canR_good hk.fld.1 (ker_good hk.fld.1 _ _ _ _) _
theorem mat_dua (hk:COk c):mErr c.F ⟨c.N,(dua c).Gen⟩=0:=by
 have hn:=hk.n1;have h64:=hk.n64;have hd:=hk.dim_dua
 exact mErr_zero.2 ⟨hk.fld,good_mat (by show 0<=c.N;omega) (by show c.N<=256;omega) (by show (dua c).Gen.length<=256;omega) hk.good_dua⟩
theorem dua (hk:COk c):COk (dua c) where
 fld:=hk.fld
 n1:=hk.n1
 n64:=hk.n64
 mat:=hk.mat_dua
 can:=by
  show (canM c.F ⟨c.N,(Go.Cw.dua c).Gen⟩).rows=(Go.Cw.dua c).Gen
  rw [canM_ok hk.mat_dua]
  exact canR_idem hk.fld (ker_good hk.fld.1 _ _ _ _)
end COk
theorem kerM_code {c:Cod} (hk:COk c):kerM c.F c.m=⟨c.N,(dua c).Gen⟩:=kerM_ok hk.mat
theorem expE_err {q k m:Int} (h:expE q k m≠0):expE q k m=8:=by
 unfold expE at h ⊢
 split
 ·rename_i h1;rw [if_pos h1] at h;exact absurd rfl h
 ·rfl
structure Tly where
 dual:Bool
 count:List Int
end Go.Cw
set_option linter.unusedVariables false
set_option linter.unusedSimpArgs false
set_option linter.unusedSectionVars false
namespace Go.Cw
theorem smT_app (h:Int->Int) (a:Nat):∀b:Nat,smT h (a+b)=smT h a+smT (fun i=>h (a+i)) b
 | 0=>by simp [smT]
 | b+1=>by
  rw [show a+(b+1)=(a+b)+1 from rfl,smT,smT,smT_app h a b,show ((a+b:Nat):Int)=(a:Int)+b by omega];omega
def binT:Nat->Int->Int
 | 0,j=>if j=0 then 1 else 0
 | n+1,j=>binT n j+binT n (j-1)
theorem ix_apl {a b:List Int} {j:Int} (h0:0<=j) (h1:j<a.length):ix 0 (a++b) j=ix 0 a j:=by
 unfold ix;simp only [List.getD];rw [List.getElem?_append_left (by omega)]
theorem ix_apr {a b:List Int}:ix 0 (a++b) a.length=ix 0 b 0:=by
 unfold ix;simp only [List.getD];rw [List.getElem?_append_right (by omega),show ((a.length:Int)).toNat-a.length=(0:Int).toNat by omega]
def spK (P:List Int):Nat->Int
 | 0=>0
 | i+1=>if spK P i<P.length/\ix 0 P (spK P i)=i then spK P i+1 else spK P i
def spJ (P:List Int) (R:Int):Nat->Int
 | 0=>0
 | i+1=>if spK P i<P.length/\ix 0 P (spK P i)=i then spJ P R i else if spJ P R i<R then spJ P R i+1 else spJ P R i
def spO (P d:List Int) (n:Int):Nat->List Int
 | 0=>List.replicate n.toNat 0
 | i+1=>if spK P i<P.length/\ix 0 P (spK P i)=i then spO P d n i else if spJ P d.length i<d.length then (spO P d n i).set i (ix 0 d (spJ P d.length i)) else spO P d n i
def sprd (n:Int) (P d:List Int):List Int:=spO P d n n.toNat
@[simp] theorem length_spO (P d:List Int) (n:Int):∀i:Nat,(spO P d n i).length=n.toNat
 | 0=>List.length_replicate
 | i+1=>by
  unfold spO
  split
  ·exact length_spO P d n i
  ·split
   ·rw [List.length_set];exact length_spO P d n i
   ·exact length_spO P d n i
section
variable {P : List Int} (hi : ∀ a b : Int, 0 <= a -> a < b -> b < P.length -> ix 0 P a < ix 0 P b) (h0 : ∀ a : Int, 0 <= a -> a < P.length -> 0 <= ix 0 P a)
include hi h0
end
@[simp] theorem length_sprd (n:Int) (P d:List Int):(sprd n P d).length=n.toNat:=length_spO _ _ _ _
theorem vadd_vneg {f:Fld} (h:FOk f) (y:List Int):vadd f y (vneg f y)=List.replicate y.length 0:=by
 refine kv_ext h (vadd_out h.1 _ _) (notOut_zero h.1 _) (by simp) fun j _=>?_
 rw [kv_vadd h (by simp),kv_vneg,kv_zeros,Fi.add_neg]
theorem wt_vsub {f:Fld} (h:FOk f) {x y:List Int} (hx:¬outF f x) (hy:¬outF f y) (hl:x.length=y.length):wt (vadd f x (vneg f y))=dst x y:=by
 rw [<- dst_vadd h hx hy hl (u:=vneg f y),vadd_vneg h]
 exact (dst_zeros (by simp;omega)).symm
noncomputable def cosW (c:Cod) (i:Int):List Int:=sprd c.N (canP c.F c.m) (dgs c.F.q (dua c).Gen.length i)
namespace COk
variable {c : Cod}
theorem pos_n (h:COk c):0<(c.n:Int):=by
 have:=Int.pow_pos (n:=c.F.q) (m:=c.Gen.length) (by have:=h.q2;omega)
 have:=h.cn;omega
end COk
end Go.Cw
set_option linter.unusedVariables false
set_option linter.unusedSimpArgs false
set_option linter.unusedSectionVars false
namespace Go.Cw
def ld:List Int->Int
 | []=>0
 | x::l=>if x=0 then ld l+1 else 0
section
variable {P d : List Int} {n R i : Int} (h0 : 0 <= i)
include h0
end
def bnR (n m:Int):List Int:=mapR (fun z=>binT m.toNat z) (n+1)
def bnL (n m k:Int):List Int:=mapR (fun z=>if k<z then binT m.toNat z else binT (m-1).toNat z) (n+1)
@[simp] theorem length_bnR (n m:Int):(bnR n m).length=(n+1).toNat:=A_j _ _
@[simp] theorem length_bnL (n m k:Int):(bnL n m k).length=(n+1).toNat:=A_j _ _
noncomputable def totL (c:Cod) (i:Int):List Int:=mapR (fun j=>smT (fun t=>ix 0 (coL c (cosW c t)) j) i.toNat) (c.N+1)
@[simp] theorem length_totL (c:Cod) (i:Int):(totL c i).length=(c.N+1).toNat:=A_j _ _
theorem coL_facts {c:Cod} {y:List Int} (h:neE c y=0):((coL c y).length:Int)=c.N+1/\∀j:Int,0<=j->j<c.N+1->0<=ix 0 (coL c y) j/\ix 0 (coL c y) j<=c.n:=by
 obtain ⟨hw,hs⟩:=ne_zero.1 h
 obtain ⟨hk,hl,ho⟩:=wrdE_zero.1 hw
 have hn:=hk.n1
 unfold coL
 rw [if_pos h]
 exact ⟨by rw [length_hisTo];omega,fun j j0 j1=>his_bd (fun z _ _=>dst_rng hk _ z) j0 j1⟩
end Go.Cw
set_option linter.unusedVariables false
set_option linter.unusedSimpArgs false
set_option linter.unusedSectionVars false
namespace Go.Cw
noncomputable def csE (c:Cod):Int:=if codE c=0 then sizE (dua c) else codE c
noncomputable def csV (c:Cod):Int:=if csE c=0 then c.F.q^(dua c).Gen.length else 0
noncomputable def wsE (c:Cod) (y:List Int):Int:=if wrdE c y=0 then csE c else wrdE c y
noncomputable def opE (c:Cod) (y:List Int) (has:Bool):Int:=if has=true then wsE c y else csE c
theorem csE_code {c:Cod} (h:codE c≠0):csE c=codE c:=if_neg h
theorem csE_siz {c:Cod} (h:codE c=0):csE c=sizE (dua c):=if_pos h
theorem csE_zero {c:Cod}:csE c=0↔COk c/\c.F.q^(dua c).Gen.length<=65536:=by
 constructor
 ·intro h
  have h0:codE c=0:=Classical.byContradiction fun hn=>by rw [csE_code hn] at h;exact hn h
  rw [csE_siz h0] at h
  exact ⟨codE_zero.1 h0,(sizE_zero.1 h).2⟩
 ·rintro ⟨h1,h2⟩
  rw [csE_siz (codE_zero.2 h1)]
  exact sizE_zero.2 ⟨h1.dua,h2⟩
theorem ws_word {c:Cod} {y:List Int} (h:wsE c y=0):wrdE c y=0:=Classical.byContradiction fun hn=>by unfold wsE at h;rw [if_neg hn] at h;exact hn h
theorem ws_cs {c:Cod} {y:List Int} (h:wsE c y=0):csE c=0:=by have hw:=ws_word h;unfold wsE at h;rw [if_pos hw] at h;exact h
theorem csE_exp {c:Cod} (hk:COk c):csE c=expE c.F.q ((dua c).Gen.length:Int) 65536:=by
 rw [csE_siz (codE_zero.2 hk)]
 exact sizE_exp (codE_zero.2 hk.dua)
theorem csV_exp {c:Cod} (hk:COk c):csV c=expF c.F.q ((dua c).Gen.length:Int) 65536:=by
 unfold csV
 rw [csE_exp hk]
 unfold expE expF
 rw [Int.toNat_natCast]
 by_cases h:c.F.q^(dua c).Gen.length<=65536
 ·rw [if_pos h,if_pos h,if_pos rfl]
 ·rw [if_neg h,if_neg h,if_neg (by decide)]
theorem dua_len {c:Cod} (hk:COk c):c.N-(c.Gen.length:Int)=((dua c).Gen.length:Int):=by have:=hk.dim_dua;omega
theorem wrdE_code {c:Cod} {y:List Int} (h:codE c≠0):wrdE c y=codE c:=if_neg h
theorem opE_code {c:Cod} {y:List Int} {d:Bool} (h:codE c≠0):opE c y d=codE c:=by
 unfold opE wsE
 split
 ·rw [wrdE_code h,if_neg h]
 ·exact csE_code h
theorem opE_word {c:Cod} {y:List Int} {d:Bool} (hd:d=true) (h:wrdE c y≠0):opE c y d=wrdE c y:=by
 unfold opE wsE;rw [if_pos hd,if_neg h]
theorem opE_cs {c:Cod} {y:List Int} {d:Bool} (h:d=false\/wrdE c y=0):opE c y d=csE c:=by
 unfold opE wsE
 by_cases hd:d=true
 ·rw [if_pos hd,if_pos (h.resolve_left (by simp [hd]))]
 ·rw [if_neg hd]
theorem opE_zero {c:Cod} {y:List Int} {d:Bool} (h:opE c y d=0):csE c=0/\(d=true->wrdE c y=0):=by
 unfold opE wsE at h
 by_cases hd:d=true
 ·rw [if_pos hd] at h
  by_cases hw:wrdE c y=0
  ·rw [if_pos hw] at h;exact ⟨h,fun _=>hw⟩
  ·rw [if_neg hw] at h;exact absurd h hw
 ·rw [if_neg hd] at h;exact ⟨h,fun h2=>absurd h2 hd⟩
def synL (c:Cod) (y:List Int):List Int:=mapR (fun i=>dotF c.F (ix [] (dua c).Gen i) y) (dua c).Gen.length
noncomputable def synE (c:Cod) (y:List Int):List Int:=if wrdE c y=0 then synL c y else []
noncomputable def syV (c:Cod) (y:List Int):Int:=if wsE c y=0 then valD c.F.q (synL c y) else 0
@[simp] theorem length_synL (c:Cod) (y:List Int):(synL c y).length=(dua c).Gen.length:=by unfold synL;rw [A_j];omega
def valT (q:Int) (l:List Int) (i:Int):Int:=valD q (l.take i.toNat)
theorem valT_step {q:Int} {l:List Int} {i:Int} (h0:0<=i) (h1:i<l.length):valT q l (i+1)=valT q l i*q+ix 0 l i:=by
 unfold valT
 rw [show (i+1).toNat=i.toNat+1 by omega,List.take_succ_eq_append_getElem (by omega),valD_snoc]
 congr 1
 have:=ix_nat 0 l i.toNat
 rw [show ((i.toNat:Nat):Int)=i by omega] at this
 rw [this,List.getD_eq_getElem?_getD,List.getElem?_eq_getElem (by omega)]
 rfl
theorem valT_all {q:Int} {l:List Int} {i:Int} (h:(l.length:Int)<=i):valT q l i=valD q l:=by
 unfold valT;rw [List.take_of_length_le (by omega)]
theorem valT_bd {f:Fld} (hS:Shape f) {l:List Int} (ho:¬outF f l) (hx:f.q^l.length<=65536) {i:Int} (h0:0<=i) (h1:i<=l.length):0<=valT f.q l i/\valT f.q l i<65536:=by
 have hb:=hS.bd
 have h:=valD_dgs (q:=f.q) (by omega) i.toNat (l.take i.toNat) (by rw [List.length_take];omega) (fun x hx=>outF_no ho (List.mem_of_mem_take hx))
 have hm:=pow_mono_of f.q (by omega) (show i.toNat<=l.length by omega)
 unfold valT;omega
def colS (D:List (List Int)) (n j m:Int):List (List Int):=mapR (fun i=>if i<j then D.map (fun r=>ix 0 r i) else if i=j then (D.take m.toNat).map (fun r=>ix 0 r i) else []) n
@[simp] theorem length_colS (D:List (List Int)) (n j m:Int):(colS D n j m).length=n.toNat:=A_j _ _
theorem colS_zero (D:List (List Int)) {n:Int}:colS D n 0 0=List.replicate n.toNat []:=by
 refine ext_ix [] (by simp) fun i i0 i1=>?_
 rw [length_colS] at i1
 unfold colS
 rw [A_w [] _ i0 (by omega),if_neg (by omega)]
 have hr:ix [] (List.replicate n.toNat ([]:List Int)) i = []:=by unfold ix;simp only [List.getD];rw [List.getElem?_replicate];split <;> rfl
 rw [hr]
 split <;> simp
theorem colS_next (D:List (List Int)) {n j m:Int} (hj:0<=j) (hm:(D.length:Int)<=m):colS D n j m=colS D n (j+1) 0:=by
 refine ext_ix [] (by simp) fun i i0 i1=>?_
 rw [length_colS] at i1
 unfold colS
 rw [A_w [] _ i0 (by omega),A_w [] _ i0 (by omega),List.take_of_length_le (by omega)]
 by_cases h1:i<j
 ·rw [if_pos h1,if_pos (by omega)]
 ·rw [if_neg h1]
  by_cases h2:i=j
  ·rw [if_pos h2,if_pos (by omega)]
  ·rw [if_neg h2,if_neg (by omega)]
   split <;> simp
theorem colS_all (D:List (List Int)) {n j:Int} (hj:n<=j):colS D n j 0=turnL D n:=by
 refine ext_ix [] (by rw [length_colS];unfold turnL;rw [A_j]) fun i i0 i1=>?_
 rw [length_colS] at i1
 unfold colS turnL
 rw [A_w [] _ i0 (by omega),A_w [] _ i0 (by omega),if_pos (by omega)]
theorem ix_colS (D:List (List Int)) {n j m:Int} (h0:0<=j) (h1:j<n):ix [] (colS D n j m) j=(D.take m.toNat).map (fun r=>ix 0 r j):=by
 unfold colS
 rw [A_w [] _ h0 h1,if_neg (by omega),if_pos rfl]
theorem colS_step (D:List (List Int)) {n j m:Int} (h0:0<=j) (h1:j<n) (m0:0<=m) (m1:m<D.length):(colS D n j m).set j.toNat (ix [] (colS D n j m) j++[ix 0 (ix [] D m) j])=colS D n j (m+1):=by
 have e:(D.take m.toNat).map (fun r=>ix 0 r j)++[ix 0 (ix [] D m) j]=(D.take (m+1).toNat).map (fun r=>ix 0 r j):=by
  rw [show (m+1).toNat=m.toNat+1 by omega,List.take_succ_eq_append_getElem (by omega),List.map_append]
  congr 1
  have:=ix_nat [] D m.toNat
  rw [show ((m.toNat:Nat):Int)=m by omega] at this
  rw [this,List.getD_eq_getElem?_getD,List.getElem?_eq_getElem (by omega)]
  rfl
 rw [ix_colS D h0 h1,e]
 refine ext_ix [] (by simp) fun i i0 i1=>?_
 rw [List.length_set,length_colS] at i1
 rw [ix_setE [] _ _ h0 (by rw [length_colS];omega) i0]
 unfold colS
 rw [A_w [] _ i0 (by omega),A_w [] _ i0 (by omega)]
 by_cases h2:i=j
 ·rw [if_pos h2,if_neg (by omega),if_pos h2,h2]
 ·rw [if_neg h2,if_neg h2,if_neg h2]
theorem dot_word {c:Cod} (hk:COk c) {x:List Int} (hx:x∈(dua c).Gen) (v:Int):La.sm (fun j=>kv hk.fld x j*kv hk.fld (c.w v) j) c.N.toNat=0:=by
 have hg:=(hk.good_dua x hx).1
 have hsp:La.Span (km hk.fld c.Gen) c.Gen.length (kv hk.fld (c.w v)):=by
  show La.Span _ _ (kv hk.fld (comb c.F _ c.Gen c.N))
  rw [hk.kvw (by simp)]
  exact ⟨_,rfl⟩
 refine La.Span.ind (Φ:=fun u=>La.sm (fun j=>kv hk.fld x j*u j) c.N.toNat=0) ?_ ?_ ?_ (m:=c.Gen.length) (fun i hi=>?_) _ hsp
 ·exact La.sm_zero fun j _=>Fi.mul_zero _
 ·intro u w hu hw
  rw [show (fun j=>kv hk.fld x j*(u j+w j))=fun j=>kv hk.fld x j*u j+kv hk.fld x j*w j from funext fun j=>Fi.mul_add _ _ _,La.sm_add,hu,hw,Fi.add_zero]
 ·intro a u hu
  rw [show (fun j=>kv hk.fld x j*(a*u j))=fun j=>a*(kv hk.fld x j*u j) from funext fun j=>by ac_rfl,La.sm_mul,hu,Fi.mul_zero]
 ·have hm:ix [] c.Gen i∈c.Gen:=ix_mem [] _ (i:=(i:Int)) (by omega) (by omega)
  have hx':x∈nullR c.F c.Gen ((c.N.toNat:Nat):Int):=by
   have:=hk.n1
   rw [show ((c.N.toNat:Nat):Int)=c.N by omega]
   exact hx
  have h0:=null_orth hk.fld hk.good hx' hm
  have hd:=ke_dot hk.fld x (ix [] c.Gen i) (n:=c.N.toNat) (by omega)
  rw [h0,ke_zero] at hd
  rw [hd]
  refine La.sm_congr fun j _=>?_
  rw [show km hk.fld c.Gen i j=kv hk.fld (ix [] c.Gen i) j by rw [ix_nat];rfl]
theorem synL_add {c:Cod} (hk:COk c) {y:List Int} (hy:(y.length:Int)=c.N) (v:Int):synL c (vadd c.F y (c.w v))=synL c y:=by
 refine ext_ix 0 (by simp) fun i i0 i1=>?_
 rw [length_synL] at i1
 unfold synL
 rw [A_w 0 _ i0 i1,A_w 0 _ i0 i1]
 have hm:ix [] (dua c).Gen i∈(dua c).Gen:=ix_mem [] _ i0 i1
 have hg:=(hk.good_dua _ hm).1
 have r1:=dot_lt hk.fld.1 (ix [] (dua c).Gen i) (vadd c.F y (c.w v))
 have r2:=dot_lt hk.fld.1 (ix [] (dua c).Gen i) y
 refine ke_inj hk.fld r1.1 r1.2 r2.1 r2.2 ?_
 have hF:(dua c).F=c.F:=rfl
 rw [ke_dot hk.fld _ _ (n:=c.N.toNat) (by omega),ke_dot hk.fld _ _ (n:=c.N.toNat) (by omega)]
 rw [show (fun j=>kv hk.fld (ix [] (dua c).Gen i) j*kv hk.fld (vadd c.F y (c.w v)) j)=fun j=>kv hk.fld (ix [] (dua c).Gen i) j*kv hk.fld y j+kv hk.fld (ix [] (dua c).Gen i) j*kv hk.fld (c.w v) j from funext fun j=>by
  rw [kv_vadd hk.fld (by rw [hk.wl];omega),Fi.mul_add],La.sm_add,dot_word hk hm v,Fi.add_zero]
def awK:Cod:=⟨awF,2,[]⟩
theorem awk_m:mErr awF awK.m=0:=mErr_zero.2 ⟨aw_f,matErr_zero.2 ⟨by simp [sizeBad,awK,Cod.m],not_ragged (by simp [awK,Cod.m]),not_badRow (by decide +kernel)⟩⟩
theorem awk_ok:COk awK:=⟨aw_f,by decide,by decide,awk_m,by rw [show awK.F=awF from rfl,canM_ok awk_m];show canR (canX awF awK.m)=_;decide +kernel⟩
theorem awk_e:csE awK=0:=csE_zero.2 ⟨awk_ok,by decide +kernel⟩
theorem awk_v:csV awK=4:=by unfold csV;rw [if_pos awk_e];decide +kernel
def idxF (f:Fld):List Int->Int->Int
 | [],_=>-1
 | x::l,i=>if 0<=x/\x<f.q then idxF f l (i+1) else i
theorem idx_next {f:Fld} {l:List Int} {i:Int} (h0:0<=i) (h1:i<l.length) (h:0<=ix 0 l i/\ix 0 l i<f.q):idxF f (l.drop i.toNat) i=idxF f (l.drop (i+1).toNat) (i+1):=by
 rw [drop_ix h0 h1,idxF,if_pos h,show (i+1).toNat=i.toNat+1 by omega]
theorem idx_hit {f:Fld} {l:List Int} {i:Int} (h0:0<=i) (h1:i<l.length) (h:¬(0<=ix 0 l i/\ix 0 l i<f.q)):idxF f (l.drop i.toNat) i=i:=by
 rw [drop_ix h0 h1,idxF,if_neg h]
theorem idx_end {f:Fld} {l:List Int} {i:Int} (h:(l.length:Int)<=i):idxF f (l.drop i.toNat) i = -1:=by
 rw [List.drop_of_length_le (by omega)];rfl
theorem idx_out {f:Fld}:∀ {l:List Int} {i:Int},0<=i->(0<=idxF f l i↔outF f l)
 | [],i,h=>⟨fun h2=>absurd h2 (by show ¬(0:Int) <= -1;decide),fun ⟨x,hx,_⟩=>by cases hx⟩
 | x::l,i,h=>by
  unfold idxF
  by_cases hx:0<=x/\x<f.q
  ·rw [if_pos hx,idx_out (l:=l) (by omega)]
   exact ⟨fun ⟨y,hy,hn⟩=>⟨y,List.mem_cons_of_mem _ hy,hn⟩,fun ⟨y,hy,hn⟩=>by
    rcases List.mem_cons.1 hy with e | e
    ·rw [e] at hn;exact absurd hx hn
    ·exact ⟨y,e,hn⟩⟩
  ·rw [if_neg hx]
   exact ⟨fun _=>⟨x,List.mem_cons_self,hx⟩,fun _=>h⟩
end Go.Cw
set_option linter.unusedVariables false
set_option linter.unusedSimpArgs false
set_option linter.unusedSectionVars false
namespace Go.Cw
theorem valD_fold (q:Int):∀(l:List Int) (a:Int),l.foldl (fun a d=>a*q+d) a=a*q^l.length+valD q l
 | [],a=>by show a=a*q^0+0;rw [Int.pow_zero];omega
 | d::l,a=>by
  have h1:=valD_fold q l (a*q+d)
  have h2:=valD_fold q l (0*q+d)
  show l.foldl (fun a d=>a*q+d) (a*q+d)=a*q^(l.length+1)+l.foldl (fun a d=>a*q+d) (0*q+d)
  rw [h1,h2,Int.zero_mul,Int.zero_add,Int.add_mul,Int.pow_succ,Int.mul_assoc,Int.mul_comm q]
  omega
theorem valD_cons (q d:Int) (l:List Int):valD q (d::l)=d*q^l.length+valD q l:=by
 have:=valD_fold q l (0*q+d)
 show l.foldl (fun a d=>a*q+d) (0*q+d)=_
 rw [this,Int.zero_mul,Int.zero_add]
def sufV (q:Int) (G:Int->Int) (n i:Int):Int:=valD q ((mapR G n).drop (i+1).toNat)
theorem sufV_top (q:Int) (G:Int->Int) (n:Int):sufV q G n (n-1)=0:=by
 unfold sufV
 rw [List.drop_of_length_le (by rw [A_j];omega)];rfl
theorem sufV_step (q:Int) (G:Int->Int) {n i:Int} (h0:0<=i) (h1:i<n):sufV q G n (i-1)=sufV q G n i+q^(n-1-i).toNat*G i:=by
 unfold sufV
 have hl:(mapR G n).length=n.toNat:=A_j _ _
 rw [show (i-1+1).toNat=i.toNat by omega,drop_ix h0 (by omega),valD_cons,A_w 0 _ h0 h1,List.length_drop,hl,show n.toNat-(i.toNat+1)=(n-1-i).toNat by omega,show (i+1).toNat=i.toNat+1 by omega,Int.mul_comm]
 omega
theorem sufV_all (q:Int) (G:Int->Int) (n:Int) {i:Int} (h:i<0):sufV q G n i=valD q (mapR G n):=by
 unfold sufV
 rw [show (i+1).toNat=0 by omega];rfl
def sufL (G:Int->Int) (n i:Int):List Int:=mapR (fun z=>if i<z then G z else 0) n
@[simp] theorem length_sufL (G:Int->Int) (n i:Int):(sufL G n i).length=n.toNat:=A_j _ _
theorem sufL_top (G:Int->Int) (n:Int):List.replicate n.toNat (0:Int)=sufL G n (n-1):=by
 refine ext_ix 0 (by simp) fun z z0 z1=>?_
 have hl:(List.replicate n.toNat (0:Int)).length=n.toNat:=List.length_replicate
 unfold sufL
 rw [ix_zeros,A_w 0 _ z0 (by omega),if_neg (by omega)]
theorem sufL_set (G:Int->Int) {n i:Int} (h0:0<=i) (h1:i<n):(sufL G n i).set i.toNat (G i)=sufL G n (i-1):=by
 refine ext_ix 0 (by simp) fun z z0 z1=>?_
 rw [List.length_set,length_sufL] at z1
 rw [ix_set (sufL G n i) h0 (by rw [length_sufL];omega) z0]
 unfold sufL
 rw [A_w 0 _ z0 (by omega),A_w 0 _ z0 (by omega)]
 by_cases h:i=z
 ·rw [if_pos h,if_pos (by omega),h]
 ·rw [if_neg h]
  by_cases h2:i<z
  ·rw [if_pos h2,if_pos (by omega)]
  ·rw [if_neg h2,if_neg (by omega)]
theorem sufL_all (G:Int->Int) (n:Int) {i:Int} (h:i<0):sufL G n i=mapR G n:=by
 refine ext_ix 0 (by simp) fun z z0 z1=>?_
 rw [length_sufL] at z1
 unfold sufL
 rw [A_w 0 _ z0 (by omega),A_w 0 _ z0 (by omega),if_pos (by omega)]
def dig (q n x i:Int):Int:=x/q^(n-1-i).toNat%q
theorem dig_rng {q:Int} (hq:2<=q) (n x i:Int):0<=dig q n x i/\dig q n x i<q:=⟨Int.emod_nonneg _ (by omega),Int.emod_lt_of_pos _ (by omega)⟩
theorem dig_dgs {q:Int} (hq:2<=q):∀(n:Nat) (x:Int),mapR (dig q n x) n=dgs q n x
 | 0,x=>rfl
 | n+1,x=>by
  have ih:=dig_dgs hq n x
  rw [dgs_top (by omega),<- ih]
  refine ext_ix 0 (by simp) fun z z0 z1=>?_
  rw [A_j] at z1
  rw [A_w 0 _ z0 (by omega)]
  by_cases h:z=0
  ·subst h
   show dig q ((n+1:Nat):Int) x 0=x/q^n%q
   unfold dig
   rw [show ((((n+1:Nat):Int))-1-0).toNat=n by omega]
  ·have e:ix 0 ((x/q^n%q)::mapR (dig q n x) n) z=ix 0 (mapR (dig q n x) n) (z-1):=by
    unfold ix;rw [show z.toNat=(z-1).toNat+1 by omega];rfl
   rw [e,A_w 0 _ (by omega) (by omega)]
   unfold dig
   rw [show ((((n+1:Nat):Int))-1-z).toNat=((n:Int)-1-(z-1)).toNat by omega]
theorem val_dig {q:Int} (hq:2<=q) (n:Nat) {x:Int} (h0:0<=x) (h1:x<q^n):valD q (mapR (dig q n x) n)=x:=by
 rw [dig_dgs hq]
 obtain ⟨g0,g1,g2⟩:=valD_dgs hq n (dgs q n x) (length_dgs _ _ _) (fun d hd=>by
  rw [<- dig_dgs hq] at hd
  obtain ⟨z,z0,z1,e⟩:=mem_ix 0 hd
  rw [A_j] at z1
  rw [e,A_w 0 _ z0 (by omega)]
  exact dig_rng hq _ _ _)
 exact dgs_inj hq n g0 g1 h0 h1 g2
theorem dig_val {q:Int} (hq:2<=q) (n:Nat) {G:Int->Int} (hG:∀i:Int,0<=i->i<n->0<=G i/\G i<q):0<=valD q (mapR G n)/\valD q (mapR G n)<q^n/\∀i:Int,0<=i->i<n->dig q n (valD q (mapR G n)) i=G i:=by
 obtain ⟨g0,g1,g2⟩:=valD_dgs hq n (mapR G n) (by rw [A_j];omega) (fun d hd=>by
  obtain ⟨z,z0,z1,e⟩:=mem_ix 0 hd
  rw [A_j] at z1
  rw [e,A_w 0 _ z0 (by omega)]
  exact hG z z0 (by omega))
 refine ⟨g0,g1,fun i i0 i1=>?_⟩
 rw [<- dig_dgs hq] at g2
 have : ix 0 (mapR (dig q n (valD q (mapR G n))) n) i=ix 0 (mapR G n) i:=by rw [g2]
 rw [A_w 0 _ i0 i1,A_w 0 _ i0 i1] at this
 exact this
theorem length_turnL (rows:List (List Int)) (cols:Int):(turnL rows cols).length=cols.toNat:=by unfold turnL;rw [A_j]
theorem ix_map {α β:Type} (g:α->β) (l:List α) (d:α) (d':β) {i:Int} (h0:0<=i) (h1:i<l.length):ix d' (l.map g) i=g (ix d l i):=by
 unfold ix;simp only [List.getD,List.getElem?_map];rw [List.getElem?_eq_getElem (by omega)];rfl
def colC (rows:List (List Int)) (j:Int):List Int:=rows.map fun row=>ix 0 row j
@[simp] theorem length_colC (rows:List (List Int)) (j:Int):(colC rows j).length=rows.length:=by simp [colC]
theorem ix_colC (rows:List (List Int)) (j:Int) {i:Int} (h0:0<=i) (h1:i<rows.length):ix 0 (colC rows j) i=ix 0 (ix [] rows i) j:=by
 unfold colC;exact ix_map _ rows [] 0 h0 h1
theorem turnL_ix (rows:List (List Int)) {cols j:Int} (h0:0<=j) (h1:j<cols):ix [] (turnL rows cols) j=colC rows j:=by
 unfold turnL;rw [A_w [] _ h0 h1];rfl
theorem turnL_succ (rows:List (List Int)) {cols j:Int} (h0:0<=j) (h1:j<cols):(turnL rows cols).take (j+1).toNat=(turnL rows cols).take j.toNat++[colC rows j]:=by
 rw [take_succ_ix [] (turnL rows cols) h0 (by rw [length_turnL];omega),turnL_ix rows h0 h1]
def stpV (f:Fld) (h:List Int) (s a:Int):Int:=valD f.q (mapR (fun i=>addF f (dig f.q h.length s i) (mulF f a (ix 0 h i))) h.length)
def dcol (c:Cod) (j:Int):List Int:=ix [] (turnL (dua c).Gen c.N) j
def minV (c:Cod) (x j a:Int):Int:=valD c.F.q (mapR (fun i=>addF c.F (dig c.F.q (dua c).Gen.length x i) (negF c.F (mulF c.F a (ix 0 (dcol c j) i)))) (dua c).Gen.length)
theorem dcol_len (c:Cod) {j:Int} (h0:0<=j) (h1:j<c.N):(dcol c j).length=(dua c).Gen.length:=by
 unfold dcol turnL
 rw [A_w [] _ h0 h1,List.length_map]
theorem ix_dcol (c:Cod) {i j:Int} (h0:0<=j) (h1:j<c.N) (i0:0<=i) (i1:i<(dua c).Gen.length):ix 0 (dcol c j) i=ix 0 (ix [] (dua c).Gen i) j:=by
 unfold dcol turnL
 rw [A_w [] _ h0 h1]
 unfold ix
 simp only [List.getD,List.getElem?_map]
 rw [List.getElem?_eq_getElem (by omega)]
 rfl
theorem mul_neg_left {f:Fld} (h:FOk f) (a x:Int):mulF f (negF f a) x=negF f (mulF f a x):=by
 have r1:=h.1.mulF_lt (negF f a) x
 have r2:=h.1.negF_lt (mulF f a x)
 refine ke_inj h r1.1 r1.2 r2.1 r2.2 ?_
 rw [ke_mul,ke_neg,ke_neg,ke_mul,Fi.neg_mul]
theorem stp_min {c:Cod} (hk:COk c) {x j a:Int} (h0:0<=j) (h1:j<c.N):stpV c.F (dcol c j) x (negF c.F a)=minV c x j a:=by
 unfold stpV minV
 rw [dcol_len c h0 h1]
 congr 1
 refine congrArg (fun g=>mapR g _) (funext fun i=>?_)
 rw [mul_neg_left hk.fld]
theorem min_dig {c:Cod} (hk:COk c) (x j a:Int):0<=minV c x j a/\minV c x j a<c.F.q^(dua c).Gen.length/\∀i:Int,0<=i->i<(dua c).Gen.length->dig c.F.q (dua c).Gen.length (minV c x j a) i=addF c.F (dig c.F.q (dua c).Gen.length x i) (negF c.F (mulF c.F a (ix 0 (dcol c j) i))) :=
 dig_val hk.q2 _ fun i _ _=>hk.fld.1.addF_lt _ _
theorem min_back {c:Cod} (hk:COk c) {x j a:Int} (x0:0<=x) (x1:x<c.F.q^(dua c).Gen.length):minV c (minV c x j a) j (negF c.F a)=x:=by
 have hd:=(min_dig hk x j a).2.2
 have e:mapR (fun i=>addF c.F (dig c.F.q (dua c).Gen.length (minV c x j a) i) (negF c.F (mulF c.F (negF c.F a) (ix 0 (dcol c j) i)))) (dua c).Gen.length=mapR (dig c.F.q (dua c).Gen.length x) (dua c).Gen.length:=by
  refine ext_ix 0 (by simp) fun i i0 i1=>?_
  rw [A_j] at i1
  rw [A_w 0 _ i0 (by omega),A_w 0 _ i0 (by omega),hd i i0 (by omega)]
  have r1:=hk.fld.1.addF_lt (addF c.F (dig c.F.q (dua c).Gen.length x i) (negF c.F (mulF c.F a (ix 0 (dcol c j) i)))) (negF c.F (mulF c.F (negF c.F a) (ix 0 (dcol c j) i)))
  have r2:=dig_rng hk.q2 (dua c).Gen.length x i
  refine ke_inj hk.fld r1.1 r1.2 r2.1 r2.2 ?_
  rw [ke_add,ke_add,ke_neg,ke_neg,mul_neg_left hk.fld,ke_neg,Fi.neg_neg,Fi.add_assoc,Fi.add_comm (-_),Fi.add_neg,Fi.add_zero]
 show valD c.F.q _=x
 rw [e]
 exact val_dig hk.q2 _ x0 x1
theorem negF_one {c:Cod} (hk:COk c) {a:Int} (a0:1<=a) (a1:a<c.F.q):1<=negF c.F a/\negF c.F a<c.F.q:=by
 have r:=hk.fld.1.negF_lt a
 refine ⟨?_,r.2⟩
 apply Classical.byContradiction
 intro hn
 have hz:negF c.F a=0:=by omega
 have hke:ke hk.fld (negF c.F a)=0:=by rw [hz,ke_zero]
 rw [ke_neg] at hke
 have:=congrArg (fun z=>-z) hke
 simp only [Fi.neg_neg,Fi.neg_zero] at this
 have:=(ke_eq_zero hk.fld (by omega) a1).1 this
 omega
theorem dig_cut {q:Int} (hq:2<=q) (x:Int) (m e:Nat):x/q^m*q^m/q^e%q=if e<m then 0 else x/q^e%q:=by
 have hp:∀k:Nat,0<q^k:=fun k=>Int.pow_pos (by omega)
 split
 ·rename_i h
  obtain ⟨d,rfl⟩:∃d,m=e+1+d:=⟨m-(e+1),by omega⟩
  have e1:q^(e+1+d)=q*q^d*q^e:=by rw [Int.pow_add,Int.pow_succ];simp only [Int.mul_assoc,Int.mul_comm,Int.mul_left_comm]
  rw [e1,<- Int.mul_assoc,Int.mul_ediv_cancel _ (by have:=hp e;omega),<- Int.mul_assoc,Int.mul_right_comm]
  exact Int.mul_emod_left _ _
 ·rename_i h
  obtain ⟨d,rfl⟩:∃d,e=m+d:=⟨e-m,by omega⟩
  rw [Int.pow_add,<- Int.ediv_ediv_of_nonneg (Int.le_of_lt (hp m)),Int.mul_ediv_cancel _ (by have:=hp m;omega),<- Int.ediv_ediv_of_nonneg (Int.le_of_lt (hp m))]
theorem sufV_bd {q:Int} (hq:2<=q) {G:Int->Int} {n i:Int} (hG:∀i:Int,0<=i->i<n->0<=G i/\G i<q) (i0 : -1<=i):0<=sufV q G n i/\sufV q G n i<q^(n-1-i).toNat:=by
 have hl:(mapR G n).length=n.toNat:=A_j _ _
 have h:=valD_dgs hq (n-1-i).toNat ((mapR G n).drop (i+1).toNat) (by rw [List.length_drop,hl];omega) (fun d hd=>by
  obtain ⟨z,z0,z1,e⟩:=mem_ix 0 (List.mem_of_mem_drop hd)
  rw [hl] at z1
  rw [e,A_w 0 _ z0 (by omega)]
  exact hG z z0 (by omega))
 exact ⟨h.1,h.2.1⟩
def rowS (G:Int->Int->Int) (M n s m:Int):List (List Int):=mapR (fun i=>if i<s then mapR (G i) M else if i=s then mapR (G i) m else []) n
@[simp] theorem length_rowS (G:Int->Int->Int) (M n s m:Int):(rowS G M n s m).length=n.toNat:=A_j _ _
theorem rowS_zero (G:Int->Int->Int) (M:Int) {n:Int}:rowS G M n 0 0=List.replicate n.toNat []:=by
 refine ext_ix [] (by simp) fun i i0 i1=>?_
 rw [length_rowS] at i1
 unfold rowS
 rw [A_w [] _ i0 (by omega),if_neg (by omega)]
 have hr:ix [] (List.replicate n.toNat ([]:List Int)) i = []:=by unfold ix;simp only [List.getD];rw [List.getElem?_replicate];split <;> rfl
 rw [hr]
 split <;> rfl
theorem rowS_next (G:Int->Int->Int) {M n s m:Int} (hm:m=M):rowS G M n s m=rowS G M n (s+1) 0:=by
 subst hm
 refine ext_ix [] (by simp) fun i i0 i1=>?_
 rw [length_rowS] at i1
 unfold rowS
 rw [A_w [] _ i0 (by omega),A_w [] _ i0 (by omega)]
 by_cases h1:i<s
 ·rw [if_pos h1,if_pos (by omega)]
 ·rw [if_neg h1]
  by_cases h2:i=s
  ·rw [if_pos h2,if_pos (by omega)]
  ·rw [if_neg h2,if_neg (by omega)]
   split <;> rfl
theorem rowS_all (G:Int->Int->Int) {M n s:Int} (hs:n<=s):rowS G M n s 0=mapR (fun i=>mapR (G i) M) n:=by
 refine ext_ix [] (by simp [rowS]) fun i i0 i1=>?_
 rw [length_rowS] at i1
 unfold rowS
 rw [A_w [] _ i0 (by omega),A_w [] _ i0 (by omega),if_pos (by omega)]
theorem ix_rowS (G:Int->Int->Int) {M n s m:Int} (h0:0<=s) (h1:s<n):ix [] (rowS G M n s m) s=mapR (G s) m:=by
 unfold rowS
 rw [A_w [] _ h0 h1,if_neg (by omega),if_pos rfl]
theorem rowS_step (G:Int->Int->Int) {M n s m:Int} (h0:0<=s) (h1:s<n) (m0:0<=m):(rowS G M n s m).set s.toNat (ix [] (rowS G M n s m) s++[G s m])=rowS G M n s (m+1):=by
 rw [ix_rowS G h0 h1,<- mapR_succ _ m0]
 refine ext_ix [] (by simp) fun i i0 i1=>?_
 rw [List.length_set,length_rowS] at i1
 rw [ix_setE [] _ _ h0 (by rw [length_rowS];omega) i0]
 unfold rowS
 rw [A_w [] _ i0 (by omega),A_w [] _ i0 (by omega)]
 by_cases h2:i=s
 ·rw [if_pos h2,if_neg (by omega),if_pos h2,h2]
 ·rw [if_neg h2,if_neg h2,if_neg h2]
def nbG (c:Cod) (s k:Int):Int:=minV c s (k/(c.F.q-1)) (k%(c.F.q-1)+1)
def nbL (c:Cod):List (List Int):=mapR (fun s=>mapR (nbG c s) (c.N*(c.F.q-1))) (c.F.q^(dua c).Gen.length)
theorem nbG_at (c:Cod) (hq:2<=c.F.q) (s:Int) {j a:Int} (a0:1<=a) (a1:a<c.F.q):nbG c s (j*(c.F.q-1)+a-1)=minV c s j a:=by
 unfold nbG
 have e1:(j*(c.F.q-1)+a-1)/(c.F.q-1)=j:=by
  rw [show j*(c.F.q-1)+a-1=(a-1)+j*(c.F.q-1) by omega,Int.add_mul_ediv_right _ _ (by omega),Int.ediv_eq_zero_of_lt (by omega) (by omega),Int.zero_add]
 have e2:(j*(c.F.q-1)+a-1)%(c.F.q-1)=a-1:=by
  rw [show j*(c.F.q-1)+a-1=(a-1)+j*(c.F.q-1) by omega,Int.add_mul_emod_self_right,Int.emod_eq_of_lt (by omega) (by omega)]
 rw [e1,e2,show a-1+1=a by omega]
theorem nb_lt {q N j a:Int} (hq:2<=q) (j0:0<=j) (j1:j<N) (a0:1<=a) (a1:a<q):0<=j*(q-1)/\j*(q-1)+a-1<N*(q-1):=by
 have h1:0<=j*(q-1):=Int.mul_nonneg j0 (by omega)
 have h2:=Int.mul_le_mul_of_nonneg_right (show j+1<=N by omega) (show 0<=q-1 by omega)
 rw [Int.add_mul,Int.one_mul] at h2
 exact ⟨h1,by omega⟩
theorem ix_nbL (c:Cod) {s:Int} (h0:0<=s) (h1:s<c.F.q^(dua c).Gen.length):ix [] (nbL c) s=mapR (nbG c s) (c.N*(c.F.q-1)):=A_w [] _ h0 h1
theorem nb_ent {c:Cod} (hq:2<=c.F.q) {s j a:Int} (h0:0<=s) (h1:s<c.F.q^(dua c).Gen.length) (j0:0<=j) (j1:j<c.N) (a0:1<=a) (a1:a<c.F.q):ix 0 (ix [] (nbL c) s) (j*(c.F.q-1)+a-1)=minV c s j a:=by
 have h:=nb_lt hq j0 j1 a0 a1
 rw [ix_nbL c h0 h1,A_w 0 _ (by omega) h.2,nbG_at c hq s a0 a1]
theorem nb_split {q N k:Int} (hq:2<=q) (k0:0<=k) (k1:k<N*(q-1)):0<=k/(q-1)/\k/(q-1)<N/\1<=k%(q-1)+1/\k%(q-1)+1<q:=by
 have h1:=Int.emod_nonneg k (show q-1≠0 by omega)
 have h2:=Int.emod_lt_of_pos k (show 0<q-1 by omega)
 exact ⟨Int.ediv_nonneg k0 (by omega),(Int.ediv_lt_iff_lt_mul (by omega)).2 k1,by omega,by omega⟩
end Go.Cw
set_option linter.unusedVariables false
set_option linter.unusedSimpArgs false
set_option linter.unusedSectionVars false
namespace Go.Cw
abbrev Lab:=Int×Int×Int
def lbl (ls:List Lab) (x:Int):Lab:=ix (0,0,0) ls x
def LabOk (c:Cod) (ls:List Lab) (x:Int):Prop :=
 (0<=(lbl ls x).2.1/\(lbl ls x).2.1<c.N/\1<=(lbl ls x).2.2/\(lbl ls x).2.2<c.F.q)/\1<=(lbl ls x).1/\(lbl ls (minV c x (lbl ls x).2.1 (lbl ls x).2.2)).1=(lbl ls x).1-1
def Step3 (c:Cod) (ls:List Lab) (x j a:Int):Prop:=¬((lbl ls x).1+1<(lbl ls (minV c x j a)).1\/(lbl ls (minV c x j a)).1<(lbl ls x).1-1)
def Step3R (c:Cod) (ls:List Lab) (x j a:Int):Prop:=¬((lbl ls x).1+1<(lbl ls (minV c x j a)).1)
structure Prv (c:Cod) (ls:List Lab):Prop where
 len:(ls.length:Int)=c.F.q^(dua c).Gen.length
 zero:lbl ls 0=(0,0,0)
 two:∀x:Int,1<=x->x<c.F.q^(dua c).Gen.length->LabOk c ls x
 three:∀x j a:Int,0<=x->x<c.F.q^(dua c).Gen.length->0<=j->j<c.N->1<=a->a<c.F.q->Step3 c ls x j a
structure PrvR (c:Cod) (ls:List Lab):Prop where
 len:(ls.length:Int)=c.F.q^(dua c).Gen.length
 zero:lbl ls 0=(0,0,0)
 two:∀x:Int,1<=x->x<c.F.q^(dua c).Gen.length->LabOk c ls x/\(lbl ls x).1<=c.N
 three:∀x j a:Int,0<=x->x<c.F.q^(dua c).Gen.length->0<=j->j<c.N->1<=a->a<c.F.q->Step3R c ls x j a
noncomputable instance (c:Cod) (ls:List Lab):Decidable (Prv c ls):=Classical.propDecidable _
noncomputable instance (c:Cod) (ls:List Lab):Decidable (PrvR c ls):=Classical.propDecidable _
def cutT (q x:Int) (k:Nat):Int:=x/q^k*q^k
theorem cutT_rng {q x:Int} (hq:2<=q) (h0:0<=x) (k:Nat):0<=cutT q x k/\cutT q x k<=x:=by
 have hp:0<q^k:=Int.pow_pos (by omega)
 exact ⟨Int.mul_nonneg (Int.ediv_nonneg h0 (by omega)) (by omega),Int.ediv_mul_le x (by omega)⟩
theorem cutT_zero (q x:Int):cutT q x 0=x:=by unfold cutT;simp
theorem cutT_all {q x:Int} {n:Nat} (h0:0<=x) (h1:x<q^n):cutT q x n=0:=by unfold cutT;rw [Int.ediv_eq_zero_of_lt h0 h1,Int.zero_mul]
theorem dig_cutT {q:Int} (hq:2<=q) (n:Nat) (x z:Int) (k:Nat):dig q n (cutT q x k) z=if ((n:Int)-1-z).toNat<k then 0 else dig q n x z:=dig_cut hq x k _
theorem dig_ext {q:Int} (hq:2<=q) {n:Nat} {x y:Int} (x0:0<=x) (x1:x<q^n) (y0:0<=y) (y1:y<q^n) (e:∀z:Int,0<=z->z<n->dig q n x z=dig q n y z):x=y:=by
 rw [<- val_dig hq n x0 x1,<- val_dig hq n y0 y1]
 refine congrArg (valD q) (ext_ix 0 (by simp) fun z z0 z1=>?_)
 rw [A_j] at z1
 rw [A_w 0 _ z0 (by omega),A_w 0 _ z0 (by omega),e z z0 (by omega)]
theorem cut_step {c:Cod} (hk:COk c) {x:Int} (x0:0<=x) (x1:x<c.F.q^(dua c).Gen.length) {k:Nat} (hkk:k<(dua c).Gen.length) :
  cutT c.F.q x k=cutT c.F.q x (k+1)\/∃j a:Int,0<=j/\j<c.N/\1<=a/\a<c.F.q/\minV c (cutT c.F.q x k) j a=cutT c.F.q x (k+1):=by
 have hq:=hk.q2
 have hkd:=hk.dua
 have hp:=hkd.plen
 have hpw:0<c.F.q^k:=Int.pow_pos (by omega)
 let i:Int:=((dua c).Gen.length:Int)-1-k
 have hi:i=((dua c).Gen.length:Int)-1-k:=rfl
 have ha:=dig_rng hq ((dua c).Gen.length:Int) x i
 have hau:dig c.F.q ((dua c).Gen.length:Int) x i=x/c.F.q^k%c.F.q:=by unfold dig;rw [hi,show (((dua c).Gen.length:Int)-1-(((dua c).Gen.length:Int)-1-k)).toNat=k by omega]
 by_cases h0:dig c.F.q ((dua c).Gen.length:Int) x i=0
 ·refine .inl ?_
  have hem:=Int.mul_ediv_add_emod (x/c.F.q^k) c.F.q
  rw [hau] at h0
  rw [h0,Int.add_zero,Int.ediv_ediv_of_nonneg (by omega),<- Int.pow_succ] at hem
  unfold cutT
  rw [<- hem,Int.pow_succ]
  simp only [Int.mul_comm,Int.mul_left_comm]
  exact (Int.mul_assoc _ _ _).symm
 ·refine .inr ⟨ix 0 (canP (dua c).F (dua c).m) i,dig c.F.q ((dua c).Gen.length:Int) x i,?_⟩
  have hr:=hkd.canf.rng i (by omega) (by omega)
  have e3:(dua c).m.cols=c.N:=rfl
  have hj:ix 0 (canP (dua c).F (dua c).m) i<c.N:=by omega
  refine ⟨hr.1,hj,by omega,ha.2,?_⟩
  have hm:=min_dig hk (cutT c.F.q x k) (ix 0 (canP (dua c).F (dua c).m) i) (dig c.F.q ((dua c).Gen.length:Int) x i)
  have ht:=cutT_rng hq x0 (k+1)
  refine dig_ext hq hm.1 hm.2.1 ht.1 (by omega) fun z z0 z1=>?_
  rw [hm.2.2 z z0 z1,ix_dcol c hr.1 hj z0 z1,dig_cutT hq,dig_cutT hq]
  have hent:=hkd.canf.ent i z (by omega) (by omega) z0 (by omega)
  rw [hkd.can] at hent
  rw [hent]
  have rd:=dig_rng hq ((dua c).Gen.length:Int) x z
  by_cases hz:z=i
  ·have e1:(((dua c).Gen.length:Int)-1-z).toNat=k:=by omega
   rw [if_pos hz,e1,if_neg (by omega),if_pos (by omega),hz]
   have r1:=hk.fld.1.addF_lt (dig c.F.q ((dua c).Gen.length:Int) x i) (negF c.F (mulF c.F (dig c.F.q ((dua c).Gen.length:Int) x i) 1))
   refine (ke_eq_zero hk.fld r1.1 r1.2).1 ?_
   rw [ke_add,ke_neg,ke_mul,ke_one,Fi.mul_one,Fi.add_neg]
  ·rw [if_neg hz]
   have key:∀y:Int,0<=y->y<c.F.q->addF c.F y (negF c.F (mulF c.F (dig c.F.q ((dua c).Gen.length:Int) x i) 0))=y:=fun y y0 y1=>by
    have r1:=hk.fld.1.addF_lt y (negF c.F (mulF c.F (dig c.F.q ((dua c).Gen.length:Int) x i) 0))
    refine ke_inj hk.fld r1.1 r1.2 y0 y1 ?_
    rw [ke_add,ke_neg,ke_mul,ke_zero,Fi.mul_zero,Fi.neg_zero,Fi.add_zero]
   rw [key _ (by split <;> omega) (by split <;> omega)]
   by_cases he:(((dua c).Gen.length:Int)-1-z).toNat<k
   ·rw [if_pos he,if_pos (by omega)]
   ·rw [if_neg he,if_neg (by omega)]
theorem path_bd {c:Cod} (hk:COk c) {ls:List Lab} (hz:(lbl ls 0).1=0) (h3:∀x j a:Int,0<=x->x<c.F.q^(dua c).Gen.length->0<=j->j<c.N->1<=a->a<c.F.q->(lbl ls x).1<=(lbl ls (minV c x j a)).1+1)
  {x:Int} (x0:0<=x) (x1:x<c.F.q^(dua c).Gen.length):(lbl ls x).1<=c.N:=by
 have hdd:=hk.dim_dua
 have key:∀k:Nat,k<=(dua c).Gen.length->(lbl ls x).1<=(lbl ls (cutT c.F.q x k)).1+k:=by
  intro k
  induction k with
  | zero=>intro _;rw [cutT_zero];omega
  | succ k ih =>
   intro hkk
   have h1:=ih (by omega)
   have ht:=cutT_rng hk.q2 x0 k
   rcases cut_step hk x0 x1 (k:=k) (by omega) with e | ⟨j,a,j0,j1,a0,a1,e⟩
   ·rw [<- e];omega
   ·have:=h3 (cutT c.F.q x k) j a ht.1 (by omega) j0 j1 a0 a1
    rw [e] at this
    omega
 have:=key (dua c).Gen.length (Nat.le_refl _)
 rw [cutT_all x0 x1,hz] at this
 omega
theorem prv_iff {c:Cod} (hk:COk c) (ls:List Lab):Prv c ls↔PrvR c ls:=by
 constructor
 ·intro h
  have hb:∀x:Int,0<=x->x<c.F.q^(dua c).Gen.length->(lbl ls x).1<=c.N:=fun x x0 x1 =>
   path_bd hk (by rw [h.zero]) (fun x j a x0 x1 j0 j1 a0 a1=>by have:=h.three x j a x0 x1 j0 j1 a0 a1;unfold Step3 at this;omega) x0 x1
  exact ⟨h.len,h.zero,fun x x0 x1=>⟨h.two x x0 x1,hb x (by omega) x1⟩,fun x j a x0 x1 j0 j1 a0 a1 hn=>h.three x j a x0 x1 j0 j1 a0 a1 (.inl hn)⟩
 ·intro h
  refine ⟨h.len,h.zero,fun x x0 x1=>(h.two x x0 x1).1,fun x j a x0 x1 j0 j1 a0 a1 hn=>?_⟩
  have h1:=h.three x j a x0 x1 j0 j1 a0 a1
  have hm:=min_dig hk x j a
  have hna:=negF_one hk a0 a1
  have h2:=h.three (minV c x j a) j (negF c.F a) hm.1 hm.2.1 j0 j1 hna.1 hna.2
  unfold Step3R at h1 h2
  rw [min_back hk x0 x1] at h2
  omega
theorem pigeon (g:Int->Int) (n:Nat) (w:Nat) (h:∀m:Int,0<=m->m<=w->∃x:Int,0<=x/\x<n/\g x=m):(w:Int)<n:=by
 have h1:smT (fun m=>cntTo g m n) (w+1)<=n:=by
  rw [show (fun m=>cntTo g m n)=fun m=>smT (fun x=>if g x=m then 1 else 0) n from funext fun m=>cnt_smT g m n,smT_swap]
  refine smT_le_one fun x _ _=>?_
  show smT (fun m=>if g x=m then 1 else 0) (w+1)<=1
  by_cases hx:0<=g x
  ·rw [smT_single 1 (g x) (w+1) hx];split <;> omega
  ·rw [smT_zero fun m m0 _=>if_neg (by omega)];omega
 have one:∀m:Int,0<=m->m<((w+1:Nat):Int)->1<=cntTo g m n:=fun m m0 m1=>by
  obtain ⟨x,x0,x1,e⟩:=h m m0 (by omega)
  have : ∀k:Nat,x<k->1<=cntTo g m k:=fun k=>by
   induction k with
   | zero=>intro hh;omega
   | succ k ih =>
    intro hh
    have hb:=cntTo_bd g m k
    unfold cntTo
    by_cases hxk:x<k
    ·have:=ih hxk
     split <;> omega
    ·have e2:x=k:=by omega
     rw [if_pos (by rw [<- e2];exact e)]
     omega
  exact this n x1
 have h2:((w+1:Nat):Int)<=smT (fun m=>cntTo g m n) (w+1):=by
  have : ∀k:Nat,k<=w+1->(k:Int)<=smT (fun m=>cntTo g m n) k:=fun k=>by
   induction k with
   | zero=>intro _;exact Int.le_refl 0
   | succ k ih =>
    intro hk
    have:=ih (by omega)
    have:=one k (by omega) (by omega)
    rw [smT];omega
  exact this _ (Nat.le_refl _)
 omega
theorem two_bd {c:Cod} (hk:COk c) {ls:List Lab} (hz:lbl ls 0=(0,0,0)) (h2:∀x:Int,1<=x->x<c.F.q^(dua c).Gen.length->LabOk c ls x) {x:Int} (x0:0<=x) (x1:x<c.F.q^(dua c).Gen.length):0<=(lbl ls x).1/\(lbl ls x).1<c.F.q^(dua c).Gen.length:=by
 have hw:∀x:Int,0<=x->x<c.F.q^(dua c).Gen.length->0<=(lbl ls x).1:=fun x x0 x1=>by
  by_cases e:x=0
  ·rw [e,hz];exact Int.le_refl 0
  ·have:=(h2 x (by omega) x1).2.1;omega
 have chain:∀(w:Nat) (x:Int),0<=x->x<c.F.q^(dua c).Gen.length->(lbl ls x).1=w->∀m:Int,0<=m->m<=w->∃y:Int,0<=y/\y<c.F.q^(dua c).Gen.length/\(lbl ls y).1=m:=by
  intro w
  induction w with
  | zero=>intro x x0 x1 e m m0 m1;exact ⟨x,x0,x1,by omega⟩
  | succ w ih =>
   intro x x0 x1 e m m0 m1
   by_cases hm:m=((w+1:Nat):Int)
   ·exact ⟨x,x0,x1,by rw [e,hm]⟩
   ·have hx:1<=x:=by
     by_cases e0:x=0
     ·rw [e0,hz] at e;exact absurd e (by show ¬(0:Int)=_;omega)
     ·omega
    have hl:=h2 x hx x1
    have hmv:=min_dig hk x (lbl ls x).2.1 (lbl ls x).2.2
    exact ih _ hmv.1 hmv.2.1 (by rw [hl.2.2,e];omega) m m0 (by omega)
 have hp:0<=c.F.q^(dua c).Gen.length:=by omega
 refine ⟨hw x x0 x1,?_⟩
 have:=pigeon (fun y=>(lbl ls y).1) (c.F.q^(dua c).Gen.length).toNat (lbl ls x).1.toNat (fun m m0 m1=>by
  obtain ⟨y,y0,y1,e⟩:=chain (lbl ls x).1.toNat x x0 x1 (by have:=hw x x0 x1;omega) m m0 m1
  exact ⟨y,y0,by omega,e⟩)
 have:=hw x x0 x1
 omega
theorem lab_zero {l:Lab} (h:¬ [l.1,l.2.1,l.2.2]≠[0,0,0]):l=(0,0,0):=by
 have h0:=Classical.not_not.1 h
 simp only [List.cons.injEq,and_true] at h0
 exact Prod.ext h0.1 (Prod.ext h0.2.1 h0.2.2)
theorem lab_neq {l:Lab} (h:[l.1,l.2.1,l.2.2]≠[0,0,0]):l≠(0,0,0):=fun e=>h (by rw [e])
noncomputable def chkL (c:Cod) (ls:List Lab):Int:=if csE c≠0 then csE c else if Prv c ls then 0 else 13
theorem chkL_cs {c:Cod} {ls:List Lab} (h:csE c≠0):chkL c ls=csE c:=if_pos h
theorem chkL_no {c:Cod} {ls:List Lab} (h:csE c=0) (h2:¬Prv c ls):chkL c ls=13:=by unfold chkL;rw [if_neg (by simp [h]),if_neg h2]
theorem chkL_yes {c:Cod} {ls:List Lab} (h:csE c=0) (h2:Prv c ls):chkL c ls=0:=by unfold chkL;rw [if_neg (by simp [h]),if_pos h2]
end Go.Cw
set_option linter.unusedVariables false
set_option linter.unusedSimpArgs false
set_option linter.unusedSectionVars false
namespace Go.Cw
structure Clm where
 C:Cod
 L:List Lab
 Y:List Int
 M:List Int
 S:Int
noncomputable def prE (c:Cod) (ls:List Lab) (y:List Int) (d:Bool):Int:=if opE c y d≠0 then opE c y d else if Prv c ls then 0 else 13
theorem prE_op {c:Cod} {ls:List Lab} {y:List Int} {d:Bool} (h:opE c y d≠0):prE c ls y d=opE c y d:=if_pos h
theorem prE_no {c:Cod} {ls:List Lab} {y:List Int} {d:Bool} (h:opE c y d=0) (h2:¬Prv c ls):prE c ls y d=13:=by unfold prE;rw [if_neg (by simp [h]),if_neg h2]
theorem prE_zero {c:Cod} {ls:List Lab} {y:List Int} {d:Bool} (h:prE c ls y d=0):opE c y d=0/\Prv c ls:=by
 have h0:opE c y d=0:=Classical.byContradiction fun hn=>by rw [prE_op hn] at h;exact hn h
 refine ⟨h0,Classical.byContradiction fun hn=>?_⟩
 rw [prE_no h0 hn] at h;cases h
theorem chk_zero {c:Cod} {ls:List Lab} (h:chkL c ls=0):csE c=0/\Prv c ls:=prE_zero (y:=[]) (d:=false) h
theorem prv_rng {c:Cod} (hk:COk c) {ls:List Lab} (h:Prv c ls) {x:Int} (x0:0<=x) (x1:x<ls.length):0<=(lbl ls x).1/\(lbl ls x).1<c.N+1:=by
 have hr:=(prv_iff hk ls).1 h
 have hn:=hk.n1
 have hl:=h.len
 by_cases e:x=0
 ·rw [e,h.zero];exact ⟨Int.le_refl 0,by show (0:Int)<c.N+1;omega⟩
 ·have:=hr.two x (by omega) (by omega)
  exact ⟨by have:=this.1.2.1;omega,by have:=this.2;omega⟩
def ldr (c:Cod) (ls:List Lab):Nat->Int->List Int->List Int
 | 0,_,out=>out
 | k+1,x,out=>ldr c ls k (minV c x (lbl ls x).2.1 (lbl ls x).2.2) (out.set (lbl ls x).2.1.toNat (addF c.F (ix 0 out (lbl ls x).2.1) (lbl ls x).2.2))
def leadW (c:Cod) (ls:List Lab) (s:Int):List Int:=ldr c ls (lbl ls s).1.toNat s (List.replicate c.N.toNat 0)
theorem ldr_step {c:Cod} {ls:List Lab} {x:Int} {out:List Int} (h:LabOk c ls x) :
  ldr c ls (lbl ls x).1.toNat x out=ldr c ls (lbl ls (minV c x (lbl ls x).2.1 (lbl ls x).2.2)).1.toNat (minV c x (lbl ls x).2.1 (lbl ls x).2.2) (out.set (lbl ls x).2.1.toNat (addF c.F (ix 0 out (lbl ls x).2.1) (lbl ls x).2.2)):=by
 have h1:=h.2.1
 rw [h.2.2]
 conv=>lhs;rw [show (lbl ls x).1.toNat=((lbl ls x).1-1).toNat+1 by omega]
 rfl
theorem ldr_end {c:Cod} {ls:List Lab} (hz:lbl ls 0=(0,0,0)) (out:List Int):ldr c ls (lbl ls 0).1.toNat 0 out=out:=by
 rw [hz];rfl
theorem prv_lab {c:Cod} {ls:List Lab} (h:Prv c ls) {x:Int} (x0:0<=x) (x1:x<c.F.q^(dua c).Gen.length) (hne:x≠0):LabOk c ls x:=h.two x (by omega) x1
noncomputable def ldE (c:Cod) (ls:List Lab) (s:Int):Int:=if chkL c ls≠0 then chkL c ls else if s<0\/c.F.q^(dua c).Gen.length<=s then 6 else 0
theorem ldE_chk {c:Cod} {ls:List Lab} {s:Int} (h:chkL c ls≠0):ldE c ls s=chkL c ls:=if_pos h
theorem ldE_rng {c:Cod} {ls:List Lab} {s:Int} (h:chkL c ls=0):ldE c ls s=if s<0\/c.F.q^(dua c).Gen.length<=s then 6 else 0:=if_neg (by simp [h])
theorem syV_rng {c:Cod} {y:List Int} (h:wsE c y=0):0<=syV c y/\syV c y<c.F.q^(dua c).Gen.length:=by
 have hk:=(csE_zero.1 (ws_cs h)).1
 unfold syV
 rw [if_pos h]
 have:=dig_val hk.q2 (dua c).Gen.length (G:=fun i=>dotF c.F (ix [] (dua c).Gen i) y) (fun i _ _=>dot_lt hk.fld.1 _ _)
 exact ⟨this.1,this.2.1⟩
end Go.Cw
set_option linter.unusedVariables false
set_option linter.unusedSimpArgs false
set_option linter.unusedSectionVars false
namespace Go.Cw
theorem smT_le {g h:Int->Int}:∀ {n:Nat},(∀i:Int,0<=i->i<n->g i<=h i)->smT g n<=smT h n
 | 0,_=>Int.le_refl 0
 | n+1,e=>by
  have h1:=smT_le (n:=n) fun i h0 h1=>e i h0 (by omega)
  have h2:=e n (by omega) (by omega)
  rw [smT,smT];omega
theorem wt_smT (w:List Int):wt w=smT (fun i=>if ix 0 w i≠0 then 1 else 0) w.length:=by
 have : ∀k:Nat,dstTo w [] k=smT (fun i=>if ix 0 w i≠0 then 1 else 0) k:=fun k=>by
  induction k with
  | zero=>rfl
  | succ k ih=>rw [dstTo,smT,ih,ix_nilI]
 exact this _
theorem wt_set (w:List Int) {p v:Int} (p0:0<=p) (p1:p<w.length):wt (w.set p.toNat v)<=wt w+1:=by
 rw [wt_smT,wt_smT,List.length_set]
 have h1:smT (fun i=>if ix 0 (w.set p.toNat v) i≠0 then (1:Int) else 0) w.length<=smT (fun i=>(if ix 0 w i≠0 then 1 else 0)+(if p=i then 1 else 0)) w.length:=smT_le fun i i0 i1=>by
  rw [ix_set w p0 p1 i0]
  by_cases e:p=i
  ·rw [if_pos e,if_pos e];split <;> split <;> omega
  ·rw [if_neg e,if_neg e];omega
 rw [smT_add,smT_single 1 p w.length p0,if_pos p1] at h1
 exact h1
def unitW (n p a:Int):List Int:=mapR (fun i=>if i=p then a else 0) n
theorem ke_unit {f:Fld} (h:FOk f) {row:List Int} {n p a:Int} (hl:(row.length:Int)=n) (p0:0<=p) (p1:p<n):ke h (dotF f row (unitW n p a))=ke h (ix 0 row p)*ke h a:=by
 rw [ke_dot h row _ (n:=n.toNat) (by omega),La.sm_one (k:=p.toNat) (by omega) (fun j hj hne=>?_)]
 ·rw [kv_ix,kv_ix h (unitW n p a),show ((p.toNat:Nat):Int)=p by omega]
  unfold unitW
  rw [A_w 0 _ p0 p1,if_pos rfl]
 ·rw [kv_ix h (unitW n p a)]
  unfold unitW
  rw [A_w 0 _ (by omega) (by omega),if_neg (by omega),ke_zero,Fi.mul_zero]
theorem ke_dot_vadd {f:Fld} (h:FOk f) {row y z:List Int} (hl:z.length<=y.length):ke h (dotF f row (vadd f y z))=ke h (dotF f row y)+ke h (dotF f row z):=by
 rw [ke_dot h row _ (n:=row.length) (Nat.le_refl _),ke_dot h row _ (n:=row.length) (Nat.le_refl _),ke_dot h row _ (n:=row.length) (Nat.le_refl _),<- La.sm_add]
 exact La.sm_congr fun j _=>by rw [kv_vadd h hl,Fi.mul_add]
theorem set_vadd {f:Fld} (h:FOk f) {w:List Int} (ho:¬outF f w) {p a:Int} (p0:0<=p) (p1:p<w.length):w.set p.toNat (addF f (ix 0 w p) a)=vadd f w (unitW w.length p a):=by
 refine ext_ix 0 (by simp) fun i i0 i1=>?_
 rw [List.length_set] at i1
 rw [ix_set w p0 p1 i0,ix_vadd i0 i1]
 unfold unitW
 rw [A_w 0 _ i0 i1]
 by_cases e:p=i
 ·rw [if_pos e,if_pos e.symm,e]
 ·rw [if_neg e,if_neg (Ne.symm e)]
  have r:=ix_ok h.1 ho i
  have r2:=h.1.addF_lt (ix 0 w i) 0
  refine ke_inj h r.1 r.2 r2.1 r2.2 ?_
  rw [ke_add,ke_zero,Fi.add_zero]
section
variable {c : Cod} (hk : COk c) {ls : List Lab} (hp : Prv c ls)
include hk hp
theorem ldr_facts:∀(k:Nat) (x:Int) (out:List Int),0<=x->x<c.F.q^(dua c).Gen.length->(lbl ls x).1=k->(out.length:Int)=c.N->¬outF c.F out ->
  ((ldr c ls k x out).length:Int)=c.N/\¬outF c.F (ldr c ls k x out)/\wt (ldr c ls k x out)<=wt out+k /\
  ∀i:Int,0<=i->i<(dua c).Gen.length->ke hk.fld (dotF c.F (ix [] (dua c).Gen i) (ldr c ls k x out))=ke hk.fld (dotF c.F (ix [] (dua c).Gen i) out)+ke hk.fld (dig c.F.q (dua c).Gen.length x i)
 | 0,x,out,x0,x1,hw,hl,ho=>by
  have hx:x=0:=Classical.byContradiction fun hn=>by have:=(prv_lab hp x0 x1 hn).2.1;omega
  refine ⟨hl,ho,by show wt out<=wt out+0;omega,fun i i0 i1=>?_⟩
  show ke hk.fld (dotF c.F _ out)=_
  have : dig c.F.q (dua c).Gen.length x i=0:=by unfold dig;rw [hx,Int.zero_ediv,Int.zero_emod]
  rw [this,ke_zero,Fi.add_zero]
 | k+1,x,out,x0,x1,hw,hl,ho=>by
  have hx:x≠0:=fun e=>by rw [e,hp.zero] at hw;have : (0:Int)=((k+1:Nat):Int):=hw;omega
  have hlb:=prv_lab hp x0 x1 hx
  obtain ⟨⟨p0,p1,a0,a1⟩,w1,w2⟩:=hlb
  have hm:=min_dig hk x (lbl ls x).2.1 (lbl ls x).2.2
  have hsv:=set_vadd hk.fld ho (p:=(lbl ls x).2.1) (a:=(lbl ls x).2.2) p0 (by omega)
  obtain ⟨g1,g2,g3,g4⟩:=ldr_facts k (minV c x (lbl ls x).2.1 (lbl ls x).2.2) (out.set (lbl ls x).2.1.toNat (addF c.F (ix 0 out (lbl ls x).2.1) (lbl ls x).2.2)) hm.1 hm.2.1 (by rw [w2,hw];omega) (by rw [List.length_set];exact hl) (by rw [hsv];exact vadd_out hk.fld.1 _ _)
  refine ⟨g1,g2,?_,fun i i0 i1=>?_⟩
  ·have:=wt_set out (p:=(lbl ls x).2.1) (v:=addF c.F (ix 0 out (lbl ls x).2.1) (lbl ls x).2.2) p0 (by omega)
   show wt (ldr c ls k _ _)<=_
   omega
  ·show ke hk.fld (dotF c.F _ (ldr c ls k _ _))=_
   rw [g4 i i0 i1,hm.2.2 i i0 i1,hsv,ke_dot_vadd hk.fld (by unfold unitW;rw [A_j];omega),ke_unit hk.fld (n:=(out.length:Int)) (by rw [hk.dua.row i0 i1];exact hl.symm) p0 (by omega),ix_dcol c p0 p1 i0 i1,ke_add,ke_neg,ke_mul]
   have e1:∀A B D E:KF c.F hk.fld,A+B*D+(E + -(D*B))=A+E:=fun A B D E=>by
    rw [Fi.mul_comm B D,Fi.add_assoc,<- Fi.add_assoc (D*B),Fi.add_comm (D*B) E,Fi.add_assoc E,Fi.add_neg,Fi.add_zero]
   exact e1 _ _ _ _
theorem lab_sound {y:List Int} (hl:(y.length:Int)=c.N) (ho:¬outF c.F y):(lbl ls (valD c.F.q (synL c y))).1<=wt y:=by
 let z:Nat->List Int:=fun k=>mapR (fun i=>if i<k then 0 else ix 0 y i) c.N
 have hn:=hk.n1
 have hzo:∀k,¬outF c.F (z k):=fun k=>outF_mapR fun i _ _=>by
  have:=ix_ok hk.fld.1 ho i;have:=hk.fld.1.bd
  split <;> omega
 have hzl:∀k,((z k).length:Int)=c.N:=fun k=>by show ((mapR _ c.N).length:Int)=c.N;rw [A_j];omega
 have hsy:∀w:List Int,0<=valD c.F.q (synL c w)/\valD c.F.q (synL c w)<c.F.q^(dua c).Gen.length/\∀i:Int,0<=i->i<(dua c).Gen.length->dig c.F.q (dua c).Gen.length (valD c.F.q (synL c w)) i=dotF c.F (ix [] (dua c).Gen i) w:=fun w =>
  dig_val hk.q2 (dua c).Gen.length (G:=fun i=>dotF c.F (ix [] (dua c).Gen i) w) (fun i _ _=>dot_lt hk.fld.1 _ _)
 have step:∀k:Nat,(k:Int)<c.N->(lbl ls (valD c.F.q (synL c (z k)))).1<=(lbl ls (valD c.F.q (synL c (z (k+1))))).1+(if ix 0 y k≠0 then 1 else 0):=fun k hkn=>by
  have ry:=ix_ok hk.fld.1 ho k
  have hsplit:z k=vadd c.F (z (k+1)) (unitW c.N k (ix 0 y k)):=by
   refine ext_ix 0 (by have h1:=hzl k;have h2:=hzl (k+1);rw [length_vadd];omega) fun i i0 i1=>?_
   have iN:i<c.N:=by have:=hzl k;omega
   rw [ix_vadd i0 (by have:=hzl (k+1);omega)]
   show ix 0 (mapR _ c.N) i=addF c.F (ix 0 (mapR _ c.N) i) (ix 0 (mapR _ c.N) i)
   rw [A_w 0 _ i0 iN,A_w 0 _ i0 iN,A_w 0 _ i0 iN]
   have rb:=hk.fld.1.bd
   have ri:=ix_ok hk.fld.1 ho i
   by_cases e:i=k
   ·have r2:=hk.fld.1.addF_lt 0 (ix 0 y k)
    rw [if_neg (by omega),if_pos (by omega),if_pos e,e]
    refine ke_inj hk.fld ry.1 ry.2 r2.1 r2.2 ?_
    rw [ke_add,ke_zero,Fi.zero_add]
   ·have r2:=hk.fld.1.addF_lt (if i<((k+1:Nat):Int) then 0 else ix 0 y i) 0
    rw [if_neg e]
    by_cases h2:i<k
    ·rw [if_pos h2,if_pos (by omega)]
     rw [if_pos (by omega)] at r2
     refine ke_inj hk.fld (by omega) (by omega) r2.1 r2.2 ?_
     rw [ke_add,ke_zero,Fi.add_zero]
    ·rw [if_neg h2,if_neg (by omega)]
     rw [if_neg (by omega)] at r2
     refine ke_inj hk.fld ri.1 ri.2 r2.1 r2.2 ?_
     rw [ke_add,ke_zero,Fi.add_zero]
  by_cases h0:ix 0 y k=0
  ·have e:z k=z (k+1):=by
    show mapR _ c.N=mapR _ c.N
    refine ext_ix 0 (by simp) fun i i0 i1=>?_
    rw [A_j] at i1
    rw [A_w 0 _ i0 (by omega),A_w 0 _ i0 (by omega)]
    by_cases h2:i<k
    ·rw [if_pos h2,if_pos (by omega)]
    ·rw [if_neg h2]
     by_cases h3:i=k
     ·rw [if_pos (by omega),h3,h0]
     ·rw [if_neg (by omega)]
   rw [e,if_neg (by simp [h0])];omega
  ·rw [if_pos h0]
   have s1:=hsy (z k)
   have s2:=hsy (z (k+1))
   have hm:=min_dig hk (valD c.F.q (synL c (z k))) k (ix 0 y k)
   have e:minV c (valD c.F.q (synL c (z k))) k (ix 0 y k)=valD c.F.q (synL c (z (k+1))):=by
    refine dig_ext hk.q2 hm.1 hm.2.1 s2.1 s2.2.1 fun i i0 i1=>?_
    rw [hm.2.2 i i0 i1,s1.2.2 i i0 i1,s2.2.2 i i0 i1,ix_dcol c (by omega) hkn i0 i1]
    have r1:=hk.fld.1.addF_lt (dotF c.F (ix [] (dua c).Gen i) (z k)) (negF c.F (mulF c.F (ix 0 y k) (ix 0 (ix [] (dua c).Gen i) k)))
    have r2:=dot_lt hk.fld.1 (ix [] (dua c).Gen i) (z (k+1))
    refine ke_inj hk.fld r1.1 r1.2 r2.1 r2.2 ?_
    rw [ke_add,ke_neg,ke_mul,hsplit,ke_dot_vadd hk.fld (by have:=hzl (k+1);unfold unitW;rw [A_j];omega),ke_unit hk.fld (n:=c.N) (hk.dua.row i0 i1) (by omega) hkn]
    have e1:∀A B D:KF c.F hk.fld,A+B*D + -(D*B)=A:=fun A B D=>by rw [Fi.mul_comm B D,Fi.add_assoc,Fi.add_neg,Fi.add_zero]
    exact e1 _ _ _
   have h3:=hp.three _ k (ix 0 y k) s1.1 s1.2.1 (by omega) hkn (by omega) ry.2
   unfold Step3 at h3
   rw [e] at h3
   omega
 have key:∀k:Nat,(k:Int)<=c.N->(lbl ls (valD c.F.q (synL c (z 0)))).1<=(lbl ls (valD c.F.q (synL c (z k)))).1+smT (fun i=>if ix 0 y i≠0 then 1 else 0) k:=fun k=>by
  induction k with
  | zero=>intro _;show _<=_+(0:Int);omega
  | succ k ih =>
   intro hkn
   have:=ih (by omega)
   have:=step k (by omega)
   rw [smT];omega
 have hz0:z 0=y:=by
  show mapR _ c.N=y
  refine ext_ix 0 (by rw [A_j];omega) fun i i0 i1=>?_
  rw [A_j] at i1
  rw [A_w 0 _ i0 (by omega),if_neg (by omega)]
 have hzN:valD c.F.q (synL c (z y.length))=0:=by
  have s:=hsy (z y.length)
  have hpw:0<c.F.q^(dua c).Gen.length:=Int.pow_pos (by have:=hk.q2;omega)
  refine dig_ext hk.q2 s.1 s.2.1 (Int.le_refl 0) hpw fun i i0 i1=>?_
  rw [s.2.2 i i0 i1]
  have e0:dig c.F.q (dua c).Gen.length 0 i=0:=by unfold dig;rw [Int.zero_ediv,Int.zero_emod]
  rw [e0]
  have r:=dot_lt hk.fld.1 (ix [] (dua c).Gen i) (z y.length)
  refine (ke_eq_zero hk.fld r.1 r.2).1 ?_
  rw [ke_dot hk.fld _ _ (n:=c.N.toNat) (by have:=hk.dua.row i0 i1;have e:(dua c).N=c.N:=rfl;omega)]
  refine La.sm_zero fun j hj=>?_
  rw [kv_ix hk.fld (z y.length)]
  show _*ke hk.fld (ix 0 (mapR _ c.N) j)=0
  rw [A_w 0 _ (by omega) (by omega),if_pos (by omega),ke_zero,Fi.mul_zero]
 have:=key y.length (by omega)
 rw [hz0,hzN,hp.zero,<- wt_smT] at this
 have e:((0,0,0):Lab).1=0:=rfl
 rw [e] at this
 omega
theorem lead_facts (hc:csE c=0) {s:Int} (s0:0<=s) (s1:s<c.F.q^(dua c).Gen.length):wsE c (leadW c ls s)=0/\syV c (leadW c ls s)=s/\wt (leadW c ls s)=(lbl ls s).1/\¬outF c.F (leadW c ls s)/\((leadW c ls s).length:Int)=c.N:=by
 have hn:=hk.n1
 have hw:=(prv_rng hk hp s0 (by have:=hp.len;omega)).1
 obtain ⟨g1,g2,g3,g4⟩:=ldr_facts hk hp (lbl ls s).1.toNat s (List.replicate c.N.toNat 0) s0 s1 (by omega) (by rw [List.length_replicate];omega) (notOut_zero hk.fld.1 _)
 have hwr:wrdE c (leadW c ls s)=0:=wrdE_zero.2 ⟨hk,g1,g2⟩
 have hws:wsE c (leadW c ls s)=0:=by unfold wsE;rw [if_pos hwr];exact hc
 have hsy:=dig_val hk.q2 (dua c).Gen.length (G:=fun i=>dotF c.F (ix [] (dua c).Gen i) (leadW c ls s)) (fun i _ _=>dot_lt hk.fld.1 _ _)
 have hval:syV c (leadW c ls s)=valD c.F.q (synL c (leadW c ls s)):=by unfold syV;rw [if_pos hws]
 have hs:valD c.F.q (synL c (leadW c ls s))=s:=by
  refine dig_ext hk.q2 hsy.1 hsy.2.1 s0 s1 fun i i0 i1=>?_
  show dig c.F.q (dua c).Gen.length (valD c.F.q (synL c (leadW c ls s))) i=_
  have e:=hsy.2.2 i i0 i1
  have e2:dig c.F.q (dua c).Gen.length (valD c.F.q (synL c (leadW c ls s))) i=dotF c.F (ix [] (dua c).Gen i) (leadW c ls s):=e
  rw [e2]
  have r1:=dot_lt hk.fld.1 (ix [] (dua c).Gen i) (leadW c ls s)
  have r2:=dig_rng hk.q2 ((dua c).Gen.length:Int) s i
  refine ke_inj hk.fld r1.1 r1.2 r2.1 r2.2 ?_
  have h4:=g4 i i0 i1
  have hz:ke hk.fld (dotF c.F (ix [] (dua c).Gen i) (List.replicate c.N.toNat 0))=0:=by
   rw [ke_dot hk.fld _ _ (n:=(ix [] (dua c).Gen i).length) (Nat.le_refl _)]
   exact La.sm_zero fun j _=>by rw [kv_zeros,Fi.mul_zero]
  rw [hz,Fi.zero_add] at h4
  exact h4
 have hlow:=lab_sound hk hp g1 g2
 have hlow2:(lbl ls (valD c.F.q (synL c (leadW c ls s)))).1<=wt (leadW c ls s):=hlow
 rw [hs] at hlow2
 have hz:wt (List.replicate c.N.toNat (0:Int))=0:=wt_zero.2 (by simp)
 have g3':wt (leadW c ls s)<=wt (List.replicate c.N.toNat 0)+((lbl ls s).1.toNat:Int):=g3
 exact ⟨hws,by rw [hval,hs],by omega,g2,g1⟩
end
theorem ldE_zero {c:Cod} {ls:List Lab} {s:Int} (h:ldE c ls s=0):chkL c ls=0/\0<=s/\s<c.F.q^(dua c).Gen.length:=by
 have h0:chkL c ls=0:=Classical.byContradiction fun hn=>by rw [ldE_chk hn] at h;exact hn h
 rw [ldE_rng h0] at h
 by_cases hr:s<0\/c.F.q^(dua c).Gen.length<=s
 ·rw [if_pos hr] at h;cases h
 ·exact ⟨h0,by omega,by omega⟩
theorem ldE_six {c:Cod} {ls:List Lab} {s:Int} (h:chkL c ls=0/\(s<0\/(ls.length:Int)<=s)):ldE c ls s=6:=by
 have hl:=(chk_zero h.1).2.len
 rw [ldE_rng h.1,if_pos (by omega)]
theorem ldE_else {c:Cod} {ls:List Lab} {s:Int} (h:¬(chkL c ls=0/\(s<0\/(ls.length:Int)<=s))):ldE c ls s=chkL c ls:=by
 by_cases h0:chkL c ls=0
 ·have hl:=(chk_zero h0).2.len
  rw [ldE_rng h0,if_neg (fun hn=>h ⟨h0,by omega⟩),h0]
 ·exact ldE_chk h0
end Go.Cw
set_option linter.unusedVariables false
set_option linter.unusedSimpArgs false
set_option linter.unusedSectionVars false
namespace Go.Cw
theorem frC_mem' {P:List Int} {x:Nat} (hP:(x:Int)∉P):∀ {c:Nat},x<c->x∈frC P c
 | 0,h=>by omega
 | c+1,h=>by
  unfold frC
  by_cases e:x=c
  ·subst e;rw [if_neg hP];simp
  ·have:=frC_mem' hP (c:=c) (by omega)
   split
   ·exact this
   ·exact List.mem_append_left _ this
noncomputable def restC (c:Cod) (w:List Int):Nat->List Int
 | 0=>w
 | k+1=>addTo c.F (restC c w k) (negF c.F (ix 0 w (ix 0 (canP c.F c.m) k))) (ix [] c.Gen k)
theorem length_restC (c:Cod) (w:List Int):∀k,(restC c w k).length=w.length
 | 0=>rfl
 | k+1=>by rw [restC,length_addTo,length_restC c w k]
theorem restC_out {c:Cod} (hS:Shape c.F) {w:List Int} (ho:¬outF c.F w):∀k,¬outF c.F (restC c w k)
 | 0=>ho
 | k+1=>out_addTo hS (restC_out hS ho k) _ _
section
variable {c : Cod} (hk : COk c)
include hk
theorem kv_rest {w:List Int} (hl:(w.length:Int)=c.N) (j:Nat):∀k:Nat,k<=c.Gen.length->kv hk.fld (restC c w k) j=kv hk.fld w j + -(La.sm (fun i=>ke hk.fld (ix 0 w (ix 0 (canP c.F c.m) i))*km hk.fld c.Gen i j) k)
 | 0,_=>by show _=_ + -(0:KF c.F hk.fld);rw [Fi.neg_zero,Fi.add_zero];rfl
 | k+1,hkk=>by
  have ih:=kv_rest hl j k (by omega)
  have hr:=hk.row (i:=(k:Int)) (by omega) (by omega)
  show kv hk.fld (addTo c.F (restC c w k) _ _) j=_ + -(La.sm _ k+ke hk.fld (ix 0 w (ix 0 (canP c.F c.m) k))*km hk.fld c.Gen k j)
  rw [kv_addTo hk.fld (by rw [length_restC];omega),ih,ke_neg,Fi.neg_add_rev,show km hk.fld c.Gen k j=kv hk.fld (ix [] c.Gen k) j by rw [ix_nat];rfl,Fi.neg_mul]
  ac_rfl
theorem rest_zero {w:List Int} (hl:(w.length:Int)=c.N) (ho:¬outF c.F w) (hd:∀x∈(dua c).Gen,dotF c.F x w=0):restC c w c.Gen.length=List.replicate c.N.toNat 0:=by
 have hN:=hk.n1
 have hP:=hk.plen
 have hc:=hk.canf
 have e3:c.m.cols=c.N:=rfl
 have hgen:∀i j:Nat,i<c.Gen.length->km hk.fld c.Gen i j=kv hk.fld (ix [] c.Gen i) j:=fun i j _=>by rw [ix_nat];rfl
 have hlr:(restC c w c.Gen.length).length=c.N.toNat:=by rw [length_restC];omega
 have hor:=restC_out hk.fld.1 ho c.Gen.length
 have hpiv:∀i:Int,0<=i->i<c.Gen.length->ix 0 (restC c w c.Gen.length) (ix 0 (canP c.F c.m) i)=0:=fun i i0 i1=>by
  have hr:=hc.rng i i0 (by omega)
  have r:=ix_ok hk.fld.1 hor (ix 0 (canP c.F c.m) i)
  refine (ke_eq_zero hk.fld r.1 r.2).1 ?_
  obtain ⟨p,hp⟩:∃p:Nat,ix 0 (canP c.F c.m) i=p:=⟨(ix 0 (canP c.F c.m) i).toNat,by omega⟩
  rw [hp,<- kv_ix,kv_rest hk hl p c.Gen.length (Nat.le_refl _)]
  rw [La.sm_one (k:=i.toNat) (by omega) (fun j hj hne=>?_)]
  ·rw [hgen _ _ (by omega),kv_ix hk.fld (ix [] c.Gen _),<- hp]
   have he:=hc.ent i i i0 (by omega) i0 (by omega)
   rw [hk.can,if_pos rfl] at he
   rw [show ((i.toNat:Nat):Int)=i by omega,he,ke_one,Fi.mul_one,hp,kv_ix hk.fld w,Fi.add_neg]
  ·have he:=hc.ent i j i0 (by omega) (by omega) (by omega)
   rw [hk.can,if_neg (by omega)] at he
   rw [hgen _ _ hj,kv_ix hk.fld (ix [] c.Gen _),<- hp,he,ke_zero,Fi.mul_zero]
 have horth:∀x∈(dua c).Gen,La.sm (fun j=>kv hk.fld x j*kv hk.fld (restC c w c.Gen.length) j) c.N.toNat=0:=fun x hx=>by
  have hg:=(hk.good_dua x hx).1
  have hd0:=hd x hx
  have h1:=ke_dot hk.fld x w (n:=c.N.toNat) (by omega)
  rw [hd0,ke_zero] at h1
  rw [show (fun j=>kv hk.fld x j*kv hk.fld (restC c w c.Gen.length) j)=fun j=>kv hk.fld x j*kv hk.fld w j + -(La.sm (fun i=>ke hk.fld (ix 0 w (ix 0 (canP c.F c.m) i))*(kv hk.fld x j*km hk.fld c.Gen i j)) c.Gen.length) from funext fun j=>by
   rw [kv_rest hk hl j c.Gen.length (Nat.le_refl _),Fi.mul_add,Fi.mul_neg,<- La.sm_mul]
   congr 2
   exact La.sm_congr fun i _=>by ac_rfl,La.sm_add,<- h1,La.sm_neg,La.sm_swap]
  rw [La.sm_zero fun i hi=>?_,Fi.neg_zero,Fi.add_zero]
  rw [La.sm_mul]
  have hm:ix [] c.Gen i∈c.Gen:=ix_mem [] _ (i:=(i:Int)) (by omega) (by omega)
  have hx':x∈nullR c.F c.Gen ((c.N.toNat:Nat):Int):=by
   rw [show ((c.N.toNat:Nat):Int)=c.N by omega];exact hx
  have h0:=null_orth hk.fld hk.good hx' hm
  have h2:=ke_dot hk.fld x (ix [] c.Gen i) (n:=c.N.toNat) (by omega)
  rw [h0,ke_zero] at h2
  rw [La.sm_congr fun j _=>by rw [hgen i j hi],<- h2,Fi.mul_zero]
 refine ext_ix 0 (by simp [hlr]) fun j j0 j1=>?_
 rw [hlr] at j1
 rw [ix_zeros]
 by_cases hjp:j∈canP c.F c.m
 ·obtain ⟨i,i0,i1,e⟩:=mem_ix 0 hjp
  rw [e]
  exact hpiv i i0 (by omega)
 ·-- the word of the kernel for the free place j
  have hE:canP c.F c.m=(elim c.F c.Gen [] c.N.toNat).piv:=canP_ok hk.mat
  have hrow:kerTo c.F (canR (elim c.F c.Gen [] c.N.toNat)) (elim c.F c.Gen [] c.N.toNat).piv c.N.toNat j.toNat (elim c.F c.Gen [] c.N.toNat).piv.length∈kerX c.F c.Gen c.N.toNat:=by
   show _∈kerL c.F _ _ _ _
   rw [kerL_map]
   refine List.mem_map.2 ⟨j.toNat,frC_mem' (by rw [Int.toNat_natCast,<- hE,show ((j.toNat:Nat):Int)=j by omega];exact hjp) (by show j.toNat<((c.N.toNat:Nat):Int).toNat;omega),rfl⟩
  have hgk:=kerX_good hk.fld.1 c.Gen c.N.toNat
  have hcr:=can_row hk.fld hgk hrow
  have hD:canR (elim c.F (kerX c.F c.Gen c.N.toNat) [] c.N.toNat)=(dua c).Gen:=by
   show _=nullR c.F c.Gen c.N
   unfold nullR
   rw [show ((c.N.toNat:Nat):Int)=c.N by omega]
  rw [hD] at hcr
  have hsp:La.Span (km hk.fld (dua c).Gen) (dua c).Gen.length (kv hk.fld (kerTo c.F (canR (elim c.F c.Gen [] c.N.toNat)) (elim c.F c.Gen [] c.N.toNat).piv c.N.toNat j.toNat (elim c.F c.Gen [] c.N.toNat).piv.length)):=by
   have hlen:(dua c).Gen.length=(elim c.F (kerX c.F c.Gen c.N.toNat) [] c.N.toNat).piv.length:=by rw [<- hD,length_canR]
   rw [<- hcr,kv_comb hk.fld (fun l hl'=>by have:=(hk.good_dua l hl').1;omega) (by rw [length_pickL];omega)]
   exact ⟨_,rfl⟩
  have hzero:La.sm (fun i=>kv hk.fld (kerTo c.F (canR (elim c.F c.Gen [] c.N.toNat)) (elim c.F c.Gen [] c.N.toNat).piv c.N.toNat j.toNat (elim c.F c.Gen [] c.N.toNat).piv.length) i*kv hk.fld (restC c w c.Gen.length) i) c.N.toNat=0:=by
   refine La.Span.ind (Φ:=fun u=>La.sm (fun i=>u i*kv hk.fld (restC c w c.Gen.length) i) c.N.toNat=0) ?_ ?_ ?_ (m:=(dua c).Gen.length) (fun i hi=>?_) _ hsp
   ·exact La.sm_zero fun i _=>Fi.zero_mul _
   ·intro u v hu hv
    rw [show (fun i=>(u i+v i)*kv hk.fld (restC c w c.Gen.length) i)=fun i=>u i*kv hk.fld (restC c w c.Gen.length) i+v i*kv hk.fld (restC c w c.Gen.length) i from funext fun i=>Fi.add_mul _ _ _,La.sm_add,hu,hv,Fi.add_zero]
   ·intro a u hu
    rw [show (fun i=>a*u i*kv hk.fld (restC c w c.Gen.length) i)=fun i=>a*(u i*kv hk.fld (restC c w c.Gen.length) i) from funext fun i=>by ac_rfl,La.sm_mul,hu,Fi.mul_zero]
   ·have hm:ix [] (dua c).Gen i∈(dua c).Gen:=ix_mem [] _ (i:=(i:Int)) (by omega) (by omega)
    have:=horth _ hm
    rw [show km hk.fld (dua c).Gen i=kv hk.fld (ix [] (dua c).Gen i) by rw [ix_nat];rfl]
    exact this
  have hpr:=piv_rng c.F c.Gen [] c.N.toNat
  have hone:=kerTo_one (f:=c.F) (R:=canR (elim c.F c.Gen [] c.N.toNat)) (P:=(elim c.F c.Gen [] c.N.toNat).piv) (cols:=(c.N.toNat:Int)) (c:=(j.toNat:Int)) (by omega) (by omega) (fun p hp=>(hpr p hp).1) (by rw [<- hE,show ((j.toNat:Nat):Int)=j by omega];exact hjp) _ (Nat.le_refl _)
  rw [La.sm_one (k:=j.toNat) (by omega) (fun i hi hne=>?_),kv_ix,hone,ke_one,Fi.one_mul,kv_ix,show ((j.toNat:Nat):Int)=j by omega] at hzero
  ·have r:=ix_ok hk.fld.1 hor j
   exact (ke_eq_zero hk.fld r.1 r.2).1 hzero
  ·rw [kv_ix hk.fld (kerTo _ _ _ _ _ _),kv_ix hk.fld (restC _ _ _)]
   by_cases h0:ix 0 (kerTo c.F (canR (elim c.F c.Gen [] c.N.toNat)) (elim c.F c.Gen [] c.N.toNat).piv c.N.toNat j.toNat (elim c.F c.Gen [] c.N.toNat).piv.length) i=0
   ·rw [h0,ke_zero,Fi.zero_mul]
   ·rcases kerTo_supp (by omega) (fun p hp=>(hpr p hp).1) _ _ (Nat.le_refl _) (by omega) h0 with e | ⟨z,z0,z1,z2⟩
    ·omega
    ·have:=hpiv z z0 (by rw [hE] at hP;omega)
     rw [hE,z2] at this
     rw [this,ke_zero,Fi.mul_zero]
end
theorem ke_dot_vneg {f:Fld} (h:FOk f) (row z:List Int):ke h (dotF f row (vneg f z)) = -ke h (dotF f row z):=by
 rw [ke_dot h row _ (n:=row.length) (Nat.le_refl _),ke_dot h row _ (n:=row.length) (Nat.le_refl _),<- La.sm_neg]
 exact La.sm_congr fun j _=>by rw [kv_vneg,Fi.mul_neg]
end Go.Cw
set_option linter.unusedVariables false
set_option linter.unusedSimpArgs false
set_option linter.unusedSectionVars false
namespace Go.Cw
def NbOk (c:Cod) (j a:Int):Prop:=0<=j/\j<c.N/\1<=a/\a<c.F.q
def Rch (c:Cod):Nat->Int->Prop
 | 0,x=>x=0
 | k+1,x=>Rch c k x\/∃j a:Int,NbOk c j a/\Rch c k (minV c x j a)
noncomputable instance (c:Cod) (k:Nat) (x:Int):Decidable (Rch c k x):=Classical.propDecidable _
noncomputable def dsC (c:Cod) (x:Int):Int:=smT (fun k=>if Rch c k.toNat x then 0 else 1) c.N.toNat
theorem Rch.add {c:Cod} {k:Nat} {x:Int} (h:Rch c k x):∀m:Nat,Rch c (k+m) x
 | 0=>h
 | m+1=>.inl (h.add m)
theorem Rch.mono {c:Cod} {k m:Nat} {x:Int} (h:Rch c k x) (hkm:k<=m):Rch c m x:=by
 have:=h.add (m-k)
 rwa [show k+(m-k)=m by omega] at this
section
variable {c : Cod} (hk : COk c)
include hk
theorem Rch.all {x:Int} (x0:0<=x) (x1:x<c.F.q^(dua c).Gen.length):Rch c c.N.toNat x:=by
 have hdd:=hk.dim_dua
 have key:∀k:Nat,k<=(dua c).Gen.length->Rch c k (cutT c.F.q x ((dua c).Gen.length-k)):=by
  intro k
  induction k with
  | zero=>intro _;show cutT c.F.q x _=0;exact cutT_all x0 x1
  | succ k ih =>
   intro hkk
   have h1:=ih (by omega)
   have hs:=cut_step hk x0 x1 (k:=(dua c).Gen.length-(k+1)) (by omega)
   rw [show (dua c).Gen.length-(k+1)+1=(dua c).Gen.length-k by omega] at hs
   rcases hs with e | ⟨j,a,j0,j1,a0,a1,e⟩
   ·exact .inl (by rw [e];exact h1)
   ·exact .inr ⟨j,a,⟨j0,j1,a0,a1⟩,by rw [e];exact h1⟩
 have h:=key (dua c).Gen.length (Nat.le_refl _)
 rw [Nat.sub_self,cutT_zero] at h
 exact h.mono (by omega)
theorem dsC_le {x:Int} (x0:0<=x) (x1:x<c.F.q^(dua c).Gen.length) {k:Nat}:dsC c x<=k↔Rch c k x:=by
 have hn:=hk.n1
 have hall:=Rch.all hk x0 x1
 have b01:∀i:Int,(if Rch c i.toNat x then (0:Int) else 1)<=1:=fun i=>by split <;> omega
 constructor
 ·intro h
  apply Classical.byContradiction
  intro hnr
  have hkN:k<c.N.toNat:=Classical.byContradiction fun hh=>hnr (hall.mono (by omega))
  have h1:smT (fun _=>(1:Int)) (k+1)<=smT (fun i=>if Rch c i.toNat x then 0 else 1) (k+1):=smT_le fun i i0 i1=>by
   rw [if_neg (fun hr=>hnr (hr.mono (by omega)))];omega
  rw [smT_const] at h1
  have h2:=smT_app (fun i=>if Rch c i.toNat x then (0:Int) else 1) (k+1) (c.N.toNat-(k+1))
  rw [show k+1+(c.N.toNat-(k+1))=c.N.toNat by omega] at h2
  have h3:smT (fun _=>(0:Int)) (c.N.toNat-(k+1))<=smT (fun i=>(fun i:Int=>if Rch c i.toNat x then (0:Int) else 1) (((k+1:Nat):Int)+i)) (c.N.toNat-(k+1)):=smT_le fun i _ _=>by
   show (0:Int)<=if _ then 0 else 1
   split <;> omega
  rw [smT_const,Int.mul_zero] at h3
  unfold dsC at h
  dsimp only at h2 h3
  omega
 ·intro h
  by_cases hkN:k<c.N.toNat
  ·have h2:=smT_app (fun i=>if Rch c i.toNat x then (0:Int) else 1) k (c.N.toNat-k)
   rw [show k+(c.N.toNat-k)=c.N.toNat by omega] at h2
   have h1:smT (fun i=>if Rch c i.toNat x then (0:Int) else 1) k<=smT (fun _=>(1:Int)) k:=smT_le fun i _ _=>b01 i
   rw [smT_const] at h1
   have h3:smT (fun i=>(fun i:Int=>if Rch c i.toNat x then (0:Int) else 1) ((k:Int)+i)) (c.N.toNat-k)=0:=smT_zero fun i i0 _=>by
    show (if Rch c ((k:Int)+i).toNat x then (0:Int) else 1)=0
    rw [if_pos (h.mono (by omega))]
   unfold dsC
   dsimp only at h2 h3
   omega
  ·have h1:smT (fun i=>if Rch c i.toNat x then (0:Int) else 1) c.N.toNat<=smT (fun _=>(1:Int)) c.N.toNat:=smT_le fun i _ _=>b01 i
   rw [smT_const] at h1
   unfold dsC
   omega
omit hk in
theorem dsC_nonneg (c:Cod) (x:Int):0<=dsC c x:=by
 have h1:smT (fun _=>(0:Int)) c.N.toNat<=smT (fun i=>if Rch c i.toNat x then 0 else 1) c.N.toNat:=smT_le fun i _ _=>by split <;> omega
 rw [smT_const,Int.mul_zero] at h1
 exact h1
theorem dsC_zero {x:Int} (x0:0<=x) (x1:x<c.F.q^(dua c).Gen.length):dsC c x=0↔x=0:=by
 have h:=dsC_le hk x0 x1 (k:=0)
 have h2:=dsC_nonneg c x
 constructor
 ·intro e;exact h.1 (by omega)
 ·intro e;have:=h.2 e;omega
theorem dsC_N {x:Int} (x0:0<=x) (x1:x<c.F.q^(dua c).Gen.length):dsC c x<=c.N:=by
 have hn:=hk.n1
 have:=(dsC_le hk x0 x1).2 (Rch.all hk x0 x1)
 omega
theorem dsC_nb {x j a:Int} (x0:0<=x) (x1:x<c.F.q^(dua c).Gen.length) (h:NbOk c j a):dsC c x<=dsC c (minV c x j a)+1:=by
 have hm:=min_dig hk x j a
 have h0:=dsC_nonneg c (minV c x j a)
 have hr:=(dsC_le hk hm.1 hm.2.1 (k:=(dsC c (minV c x j a)).toNat)).1 (by omega)
 have:=(dsC_le hk x0 x1 (k:=(dsC c (minV c x j a)).toNat+1)).2 (.inr ⟨j,a,h,hr⟩)
 omega
theorem dsC_nb2 {x j a:Int} (x0:0<=x) (x1:x<c.F.q^(dua c).Gen.length) (h:NbOk c j a):dsC c (minV c x j a)<=dsC c x+1:=by
 have hm:=min_dig hk x j a
 have hn:=negF_one hk h.2.2.1 h.2.2.2
 have:=dsC_nb hk hm.1 hm.2.1 (j:=j) (a:=negF c.F a) ⟨h.1,h.2.1,hn.1,hn.2⟩
 rw [min_back hk x0 x1] at this
 exact this
theorem dsC_down {x:Int} (x0:0<=x) (x1:x<c.F.q^(dua c).Gen.length) (hx:x≠0):∃j a:Int,NbOk c j a/\dsC c (minV c x j a)=dsC c x-1:=by
 have h0:=dsC_nonneg c x
 have hz:=dsC_zero hk x0 x1
 have hne:dsC c x≠0:=fun e=>hx (hz.1 e)
 have hr:=(dsC_le hk x0 x1 (k:=(dsC c x-1).toNat+1)).1 (by omega)
 rcases hr with h | ⟨j,a,hj,h⟩
 ·have:=(dsC_le hk x0 x1).2 h
  omega
 ·have hm:=min_dig hk x j a
  have h1:=(dsC_le hk hm.1 hm.2.1).2 h
  have h2:=dsC_nb hk x0 x1 hj
  exact ⟨j,a,hj,by omega⟩
end
noncomputable def somJ (c:Cod) (x:Int):Int×Int:=@dite _ (∃p:Int×Int,NbOk c p.1 p.2/\dsC c (minV c x p.1 p.2)=dsC c x-1) (Classical.propDecidable _) (fun h=>Classical.choose h) (fun _=>(0,0))
noncomputable def somL (c:Cod):List Lab:=mapR (fun x=>if x=0 then (0,0,0) else (dsC c x,(somJ c x).1,(somJ c x).2)) (c.F.q^(dua c).Gen.length)
theorem somJ_ok {c:Cod} (hk:COk c) {x:Int} (x0:0<=x) (x1:x<c.F.q^(dua c).Gen.length) (hx:x≠0):NbOk c (somJ c x).1 (somJ c x).2/\dsC c (minV c x (somJ c x).1 (somJ c x).2)=dsC c x-1:=by
 have h:∃p:Int×Int,NbOk c p.1 p.2/\dsC c (minV c x p.1 p.2)=dsC c x-1:=by
  obtain ⟨j,a,h1,h2⟩:=dsC_down hk x0 x1 hx
  exact ⟨(j,a),h1,h2⟩
 unfold somJ
 rw [dif_pos h]
 exact Classical.choose_spec h
theorem lbl_som {c:Cod} (hk:COk c) {x:Int} (x0:0<=x) (x1:x<c.F.q^(dua c).Gen.length):(lbl (somL c) x).1=dsC c x/\(x≠0->(lbl (somL c) x).2=somJ c x):=by
 have e:lbl (somL c) x=if x=0 then (0,0,0) else (dsC c x,(somJ c x).1,(somJ c x).2):=A_w _ _ x0 x1
 rw [e]
 by_cases h:x=0
 ·rw [if_pos h]
  exact ⟨((dsC_zero hk x0 x1).2 h).symm,fun hn=>absurd h hn⟩
 ·rw [if_neg h]
  exact ⟨rfl,fun _=>rfl⟩
theorem som_prv {c:Cod} (hk:COk c):Prv c (somL c):=by
 have hp:0<c.F.q^(dua c).Gen.length:=Int.pow_pos (by have:=hk.q2;omega)
 refine ⟨by unfold somL;rw [A_j];omega,?_,fun x x0 x1=>?_,fun x j a x0 x1 j0 j1 a0 a1=>?_⟩
 ·show ix (0,0,0) (somL c) 0=_
  unfold somL
  rw [A_w _ _ (Int.le_refl 0) hp,if_pos rfl]
 ·have hl:=lbl_som hk (x:=x) (by omega) x1
  have hs:=somJ_ok hk (x:=x) (by omega) x1 (by omega)
  have hm:=min_dig hk x (somJ c x).1 (somJ c x).2
  have h0:=dsC_nonneg c x
  have hz:=dsC_zero hk (x:=x) (by omega) x1
  have e2:=hl.2 (by omega)
  unfold LabOk
  rw [e2,hl.1,(lbl_som hk hm.1 hm.2.1).1]
  exact ⟨hs.1, by have : dsC c x ≠ 0 := fun e => by have := hz.1 e; omega
                  omega,hs.2⟩
 ·have hm:=min_dig hk x j a
  have h1:=dsC_nb hk x0 x1 (j:=j) (a:=a) ⟨j0,j1,a0,a1⟩
  have h2:=dsC_nb2 hk x0 x1 (j:=j) (a:=a) ⟨j0,j1,a0,a1⟩
  unfold Step3
  rw [(lbl_som hk x0 x1).1,(lbl_som hk hm.1 hm.2.1).1]
  omega
theorem dsC_word {c:Cod} (hk:COk c) (hc:csE c=0) {x:Int} (x0:0<=x) (x1:x<c.F.q^(dua c).Gen.length):∃w:List Int,wsE c w=0/\syV c w=x/\wt w=dsC c x:=by
 have h:=lead_facts hk (som_prv hk) hc x0 x1
 exact ⟨_,h.1,h.2.1,by rw [h.2.2.1,(lbl_som hk x0 x1).1]⟩
theorem dsC_least {c:Cod} {w:List Int} (h:wsE c w=0):dsC c (syV c w)<=wt w:=by
 have hk:=(csE_zero.1 (ws_cs h)).1
 obtain ⟨_,hl,ho⟩:=wrdE_zero.1 (ws_word h)
 have hs:=lab_sound hk (som_prv hk) hl ho
 have hr:=syV_rng h
 have e:syV c w=valD c.F.q (synL c w):=by unfold syV;rw [if_pos h]
 rw [<- e,(lbl_som hk hr.1 hr.2).1] at hs
 exact hs
end Go.Cw
set_option linter.unusedVariables false
set_option linter.unusedSimpArgs false
set_option linter.unusedSectionVars false
namespace Go.Cw
structure IsF (c:Cod) (p:Int->Int->Prop) (j a:Int):Prop where
 nb:NbOk c j a
 ok:p j a
 fst:∀j2 a2:Int,NbOk c j2 a2->(j<j2\/(j2=j/\a2<a))->¬p j2 a2
theorem IsF.uniq {c:Cod} {p:Int->Int->Prop} {j a j2 a2:Int} (h:IsF c p j a) (h2:IsF c p j2 a2):j=j2/\a=a2:=by
 have h3:=h.fst j2 a2 h2.nb
 have h4:=h2.fst j a h.nb
 have h5:¬(j<j2\/(j2=j/\a2<a)):=fun hn=>h3 hn h2.ok
 have h6:¬(j2<j\/(j=j2/\a<a2)):=fun hn=>h4 hn h.ok
 constructor <;> omega
theorem isF_ex {c:Cod} {p:Int->Int->Prop} {j a:Int} (hn:NbOk c j a) (hp:p j a):∃j2 a2:Int,IsF c p j2 a2:=by
 have key:∀(k:Nat) (j a:Int),NbOk c j a->p j a->((c.N-1-j)*c.F.q+a).toNat=k->∃j2 a2:Int,IsF c p j2 a2:=by
  intro k
  induction k using Nat.strongRecOn with
  | ind k ih =>
   intro j a hn hp hk
   by_cases h:∃j2 a2:Int,NbOk c j2 a2/\(j<j2\/(j2=j/\a2<a))/\p j2 a2
   ·obtain ⟨j2,a2,h1,h2,h3⟩:=h
    obtain ⟨n1,n2,n3,n4⟩:=hn
    obtain ⟨m1,m2,m3,m4⟩:=h1
    have q0:0<=(c.N-1-j2)*c.F.q:=Int.mul_nonneg (by omega) (by omega)
    refine ih ((c.N-1-j2)*c.F.q+a2).toNat ?_ j2 a2 ⟨m1,m2,m3,m4⟩ h3 rfl
    rcases h2 with h2 | ⟨h2,h4⟩
    ·have hm:=Int.mul_le_mul_of_nonneg_right (show c.N-1-j2+1<=c.N-1-j by omega) (show 0<=c.F.q by omega)
     rw [Int.add_mul,Int.one_mul] at hm
     omega
    ·subst h2;omega
   ·exact ⟨j,a,hn,hp,fun j2 a2 h1 h2 h3=>h ⟨j2,a2,h1,h2,h3⟩⟩
 exact key _ j a hn hp rfl
noncomputable def fndJ (c:Cod) (p:Int->Int->Prop):Int×Int:=@dite _ (∃r:Int×Int,IsF c p r.1 r.2) (Classical.propDecidable _) (fun h=>Classical.choose h) (fun _=>(0,0))
theorem fndJ_eq {c:Cod} {p:Int->Int->Prop} {j a:Int} (h:IsF c p j a):fndJ c p=(j,a):=by
 have hx:∃r:Int×Int,IsF c p r.1 r.2:=⟨(j,a),h⟩
 unfold fndJ
 rw [dif_pos hx]
 have:=(Classical.choose_spec hx).uniq h
 exact Prod.ext this.1 this.2
theorem fndJ_ok {c:Cod} {p:Int->Int->Prop} {j a:Int} (hn:NbOk c j a) (hp:p j a):IsF c p (fndJ c p).1 (fndJ c p).2:=by
 obtain ⟨j2,a2,h⟩:=isF_ex hn hp
 rw [fndJ_eq h];exact h
noncomputable def posT (c:Cod):Nat->Int->Int×Int
 | 0,_=>(0,0)
 | w+1,x=>fndJ c fun j a=>dsC c (minV c x j a)=w/\(minV c x j a=0\/j<(posT c w (minV c x j a)).1)
def Lch (c:Cod):Nat->Int->Int->Prop
 | 0,_,_=>False
 | w+1,x,j=>∃a:Int,NbOk c j a/\((w=0/\minV c x j a=0)\/∃j2:Int,j<j2/\Lch c w (minV c x j a) j2)
theorem Lch.rch {c:Cod}:∀ {w:Nat} {x j:Int},Lch c w x j->Rch c w x
 | 0,x,j,h=>h.elim
 | w+1,x,j,⟨a,hn,h⟩=>by
  refine .inr ⟨j,a,hn,?_⟩
  rcases h with ⟨h1,h2⟩ | ⟨j2,_,h2⟩
  ·subst h1;exact h2
  ·exact h2.rch
section
variable {c : Cod} (hk : COk c)
include hk
theorem pos_ge:∀(w:Nat) {x j:Int},0<=x->x<c.F.q^(dua c).Gen.length->dsC c x=((w+1:Nat):Int)->Lch c (w+1) x j ->
  IsF c (fun j a=>dsC c (minV c x j a)=w/\(minV c x j a=0\/j<(posT c w (minV c x j a)).1)) (posT c (w+1) x).1 (posT c (w+1) x).2/\j<=(posT c (w+1) x).1
 | w,x,j,x0,x1,hd,⟨a,hn,h⟩=>by
  have hm:=min_dig hk x j a
  have hge:=dsC_nb hk x0 x1 hn
  have hcand:dsC c (minV c x j a)=w/\(minV c x j a=0\/j<(posT c w (minV c x j a)).1):=by
   rcases h with ⟨h1,h2⟩ | ⟨j2,hj,h2⟩
   ·subst h1
    have:=(dsC_zero hk hm.1 hm.2.1).2 h2
    exact ⟨this,.inl h2⟩
   ·have hle:=(dsC_le hk hm.1 hm.2.1).2 h2.rch
    have he:dsC c (minV c x j a)=w:=by omega
    refine ⟨he,.inr ?_⟩
    cases w with
    | zero=>exact h2.elim
    | succ w =>
     have:=(pos_ge w hm.1 hm.2.1 he h2).2
     omega
  have hf:=fndJ_ok (c:=c) (p:=fun j a=>dsC c (minV c x j a)=w/\(minV c x j a=0\/j<(posT c w (minV c x j a)).1)) hn hcand
  refine ⟨hf,?_⟩
  apply Classical.byContradiction
  intro hlt
  exact hf.fst j a hn (.inl (by show (posT c (w+1) x).1<j;omega)) hcand
theorem word_lch (hc:csE c=0):∀(w:Nat) (y:List Int) (t:Int),0<=t->(y.length:Int)=c.N->¬outF c.F y->wt y=((w+1:Nat):Int)->(∀i:Int,0<=i->i<t->ix 0 y i=0)->∃j:Int,t<=j/\Lch c (w+1) (syV c y) j
 | w,y,t,t0,hl,ho,hw,hz=>by
  have hN:=hk.n1
  have hex:∃j:Nat,(j:Int)<c.N/\ix 0 y j≠0/\∀i:Nat,i<j->ix 0 y i=0:=by
   apply Classical.byContradiction
   intro hn
   have hall:∀k:Nat,∀i:Nat,i<k->(i:Int)<c.N->ix 0 y i=0:=by
    intro k
    induction k with
    | zero=>intro i hi;omega
    | succ k ih =>
     intro i hi hiN
     by_cases e:i=k
     ·apply Classical.byContradiction
      intro hne
      exact hn ⟨i,hiN,hne,fun z hzz=>ih z (by omega) (by omega)⟩
     ·exact ih i (by omega) hiN
   have : wt y=0:=by
    rw [wt_smT]
    exact smT_zero fun i i0 i1=>by
     have:=hall (i.toNat+1) i.toNat (by omega) (by omega)
     rw [show ((i.toNat:Nat):Int)=i by omega] at this
     rw [if_neg (by simp [this])]
   omega
  obtain ⟨j,jN,hj,hjz⟩:=hex
  have htj:t<=j:=Classical.byContradiction fun hn=>hj (hz j (by omega) (by omega))
  have ry:=ix_ok hk.fld.1 ho j
  let y2:List Int:=y.set (j:Int).toNat 0
  have hb:=hk.fld.1.bd
  have l2:(y2.length:Int)=c.N:=by show ((y.set _ _).length:Int)=c.N;rw [List.length_set];exact hl
  have hi2:∀i:Int,0<=i->ix 0 y2 i=if (j:Int)=i then 0 else ix 0 y i:=fun i i0=>ix_set y (by omega) (by omega) i0
  have o2:¬outF c.F y2:=by
   rintro ⟨v,hv,hne⟩
   obtain ⟨z,z0,z1,rfl⟩:=mem_ix 0 hv
   apply hne
   rw [hi2 z z0]
   have:=ix_ok hk.fld.1 ho z
   split <;> omega
  have hsplit:y=vadd c.F y2 (unitW c.N j (ix 0 y j)):=by
   refine ext_ix 0 (by rw [length_vadd];omega) fun i i0 i1=>?_
   rw [ix_vadd i0 (by omega),hi2 i i0]
   unfold unitW
   rw [A_w 0 _ i0 (by omega)]
   have ri:=ix_ok hk.fld.1 ho i
   by_cases e:(j:Int)=i
   ·rw [if_pos e,if_pos e.symm,e]
    have r2:=hk.fld.1.addF_lt 0 (ix 0 y i)
    refine ke_inj hk.fld ri.1 ri.2 r2.1 r2.2 ?_
    rw [ke_add,ke_zero,Fi.zero_add]
   ·rw [if_neg e,if_neg (Ne.symm e)]
    have r2:=hk.fld.1.addF_lt (ix 0 y i) 0
    refine ke_inj hk.fld ri.1 ri.2 r2.1 r2.2 ?_
    rw [ke_add,ke_zero,Fi.add_zero]
  have hws:∀u:List Int,(u.length:Int)=c.N->¬outF c.F u->wsE c u=0:=fun u h1 h2=>by unfold wsE;rw [if_pos (wrdE_zero.2 ⟨hk,h1,h2⟩)];exact hc
  have hdg:∀u:List Int,(u.length:Int)=c.N->¬outF c.F u->∀i:Int,0<=i->i<(dua c).Gen.length->dig c.F.q (dua c).Gen.length (syV c u) i=dotF c.F (ix [] (dua c).Gen i) u:=fun u h1 h2 i i0 i1=>by
   unfold syV
   rw [if_pos (hws u h1 h2)]
   exact (dig_val hk.q2 (dua c).Gen.length (G:=fun i=>dotF c.F (ix [] (dua c).Gen i) u) (fun i _ _=>dot_lt hk.fld.1 _ _)).2.2 i i0 i1
  have s1:=syV_rng (hws y hl ho)
  have s2:=syV_rng (hws y2 l2 o2)
  have hm:=min_dig hk (syV c y) j (ix 0 y j)
  have e:minV c (syV c y) j (ix 0 y j)=syV c y2:=by
   refine dig_ext hk.q2 hm.1 hm.2.1 s2.1 s2.2 fun i i0 i1=>?_
   rw [hm.2.2 i i0 i1,hdg y hl ho i i0 i1,hdg y2 l2 o2 i i0 i1,ix_dcol c (by omega) jN i0 i1]
   have r1:=hk.fld.1.addF_lt (dotF c.F (ix [] (dua c).Gen i) y) (negF c.F (mulF c.F (ix 0 y j) (ix 0 (ix [] (dua c).Gen i) j)))
   have r2:=dot_lt hk.fld.1 (ix [] (dua c).Gen i) y2
   refine ke_inj hk.fld r1.1 r1.2 r2.1 r2.2 ?_
   have hke:ke hk.fld (dotF c.F (ix [] (dua c).Gen i) y)=ke hk.fld (dotF c.F (ix [] (dua c).Gen i) y2)+ke hk.fld (ix 0 (ix [] (dua c).Gen i) j)*ke hk.fld (ix 0 y j):=by
    rw [<- ke_unit hk.fld (n:=c.N) (hk.dua.row i0 i1) (by omega) jN,<- ke_dot_vadd hk.fld (by unfold unitW;rw [A_j];omega),<- hsplit]
   rw [ke_add,ke_neg,ke_mul,hke]
   have e1:∀A B D:KF c.F hk.fld,A+B*D + -(D*B)=A:=fun A B D=>by rw [Fi.mul_comm B D,Fi.add_assoc,Fi.add_neg,Fi.add_zero]
   exact e1 _ _ _
  have hwt2:wt y=wt y2+1:=by
   rw [wt_smT,wt_smT]
   have hlen:y2.length=y.length:=by omega
   rw [hlen]
   have : smT (fun i=>if ix 0 y i≠0 then (1:Int) else 0) y.length=smT (fun i=>(if ix 0 y2 i≠0 then 1 else 0)+(if (j:Int)=i then 1 else 0)) y.length:=smT_congr fun i i0 i1=>by
    rw [hi2 i i0]
    by_cases e:(j:Int)=i
    ·rw [if_pos e,if_pos e,<- e,if_pos hj,if_neg (by simp)];rfl
    ·rw [if_neg e,if_neg e,Int.add_zero]
   rw [this,smT_add,smT_single 1 (j:Int) y.length (by omega),if_pos (by omega)]
  have hNb:NbOk c j (ix 0 y j):=⟨by omega,jN,by omega,ry.2⟩
  refine ⟨j,htj,ix 0 y j,hNb,?_⟩
  cases w with
  | zero =>
   refine .inl ⟨rfl,?_⟩
   rw [e]
   have hw0:wt y2=0:=by omega
   have hle:=dsC_least (hws y2 l2 o2)
   have h0:=dsC_nonneg c (syV c y2)
   exact (dsC_zero hk s2.1 s2.2).1 (by omega)
  | succ w =>
   obtain ⟨j2,h1,h2⟩:=word_lch hc w y2 (j+1) (by omega) l2 o2 (by omega) (fun i i0 i1=>by
    rw [hi2 i i0]
    by_cases e:(j:Int)=i
    ·rw [if_pos e]
    ·rw [if_neg e]
     have:=hjz i.toNat (by omega)
     rwa [show ((i.toNat:Nat):Int)=i by omega] at this)
   exact .inr ⟨j2,by omega,by rw [e];exact h2⟩
theorem pos_ok (hc:csE c=0) {x:Int} (x0:0<=x) (x1:x<c.F.q^(dua c).Gen.length) {w:Nat} (hd:dsC c x=((w+1:Nat):Int)) :
  IsF c (fun j a=>dsC c (minV c x j a)=w/\(minV c x j a=0\/j<(posT c w (minV c x j a)).1)) (posT c (w+1) x).1 (posT c (w+1) x).2:=by
 obtain ⟨y,h1,h2,h3⟩:=dsC_word hk hc x0 x1
 obtain ⟨_,hl,ho⟩:=wrdE_zero.1 (ws_word h1)
 obtain ⟨j,_,hj⟩:=word_lch hk hc w y 0 (Int.le_refl 0) hl ho (by rw [h3,hd]) (fun i i0 i1=>by omega)
 rw [h2] at hj
 exact (pos_ge hk w x0 x1 hd hj).1
end
noncomputable def labB (c:Cod) (x:Int):Lab:=(dsC c x,posT c (dsC c x).toNat x)
noncomputable def bldL (c:Cod):List Lab:=if csE c=0 then mapR (labB c) (c.F.q^(dua c).Gen.length) else []
theorem labB_zero {c:Cod} (hk:COk c):labB c 0=(0,0,0):=by
 have hp:0<c.F.q^(dua c).Gen.length:=Int.pow_pos (by have:=hk.q2;omega)
 have h:=(dsC_zero hk (Int.le_refl 0) hp).2 rfl
 unfold labB
 rw [h];rfl
end Go.Cw
set_option linter.unusedVariables false
set_option linter.unusedSimpArgs false
set_option linter.unusedSectionVars false
namespace Go.Cw
structure BfI (c:Cod) (W Q:List Int) (k:Int):Prop where
 wl:(W.length:Int)=c.F.q^(dua c).Gen.length
 rng:∀i:Int,0<=i->i<Q.length->0<=ix 0 Q i/\ix 0 Q i<c.F.q^(dua c).Gen.length
 inj:∀i j:Int,0<=i->i<j->j<Q.length->ix 0 Q i≠ix 0 Q j
 zero:1<=(Q.length:Int)/\ix 0 Q 0=0
 wq:∀i:Int,0<=i->i<Q.length->ix 0 W (ix 0 Q i)=dsC c (ix 0 Q i)
 wn:∀z:Int,0<=z->z<c.F.q^(dua c).Gen.length->(∀i:Int,0<=i->i<Q.length->ix 0 Q i≠z)->ix 0 W z = -1
 mono:∀i j:Int,0<=i->i<=j->j<Q.length->dsC c (ix 0 Q i)<=dsC c (ix 0 Q j)
 near:∀j:Int,0<=j->j<Q.length->0<=k->k<Q.length->dsC c (ix 0 Q j)<=dsC c (ix 0 Q k)+1
 done:∀i j a:Int,0<=i->i<k->i<Q.length->NbOk c j a->∃z:Int,0<=z/\z<Q.length/\ix 0 Q z=minV c (ix 0 Q i) j a
namespace BfI
variable {c : Cod} {W Q : List Int} {k : Int}
theorem seen (h:BfI c W Q k) {z:Int} (z0:0<=z) (z1:z<c.F.q^(dua c).Gen.length):(ix 0 W z<0/\∀i:Int,0<=i->i<Q.length->ix 0 Q i≠z)\/(ix 0 W z=dsC c z/\∃i:Int,0<=i/\i<Q.length/\ix 0 Q i=z):=by
 by_cases hx:∃i:Int,0<=i/\i<Q.length/\ix 0 Q i=z
 ·obtain ⟨i,i0,i1,e⟩:=hx
  refine .inr ⟨?_,i,i0,i1,e⟩
  rw [<- e];exact h.wq i i0 i1
 ·have hn:∀i:Int,0<=i->i<Q.length->ix 0 Q i≠z:=fun i i0 i1 e=>hx ⟨i,i0,i1,e⟩
  exact .inl ⟨by rw [h.wn z z0 z1 hn];decide,hn⟩
theorem lower (hk:COk c) (h:BfI c W Q k) (k0:0<=k) (k1:k<Q.length):∀(d:Nat) {z:Int},0<=z->z<c.F.q^(dua c).Gen.length->dsC c z=d->dsC c z<dsC c (ix 0 Q k)->∃i:Int,0<=i/\i<k/\ix 0 Q i=z
 | d,z,z0,z1,hd,hlt=>by
  have hin:∃i:Int,0<=i/\i<Q.length/\ix 0 Q i=z:=by
   by_cases hz:z=0
   ·exact ⟨0,Int.le_refl 0,by have:=h.zero.1;omega,by rw [h.zero.2,hz]⟩
   ·obtain ⟨j,a,hn,hdn⟩:=dsC_down hk z0 z1 hz
    have hm:=min_dig hk z j a
    have h0:=dsC_nonneg c (minV c z j a)
    obtain ⟨i,i0,i1,e⟩:=lower hk h k0 k1 (d-1) hm.1 hm.2.1 (by omega) (by omega)
    have hng:=negF_one hk hn.2.2.1 hn.2.2.2
    obtain ⟨y,y0,y1,ey⟩:=h.done i j (negF c.F a) i0 i1 (by omega) ⟨hn.1,hn.2.1,hng.1,hng.2⟩
    exact ⟨y,y0,y1,by rw [ey,e,min_back hk z0 z1]⟩
  obtain ⟨i,i0,i1,e⟩:=hin
  refine ⟨i,i0,?_,e⟩
  apply Classical.byContradiction
  intro hki
  have:=h.mono k i k0 (by omega) i1
  rw [e] at this
  omega
 termination_by d=>d
 decreasing_by
  have h1:=dsC_zero hk z0 z1
  have h2:=dsC_nonneg c z
  have : dsC c z≠0:=fun e=>hz (h1.1 e)
  omega
theorem next (hk:COk c) (h:BfI c W Q k) (k0:0<=k) (k1:k<Q.length) {j a:Int} (hn:NbOk c j a) (hns:ix 0 W (minV c (ix 0 Q k) j a)<0):dsC c (minV c (ix 0 Q k) j a)=dsC c (ix 0 Q k)+1:=by
 have hr:=h.rng k k0 k1
 have hm:=min_dig hk (ix 0 Q k) j a
 have h2:=dsC_nb2 hk hr.1 hr.2 hn
 apply Classical.byContradiction
 intro hne
 have hnot:∀i:Int,0<=i->i<Q.length->ix 0 Q i≠minV c (ix 0 Q k) j a:=by
  rcases h.seen hm.1 hm.2.1 with ⟨_,hs⟩ | ⟨hs,_⟩
  ·exact hs
  ·have:=dsC_nonneg c (minV c (ix 0 Q k) j a);omega
 have hz:minV c (ix 0 Q k) j a≠0:=fun e=>hnot 0 (Int.le_refl 0) (by have:=h.zero.1;omega) (by rw [h.zero.2,e])
 obtain ⟨j2,a2,hn2,hd2⟩:=dsC_down hk hm.1 hm.2.1 hz
 have hm2:=min_dig hk (minV c (ix 0 Q k) j a) j2 a2
 have h0:=dsC_nonneg c (minV c (minV c (ix 0 Q k) j a) j2 a2)
 obtain ⟨i,i0,i1,e⟩:=h.lower hk k0 k1 (dsC c (minV c (minV c (ix 0 Q k) j a) j2 a2)).toNat hm2.1 hm2.2.1 (by omega) (by omega)
 have hng:=negF_one hk hn2.2.2.1 hn2.2.2.2
 obtain ⟨y,y0,y1,ey⟩:=h.done i j2 (negF c.F a2) i0 i1 (by omega) ⟨hn2.1,hn2.2.1,hng.1,hng.2⟩
 refine hnot y y0 y1 ?_
 rw [ey,e,min_back hk hm.1 hm.2.1]
theorem all (hk:COk c) (h:BfI c W Q k) (hkq:(Q.length:Int)<=k):∀(d:Nat) {z:Int},0<=z->z<c.F.q^(dua c).Gen.length->dsC c z=d->∃i:Int,0<=i/\i<Q.length/\ix 0 Q i=z
 | d,z,z0,z1,hd=>by
  by_cases hz:z=0
  ·exact ⟨0,Int.le_refl 0,by have:=h.zero.1;omega,by rw [h.zero.2,hz]⟩
  ·obtain ⟨j,a,hn,hdn⟩:=dsC_down hk z0 z1 hz
   have hm:=min_dig hk z j a
   have h0:=dsC_nonneg c (minV c z j a)
   obtain ⟨i,i0,i1,e⟩:=all hk h hkq (d-1) hm.1 hm.2.1 (by omega)
   have hng:=negF_one hk hn.2.2.1 hn.2.2.2
   obtain ⟨y,y0,y1,ey⟩:=h.done i j (negF c.F a) i0 (by omega) i1 ⟨hn.1,hn.2.1,hng.1,hng.2⟩
   exact ⟨y,y0,y1,by rw [ey,e,min_back hk z0 z1]⟩
 termination_by d=>d
 decreasing_by
  have h1:=dsC_zero hk z0 z1
  have h2:=dsC_nonneg c z
  have : dsC c z≠0:=fun e=>hz (h1.1 e)
  omega
theorem add (hk:COk c) (h:BfI c W Q k) (k0:0<=k) (k1:k<Q.length) {j a:Int} (hn:NbOk c j a) (hns:ix 0 W (minV c (ix 0 Q k) j a)<0) :
  BfI c (W.set (minV c (ix 0 Q k) j a).toNat (ix 0 W (ix 0 Q k)+1)) (Q++[minV c (ix 0 Q k) j a]) k:=by
 have hr:=h.rng k k0 k1
 have hm:=min_dig hk (ix 0 Q k) j a
 have hnx:=h.next hk k0 k1 hn hns
 have hnot:∀i:Int,0<=i->i<Q.length->ix 0 Q i≠minV c (ix 0 Q k) j a:=by
  rcases h.seen hm.1 hm.2.1 with ⟨_,hs⟩ | ⟨hs,_⟩
  ·exact hs
  ·have:=dsC_nonneg c (minV c (ix 0 Q k) j a);omega
 have hl:((Q++[minV c (ix 0 Q k) j a]).length:Int)=Q.length+1:=by simp
 have ha:∀i:Int,0<=i->i<Q.length->ix 0 (Q++[minV c (ix 0 Q k) j a]) i=ix 0 Q i:=fun i i0 i1=>ix_apl i0 i1
 have hb:ix 0 (Q++[minV c (ix 0 Q k) j a]) Q.length=minV c (ix 0 Q k) j a:=by rw [ix_apr];rfl
 have hw:∀z:Int,0<=z->ix 0 (W.set (minV c (ix 0 Q k) j a).toNat (ix 0 W (ix 0 Q k)+1)) z=if minV c (ix 0 Q k) j a=z then ix 0 W (ix 0 Q k)+1 else ix 0 W z:=fun z z0=>ix_set W hm.1 (by rw [h.wl];exact hm.2.1) z0
 have hwk:=h.wq k k0 k1
 constructor
 ·rw [List.length_set];exact h.wl
 ·intro i i0 i1
  by_cases e:i<Q.length
  ·rw [ha i i0 e];exact h.rng i i0 e
  ·rw [show i=Q.length by omega,hb];exact ⟨hm.1,hm.2.1⟩
 ·intro i i2 i0 i1 i3
  by_cases e:i2<Q.length
  ·rw [ha i i0 (by omega),ha i2 (by omega) e];exact h.inj i i2 i0 i1 e
  ·rw [ha i i0 (by omega),show i2=Q.length by omega,hb];exact hnot i i0 (by omega)
 ·refine ⟨by omega,?_⟩
  rw [ha 0 (Int.le_refl 0) (by have:=h.zero.1;omega)];exact h.zero.2
 ·intro i i0 i1
  by_cases e:i<Q.length
  ·rw [ha i i0 e,hw _ (h.rng i i0 e).1,if_neg (fun e2=>hnot i i0 e e2.symm)];exact h.wq i i0 e
  ·rw [show i=Q.length by omega,hb,hw _ hm.1,if_pos rfl,hwk,hnx]
 ·intro z z0 z1 hz
  have h1:minV c (ix 0 Q k) j a≠z:=fun e=>hz Q.length (by omega) (by omega) (by rw [hb];exact e)
  rw [hw z z0,if_neg h1]
  exact h.wn z z0 z1 fun i i0 i1 e=>hz i i0 (by omega) (by rw [ha i i0 i1];exact e)
 ·intro i i2 i0 i1 i3
  by_cases e:i2<Q.length
  ·rw [ha i i0 (by omega),ha i2 (by omega) e];exact h.mono i i2 i0 i1 e
  ·rw [show i2=Q.length by omega,hb,hnx]
   by_cases e2:i<Q.length
   ·rw [ha i i0 e2];exact h.near i i0 e2 k0 k1
   ·rw [show i=Q.length by omega,hb,hnx];exact Int.le_refl _
 ·intro i i0 i1 _ _
  rw [ha k k0 k1]
  by_cases e:i<Q.length
  ·rw [ha i i0 e];exact h.near i i0 e k0 k1
  ·rw [show i=Q.length by omega,hb,hnx];exact Int.le_refl _
 ·intro i j2 a2 i0 i1 i2 hn2
  obtain ⟨z,z0,z1,ez⟩:=h.done i j2 a2 i0 i1 (by omega) hn2
  exact ⟨z,z0,by omega,by rw [ha z z0 z1,ha i i0 (by omega)];exact ez⟩
theorem step (hk:COk c) (h:BfI c W Q k) (k0:0<=k) (k1:k<Q.length) (hd:∀j a:Int,NbOk c j a->∃z:Int,0<=z/\z<Q.length/\ix 0 Q z=minV c (ix 0 Q k) j a):BfI c W Q (k+1) :=
 ⟨h.wl,h.rng,h.inj,h.zero,h.wq,h.wn,h.mono,fun j j0 j1 _ k2=>by
  have h1:=h.near j j0 j1 k0 k1
  have h2:=h.mono k (k+1) k0 (by omega) k2
  omega,fun i j a i0 i1 i2 hn=>by
  by_cases e:i=k
  ·rw [e];exact hd j a hn
  ·exact h.done i j a i0 (by omega) i2 hn⟩
theorem start (hk:COk c) {W:List Int} (hl:(W.length:Int)=c.F.q^(dua c).Gen.length) (h0:ix 0 W 0=0) (hn:∀z:Int,1<=z->z<c.F.q^(dua c).Gen.length->ix 0 W z = -1):BfI c W [0] 0:=by
 have hp:0<c.F.q^(dua c).Gen.length:=Int.pow_pos (by have:=hk.q2;omega)
 have hz:=(dsC_zero hk (Int.le_refl 0) hp).2 rfl
 have h1:∀i:Int,0<=i->i<(([0]:List Int).length:Int)->ix 0 ([0]:List Int) i=(0:Int):=fun i i0 i1=>by
  have : i=0:=by simp at i1;omega
  rw [this];rfl
 refine ⟨hl,fun i i0 i1=>by rw [h1 i i0 i1];omega,fun i j i0 ij j1=>by simp at j1;omega,⟨by simp,rfl⟩,fun i i0 i1=>by rw [h1 i i0 i1,h0,hz],fun z z0 z1 hz2=>?_,fun i j i0 ij j1=>by rw [h1 i i0 (by omega),h1 j (by omega) j1];exact Int.le_refl _,fun j j0 j1 _ _=>by rw [h1 j j0 j1];show dsC c 0<=dsC c (ix 0 ([0]:List Int) 0)+1;show dsC c 0<=dsC c 0+1;omega,fun i j a i0 i1=>by omega⟩
 have : z≠0:=fun e=>hz2 0 (Int.le_refl 0) (by simp) (by rw [e];rfl)
 exact hn z (by omega) z1
end BfI
end Go.Cw
set_option linter.unusedVariables false
set_option linter.unusedSimpArgs false
set_option linter.unusedSectionVars false
namespace Go.Cw
variable {c : Cod} {W Q : List Int} {k : Int}
theorem BfI.few (hk:COk c) (h:BfI c W Q k):(Q.length:Int)<=c.F.q^(dua c).Gen.length:=by
 have hp:0<c.F.q^(dua c).Gen.length:=Int.pow_pos (by have:=hk.q2;omega)
 have hnd:Q.Nodup:=by
  rw [List.nodup_iff_pairwise_ne,List.pairwise_iff_getElem]
  intro i j hi hj hij
  have h1:=h.inj (i:Int) (j:Int) (by omega) (by omega) (by omega)
  rw [show ix 0 Q (i:Int)=Q[i] from by simp [ix,hi],show ix 0 Q (j:Int)=Q[j] from by simp [ix,hj]] at h1
  exact h1
 have:=nodup_lt_length (c.F.q^(dua c).Gen.length).toNat Q hnd fun x hx=>by
  obtain ⟨i,hi,e⟩:=List.getElem_of_mem hx
  have h1:=h.rng (i:Int) (by omega) (by omega)
  rw [show ix 0 Q (i:Int)=Q[i] from by simp [ix,hi],e] at h1
  omega
 omega
theorem BfI.fin (hk:COk c) (h:BfI c W Q k) (hkq:(Q.length:Int)<=k):W=mapR (dsC c) (c.F.q^(dua c).Gen.length):=by
 have hp:0<c.F.q^(dua c).Gen.length:=Int.pow_pos (by have:=hk.q2;omega)
 have hl:=h.wl
 refine ext_ix 0 (by rw [A_j];omega) fun z z0 z1=>?_
 have hd:=dsC_nonneg c z
 obtain ⟨i,i0,i1,e⟩:=h.all hk hkq (dsC c z).toNat z0 (by omega) (by omega)
 rw [A_w _ _ z0 (by omega),<- e]
 exact h.wq i i0 i1
end Go.Cw
set_option linter.unusedVariables false
set_option linter.unusedSimpArgs false
set_option linter.unusedSectionVars false
namespace Go.Cw
variable {c : Cod} {W Q : List Int} {k : Int}
theorem BfI.put (h:BfI c W Q k) {Ls:List Lab} {i x:Int} (i0:0<=i) (i1:i+1<Q.length) (hx:x=ix 0 Q (i+1)) (hl:(Ls.length:Int)=c.F.q^(dua c).Gen.length)
  (hD:∀m:Int,0<=m->m<=i->lbl Ls (ix 0 Q m)=labB c (ix 0 Q m)):∀m:Int,0<=m->m<=i+1->lbl (Ls.set x.toNat (labB c x)) (ix 0 Q m)=labB c (ix 0 Q m):=by
 intro m m0 m1
 have hr:=h.rng (i+1) (by omega) i1
 have hrm:=h.rng m m0 (by omega)
 rw [<- hx] at hr
 unfold lbl
 rw [ix_setE _ _ _ hr.1 (by omega) hrm.1]
 by_cases e:m=i+1
 ·rw [e,<- hx,if_pos rfl]
 ·rw [if_neg (by have:=h.inj m (i+1) m0 (by omega) i1;rw [<- hx] at this;exact this)]
  exact hD m m0 (by omega)
theorem BfI.last (hc:csE c=0) (h:BfI c W Q k) (hkq:(Q.length:Int)<=k) {Ls:List Lab} (hl:(Ls.length:Int)=c.F.q^(dua c).Gen.length)
  (hD:∀m:Int,0<=m->m<Q.length->lbl Ls (ix 0 Q m)=labB c (ix 0 Q m)):Ls=bldL c:=by
 have hk:=(csE_zero.1 hc).1
 unfold bldL
 rw [if_pos hc]
 refine ext_ix (0,0,0) (by rw [A_j];omega) fun z z0 z1=>?_
 have hd:=dsC_nonneg c z
 obtain ⟨m,m0,m1,e⟩:=h.all hk hkq (dsC c z).toNat z0 (by omega) (by omega)
 rw [A_w _ _ z0 (by omega),<- e]
 exact hD m m0 m1
end Go.Cw
set_option linter.unusedVariables false
set_option linter.unusedSimpArgs false
set_option linter.unusedSectionVars false
namespace Go.Cw
structure RndI (c:Cod) (Ls:List Lab) (w s:Int):Prop where
 len:(Ls.length:Int)=c.F.q^(dua c).Gen.length
 zero:lbl Ls 0=(0,0,0)
 old:∀z:Int,1<=z->z<c.F.q^(dua c).Gen.length->(dsC c z<w\/(dsC c z=w/\z<s))->lbl Ls z=labB c z
 new:∀z:Int,1<=z->z<c.F.q^(dua c).Gen.length->¬(dsC c z<w\/(dsC c z=w/\z<s))->lbl Ls z=(-1,0,0)
def CndI (c:Cod) (w s j a:Int):Prop:=dsC c (minV c s j a)=w-1/\(minV c s j a=0\/j<(posT c (w-1).toNat (minV c s j a)).1)
structure SchI (c:Cod) (L Ls:List Lab) (w s:Int) (cond:Int->Int->Prop):Prop where
 len:(Ls.length:Int)=c.F.q^(dua c).Gen.length
 oth:∀z:Int,0<=z->z<c.F.q^(dua c).Gen.length->z≠s->lbl Ls z=lbl L z
 at_:(lbl Ls s=(-1,0,0)/\∀j a:Int,NbOk c j a->cond j a->¬CndI c w s j a)\/(lbl Ls s=labB c s/\dsC c s=w)
variable {c : Cod} {L Ls : List Lab} {w s : Int} {cond cond2 : Int -> Int -> Prop}
theorem RndI.round (h:RndI c Ls w (c.F.q^(dua c).Gen.length)):RndI c Ls (w+1) 1 :=
 ⟨h.len,h.zero,fun z z0 z1 hz=>h.old z z0 z1 (by omega),fun z z0 z1 hz=>h.new z z0 z1 (by omega)⟩
theorem RndI.last (hc:csE c=0) (h:RndI c Ls w 1) (hw:c.N<w):Ls=bldL c:=by
 have hk:=(csE_zero.1 hc).1
 unfold bldL
 rw [if_pos hc]
 have hl:=h.len
 refine ext_ix (0,0,0) (by rw [A_j];omega) fun z z0 z1=>?_
 rw [A_w _ _ z0 (by omega)]
 by_cases hz:z=0
 ·rw [hz,labB_zero hk];exact h.zero
 ·exact h.old z (by omega) (by omega) (.inl (by have:=dsC_N hk (x:=z) z0 (by omega);omega))
theorem SchI.mono (h:SchI c L Ls w s cond) (hc:∀j a:Int,NbOk c j a->cond2 j a->cond j a):SchI c L Ls w s cond2 :=
 ⟨h.len,h.oth,h.at_.elim (fun h=>.inl ⟨h.1,fun j a hn hq=>h.2 j a hn (hc j a hn hq)⟩) .inr⟩
theorem RndI.start (h:RndI c L w s) (s0:1<=s) (s1:s<c.F.q^(dua c).Gen.length) (hn:w<=dsC c s) (hf:∀j a:Int,NbOk c j a->¬cond j a):SchI c L L w s cond :=
 ⟨h.len,fun _ _ _ _=>rfl,.inl ⟨h.new s s0 s1 (by omega),fun j a hn hq=>absurd hq (hf j a hn)⟩⟩
theorem RndI.skip (h:RndI c L w s) (hn:dsC c s<w):RndI c L w (s+1) :=
 ⟨h.len,h.zero,fun z z0 z1 hz=>h.old z z0 z1 (by by_cases e:z=s;(rw [e];omega);omega),fun z z0 z1 hz=>h.new z z0 z1 (by omega)⟩
theorem SchI.done (hc:csE c=0) (h0:RndI c L w s) (w1:1<=w) (s0:1<=s) (s1:s<c.F.q^(dua c).Gen.length) (hn:w<=dsC c s) (h:SchI c L Ls w s cond)
  (hf:(lbl Ls s).1<0->∀j a:Int,NbOk c j a->cond j a):RndI c Ls w (s+1):=by
 have hk:=(csE_zero.1 hc).1
 have hd:=dsC_nonneg c s
 have key:(dsC c s=w->lbl Ls s=labB c s)/\(dsC c s≠w->lbl Ls s=(-1,0,0)):=by
  rcases h.at_ with ⟨h1,h2⟩ | ⟨h1,h2⟩
  ·refine ⟨fun e=>?_,fun _=>h1⟩
   exfalso
   have hp:=pos_ok hk hc (x:=s) (by omega) s1 (w:=(w-1).toNat) (by omega)
   refine h2 _ _ hp.nb (hf (by rw [h1];decide) _ _ hp.nb) ?_
   have:=hp.ok
   rw [show (((w-1).toNat:Nat):Int)=w-1 by omega] at this
   exact this
  ·exact ⟨fun _=>h1,fun e=>absurd h2 e⟩
 refine ⟨h.len,(h.oth 0 (by omega) (by omega) (by omega)).trans h0.zero,fun z z0 z1 hz=>?_,fun z z0 z1 hz=>?_⟩
 ·by_cases e:z=s
  ·rw [e];rw [e] at hz;exact key.1 (by omega)
  ·rw [h.oth z (by omega) z1 e];exact h0.old z z0 z1 (by omega)
 ·by_cases e:z=s
  ·rw [e];rw [e] at hz;exact key.2 (by omega)
  ·rw [h.oth z (by omega) z1 e];exact h0.new z z0 z1 (by omega)
theorem SchI.hit (hc:csE c=0) (w1:1<=w) (s0:1<=s) (s1:s<c.F.q^(dua c).Gen.length) (hn:w<=dsC c s) (h:SchI c L Ls w s cond) (hu:(lbl Ls s).1<0) {j a:Int} (hb:NbOk c j a)
  (hf:∀j2 a2:Int,NbOk c j2 a2->(j<j2\/(j2=j/\a2<a))->cond j2 a2) (hq:CndI c w s j a):SchI c L (Ls.set s.toNat (w,j,a)) w s cond2:=by
 have hk:=(csE_zero.1 hc).1
 have hl:=h.len
 have hno:∀j a:Int,NbOk c j a->cond j a->¬CndI c w s j a:=by
  rcases h.at_ with ⟨_,h2⟩ | ⟨h1,_⟩
  ·exact h2
  ·rw [h1] at hu;have:=dsC_nonneg c s;unfold labB at hu;dsimp only at hu;omega
 have hdw:dsC c s=w:=by
  have h1:=dsC_nb hk (x:=s) (by omega) s1 hb
  have:=hq.1
  omega
 have hp:=pos_ok hk hc (x:=s) (by omega) s1 (w:=(w-1).toNat) (by omega)
 have hI:IsF c (fun j a=>dsC c (minV c s j a)=((w-1).toNat:Nat)/\(minV c s j a=0\/j<(posT c (w-1).toNat (minV c s j a)).1)) j a :=
  ⟨hb,by rw [show (((w-1).toNat:Nat):Int)=w-1 by omega];exact hq,fun j2 a2 h1 h2 h3=>by rw [show (((w-1).toNat:Nat):Int)=w-1 by omega] at h3;exact hno j2 a2 h1 (hf j2 a2 h1 h2) h3⟩
 have hu2:=hp.uniq hI
 have hlab:labB c s=(w,j,a):=by
  unfold labB
  rw [hdw,show w.toNat=(w-1).toNat+1 by omega,<- hu2.1,<- hu2.2]
 have hset:∀z:Int,0<=z->lbl (Ls.set s.toNat (w,j,a)) z=if z=s then (w,j,a) else lbl Ls z:=fun z z0=>by
  unfold lbl;exact ix_setE _ _ _ (by omega) (by omega) z0
 refine ⟨by rw [List.length_set];exact hl,fun z z0 z1 hz=>?_,.inr ⟨?_,hdw⟩⟩
 ·rw [hset z z0,if_neg hz];exact h.oth z z0 z1 hz
 ·rw [hset s (by omega),if_pos rfl,hlab]
theorem SchI.any (h:SchI c L Ls w s cond) (hu:¬(lbl Ls s).1<0):SchI c L Ls w s cond2 :=
 ⟨h.len,h.oth,h.at_.elim (fun h=>absurd (show (lbl Ls s).1<0 by rw [h.1];decide) hu) .inr⟩
theorem SchI.more (h:SchI c L Ls w s cond) {j a:Int} (hq:¬CndI c w s j a) (hc:∀j2 a2:Int,NbOk c j2 a2->cond2 j2 a2->cond j2 a2\/(j2=j/\a2=a)):SchI c L Ls w s cond2 :=
 ⟨h.len,h.oth,h.at_.elim (fun h=>.inl ⟨h.1,fun j2 a2 hn hp=>(hc j2 a2 hn hp).elim (h.2 j2 a2 hn) (fun e=>by rw [e.1,e.2];exact hq)⟩) .inr⟩
theorem RndI.seen (h:RndI c L w s) (w1:1<=w) (s0:1<=s) (s1:s<c.F.q^(dua c).Gen.length):(0<=(lbl L s).1/\(lbl L s).1<w)↔dsC c s<w:=by
 have hd:=dsC_nonneg c s
 constructor
 ·intro hh
  by_cases ho:dsC c s<w\/(dsC c s=w/\s<s)
  ·omega
  ·rw [h.new s s0 s1 ho] at hh;have h1:=hh.1;dsimp only at h1;omega
 ·intro hh
  rw [h.old s s0 s1 (.inl hh)]
  exact ⟨hd,hh⟩
end Go.Cw
set_option linter.unusedVariables false
set_option linter.unusedSimpArgs false
set_option linter.unusedSectionVars false
namespace Go.Cw
section
variable {c : Cod} (hk : COk c)
include hk
end
end Go.Cw
set_option linter.unusedVariables false
set_option linter.unusedSimpArgs false
set_option linter.unusedSectionVars false
namespace Go.Cw
theorem dst_comm' {a b:List Int} (hl:a.length=b.length):dst a b=dst b a:=by
 have : ∀k:Nat,dstTo a b k=dstTo b a k:=fun k=>by
  induction k with
  | zero=>rfl
  | succ k ih =>
   rw [dstTo,dstTo,ih]
   congr 1
   by_cases e:ix 0 a (k:Int)=ix 0 b (k:Int)
   ·rw [if_neg (fun h=>h e),if_neg (fun h=>h e.symm)]
   ·rw [if_pos e,if_pos (fun h=>e h.symm)]
 unfold dst
 rw [hl]
 exact this _
theorem dst_smT {a b:List Int} {N:Int} (ha:(a.length:Int)=N) (hb:(b.length:Int)=N):dst a b=smT (fun p=>if ix 0 a p≠ix 0 b p then 1 else 0) N.toNat:=by
 have : ∀k:Nat,dstTo a b k=smT (fun p=>if ix 0 a p≠ix 0 b p then 1 else 0) k:=fun k=>by
  induction k with
  | zero=>rfl
  | succ k ih=>rw [dstTo,smT,ih]
 unfold dst
 rw [show min a.length b.length=N.toNat by omega]
 exact this _
noncomputable def nmC (c:Cod) (y:List Int) (j:Int):Int:=cntTo (fun i=>dst (c.w i) y) j c.n
noncomputable def numL (c:Cod) (ls:List Lab) (x:Int):Int:=nmC c (leadW c ls x) (lbl ls x).1
section
variable {c : Cod} (hk : COk c)
include hk
theorem word_of_dual {z:List Int} (hl:(z.length:Int)=c.N) (ho:¬outF c.F z) (hd:∀x∈(dua c).Gen,dotF c.F x z=0):∃v:Int,0<=v/\v<c.F.q^c.Gen.length/\z=c.w v:=by
 have hN:=hk.n1
 have hP:=hk.plen
 have hr:=rest_zero hk hl ho hd
 have hpo:¬outF c.F (pickL z (canP c.F c.m)):=by
  rintro ⟨x,hx,hb⟩
  obtain ⟨i,i0,i1,rfl⟩:=mem_ix 0 hx
  rw [length_pickL] at i1
  rw [ix_pickL i0 (by omega)] at hb
  exact hb (ix_ok hk.fld.1 ho _)
 obtain ⟨v,v0,v1,e⟩:=msg_index hk (m:=pickL z (canP c.F c.m)) (by rw [length_pickL];exact hP) hpo
 refine ⟨v,v0,v1,?_⟩
 show z=wdF c.F c.N c.Gen v
 rw [<- e]
 refine kv_ext hk.fld ho (comb_out hk.fld.1 _ _ _) (by rw [length_comb];omega) fun j hj=>?_
 have h1:=kv_rest hk hl j c.Gen.length (Nat.le_refl _)
 rw [hr,kv_zeros] at h1
 rw [kv_comb hk.fld (fun l hl'=>hk.wdn hl') (by rw [length_pickL];omega)]
 show _=La.sm (fun i=>kv hk.fld (pickL z (canP c.F c.m)) i*km hk.fld c.Gen i j) c.Gen.length
 rw [La.sm_congr (h:=fun i=>ke hk.fld (ix 0 z (ix 0 (canP c.F c.m) i))*km hk.fld c.Gen i j) fun i hi=>by rw [kv_ix,ix_pickL (by omega) (by omega)]]
 have e2:∀A B:KF c.F hk.fld,0=A + -B->A=B:=fun A B h=>by
  have : A + -B+B=0+B:=by rw [<- h]
  rw [Fi.add_assoc,Fi.add_comm (-B),Fi.add_neg,Fi.add_zero,Fi.zero_add] at this
  exact this
 exact e2 _ _ h1
theorem syn_dot {u:List Int} (h:wsE c u=0):∀i:Int,0<=i->i<(dua c).Gen.length->dig c.F.q (dua c).Gen.length (syV c u) i=dotF c.F (ix [] (dua c).Gen i) u:=fun i i0 i1=>by
 unfold syV
 rw [if_pos h]
 exact (dig_val hk.q2 (dua c).Gen.length (G:=fun i=>dotF c.F (ix [] (dua c).Gen i) u) (fun i _ _=>dot_lt hk.fld.1 _ _)).2.2 i i0 i1
theorem nm_syn {y z:List Int} (hy:wsE c y=0) (hz:wsE c z=0) (e:syV c y=syV c z) (j:Int):nmC c y j=nmC c z j:=by
 obtain ⟨_,yl,yo⟩:=wrdE_zero.1 (ws_word hy)
 obtain ⟨_,zl,zo⟩:=wrdE_zero.1 (ws_word hz)
 have hN:=hk.n1
 have hdl:((vadd c.F z (vneg c.F y)).length:Int)=c.N:=by rw [length_vadd];exact zl
 obtain ⟨v,v0,v1,ev⟩:=word_of_dual hk (z:=vadd c.F z (vneg c.F y)) hdl (vadd_out hk.fld.1 _ _) fun x hx=>by
  obtain ⟨i,i0,i1,rfl⟩:=mem_ix [] hx
  have r:=dot_lt hk.fld.1 (ix [] (dua c).Gen i) (vadd c.F z (vneg c.F y))
  refine (ke_eq_zero hk.fld r.1 r.2).1 ?_
  rw [ke_dot_vadd hk.fld (by rw [length_vneg];omega),ke_dot_vneg,<- syn_dot hk hz i i0 i1,<- syn_dot hk hy i i0 i1,e,Fi.add_neg]
 have ez:z=vadd c.F y (c.w v):=by
  rw [<- ev]
  refine ext_ix 0 (by rw [length_vadd];omega) fun i i0 i1=>?_
  rw [ix_vadd i0 (by omega),ix_vadd i0 (by omega),ix_vneg i0 (by omega)]
  have rz:=ix_ok hk.fld.1 zo i
  have r2:=hk.fld.1.addF_lt (ix 0 y i) (addF c.F (ix 0 z i) (negF c.F (ix 0 y i)))
  refine ke_inj hk.fld rz.1 rz.2 r2.1 r2.2 ?_
  rw [ke_add,ke_add,ke_neg]
  have e1:∀A B:KF c.F hk.fld,A=B+(A + -B):=fun A B=>by rw [Fi.add_comm A,<- Fi.add_assoc,Fi.add_neg,Fi.zero_add]
  exact e1 _ _
 unfold nmC
 rw [ez]
 exact (hk.cnt_add yl yo v j).symm
theorem dst_low {ls:List Lab} (hp:Prv c ls) {y:List Int} (hy:wsE c y=0) {i:Int} (i0:0<=i) (i1:i<c.n):(lbl ls (syV c y)).1<=dst (c.w i) y:=by
 obtain ⟨_,yl,yo⟩:=wrdE_zero.1 (ws_word hy)
 obtain ⟨p,hpm,hpe⟩:=hk.perm_neg
 have hw:((c.w i).length:Int)=c.N:=hk.wdl i
 have e1:=hpe i i0 i1
 have hN:=hk.n1
 have hlen:y.length=(c.w i).length:=by omega
 rw [dst_comm' (a:=c.w i) (b:=y) hlen.symm,<- wt_vsub hk.fld yo (hk.wd_out i) hlen,<- e1]
 have hs:=lab_sound hk hp (y:=vadd c.F y (c.w (p i))) (by rw [length_vadd];exact yl) (vadd_out hk.fld.1 _ _)
 rw [synL_add hk yl (p i)] at hs
 have e2:syV c y=valD c.F.q (synL c y):=by unfold syV;rw [if_pos hy]
 rw [e2]
 exact hs
theorem dec_word (hc:csE c=0) {y:List Int} (hy:wsE c y=0) {p a:Int} (hn:NbOk c p a) :
  wsE c (y.set p.toNat (addF c.F (ix 0 y p) (negF c.F a)))=0/\syV c (y.set p.toNat (addF c.F (ix 0 y p) (negF c.F a)))=minV c (syV c y) p a/\addF c.F (ix 0 y p) (negF c.F a)≠ix 0 y p:=by
 obtain ⟨_,yl,yo⟩:=wrdE_zero.1 (ws_word hy)
 obtain ⟨p0,p1,a0,a1⟩:=hn
 have hN:=hk.n1
 have hb:=hk.fld.1.bd
 have ry:=ix_ok hk.fld.1 yo p
 have rv:=hk.fld.1.addF_lt (ix 0 y p) (negF c.F a)
 have l2:((y.set p.toNat (addF c.F (ix 0 y p) (negF c.F a))).length:Int)=c.N:=by rw [List.length_set];exact yl
 have hi2:∀i:Int,0<=i->ix 0 (y.set p.toNat (addF c.F (ix 0 y p) (negF c.F a))) i=if p=i then addF c.F (ix 0 y p) (negF c.F a) else ix 0 y i:=fun i i0=>ix_set y p0 (by omega) i0
 have o2:¬outF c.F (y.set p.toNat (addF c.F (ix 0 y p) (negF c.F a))):=by
  rintro ⟨v,hv,hne⟩
  obtain ⟨z,z0,z1,rfl⟩:=mem_ix 0 hv
  apply hne
  rw [hi2 z z0]
  have:=ix_ok hk.fld.1 yo z
  split
  ·exact rv
  ·exact this
 have hw2:wsE c (y.set p.toNat (addF c.F (ix 0 y p) (negF c.F a)))=0:=by unfold wsE;rw [if_pos (wrdE_zero.2 ⟨hk,l2,o2⟩)];exact hc
 have hsplit:y=vadd c.F (y.set p.toNat (addF c.F (ix 0 y p) (negF c.F a))) (unitW c.N p a):=by
  refine ext_ix 0 (by rw [length_vadd];omega) fun i i0 i1=>?_
  rw [ix_vadd i0 (by omega),hi2 i i0]
  unfold unitW
  rw [A_w 0 _ i0 (by omega)]
  have ri:=ix_ok hk.fld.1 yo i
  by_cases e:p=i
  ·rw [if_pos e,if_pos e.symm,e]
   have r2:=hk.fld.1.addF_lt (addF c.F (ix 0 y i) (negF c.F a)) a
   refine ke_inj hk.fld ri.1 ri.2 r2.1 r2.2 ?_
   rw [ke_add,ke_add,ke_neg,Fi.add_assoc,Fi.add_comm (-_),Fi.add_neg,Fi.add_zero]
  ·rw [if_neg e,if_neg (Ne.symm e)]
   have r2:=hk.fld.1.addF_lt (ix 0 y i) 0
   refine ke_inj hk.fld ri.1 ri.2 r2.1 r2.2 ?_
   rw [ke_add,ke_zero,Fi.add_zero]
 refine ⟨hw2,?_,fun e=>?_⟩
 ·have s2:=syV_rng hw2
  have hm:=min_dig hk (syV c y) p a
  refine (dig_ext hk.q2 hm.1 hm.2.1 s2.1 s2.2 fun i i0 i1=>?_).symm
  rw [hm.2.2 i i0 i1,syn_dot hk hy i i0 i1,syn_dot hk hw2 i i0 i1,ix_dcol c p0 p1 i0 i1]
  have r1:=hk.fld.1.addF_lt (dotF c.F (ix [] (dua c).Gen i) y) (negF c.F (mulF c.F a (ix 0 (ix [] (dua c).Gen i) p)))
  have r2:=dot_lt hk.fld.1 (ix [] (dua c).Gen i) (y.set p.toNat (addF c.F (ix 0 y p) (negF c.F a)))
  refine ke_inj hk.fld r1.1 r1.2 r2.1 r2.2 ?_
  have hke:ke hk.fld (dotF c.F (ix [] (dua c).Gen i) y)=ke hk.fld (dotF c.F (ix [] (dua c).Gen i) (y.set p.toNat (addF c.F (ix 0 y p) (negF c.F a))))+ke hk.fld (ix 0 (ix [] (dua c).Gen i) p)*ke hk.fld a:=by
   rw [<- ke_unit hk.fld (n:=c.N) (hk.dua.row i0 i1) p0 p1,<- ke_dot_vadd hk.fld (by unfold unitW;rw [A_j];omega),<- hsplit]
  rw [ke_add,ke_neg,ke_mul,hke]
  have e1:∀A B D:KF c.F hk.fld,A+B*D + -(D*B)=A:=fun A B D=>by rw [Fi.mul_comm B D,Fi.add_assoc,Fi.add_neg,Fi.add_zero]
  exact e1 _ _ _
 ·have h1:ke hk.fld (ix 0 y p) + -ke hk.fld a=ke hk.fld (ix 0 y p)+0:=by rw [<- ke_neg,<- ke_add,e,Fi.add_zero]
  have h2 : -ke hk.fld a=0:=Fi.add_left_cancel h1
  have h3:ke hk.fld a=0:=by rw [<- Fi.neg_neg (ke hk.fld a),h2,Fi.neg_zero]
  have:=(ke_eq_zero hk.fld (by omega) a1).1 h3
  omega
end
noncomputable def gL (c:Cod) (ls:List Lab) (x p a:Int):Int:=if (lbl ls (minV c x p a)).1=(lbl ls x).1-1 then numL c ls (minV c x p a) else 0
noncomputable def sJ (c:Cod) (ls:List Lab) (x p:Int):Int:=smT (fun p'=>smT (fun a'=>gL c ls x p' (a'+1)) (c.F.q-1).toNat) p.toNat
noncomputable def sA (c:Cod) (ls:List Lab) (x p a:Int):Int:=sJ c ls x p+smT (fun a'=>gL c ls x p (a'+1)) (a-1).toNat
theorem sJ_zero (c:Cod) (ls:List Lab) (x:Int):sJ c ls x 0=0:=rfl
theorem sA_one (c:Cod) (ls:List Lab) (x p:Int):sA c ls x p 1=sJ c ls x p:=by unfold sA;simp [smT]
theorem sA_step (c:Cod) (ls:List Lab) (x p:Int) {a:Int} (h:1<=a):sA c ls x p (a+1)=sA c ls x p a+gL c ls x p a:=by
 unfold sA
 rw [show (a+1-1).toNat=(a-1).toNat+1 by omega,smT,show (((a-1).toNat:Nat):Int)+1=a by omega,Int.add_assoc]
theorem sJ_step (c:Cod) (ls:List Lab) (x:Int) {p a:Int} (h:0<=p) (ha:a=c.F.q):sA c ls x p a=sJ c ls x (p+1):=by
 unfold sA sJ
 rw [show (p+1).toNat=p.toNat+1 by omega,smT,show ((p.toNat:Nat):Int)=p by omega,ha]
section
variable {c : Cod} (hk : COk c) {ls : List Lab} (hp : Prv c ls) (hc : csE c = 0)
include hk hp hc
theorem nm_nb {y:List Int} (hy:wsE c y=0) {p a:Int} (hn:NbOk c p a) {w:Int} (hw:(lbl ls (syV c y)).1=w) :
  smT (fun i=>if dst (c.w i) y=w/\ix 0 (c.w i) p=addF c.F (ix 0 y p) (negF c.F a) then 1 else 0) c.n=gL c ls (syV c y) p a:=by
 obtain ⟨hw2,hs2,hne⟩:=dec_word hk hc hy hn
 obtain ⟨_,yl,yo⟩:=wrdE_zero.1 (ws_word hy)
 obtain ⟨_,zl,zo⟩:=wrdE_zero.1 (ws_word hw2)
 have hN:=hk.n1
 have sr:=syV_rng hy
 have hb3:=hp.three (syV c y) p a sr.1 sr.2 hn.1 hn.2.1 hn.2.2.1 hn.2.2.2
 unfold Step3 at hb3
 have hm:=min_dig hk (syV c y) p a
 have hdd:∀i:Int,(ix 0 (c.w i) p=addF c.F (ix 0 y p) (negF c.F a)->dst (c.w i) (y.set p.toNat (addF c.F (ix 0 y p) (negF c.F a)))=dst (c.w i) y-1) /\
   (ix 0 (c.w i) p≠addF c.F (ix 0 y p) (negF c.F a)->dst (c.w i) y<=dst (c.w i) (y.set p.toNat (addF c.F (ix 0 y p) (negF c.F a)))):=fun i=>by
  have hwl:((c.w i).length:Int)=c.N:=hk.wdl i
  rw [dst_smT hwl zl,dst_smT hwl yl]
  have hz:∀z:Int,0<=z->ix 0 (y.set p.toNat (addF c.F (ix 0 y p) (negF c.F a))) z=if p=z then addF c.F (ix 0 y p) (negF c.F a) else ix 0 y z:=fun z z0=>ix_set y hn.1 (by have:=hn.2.1;omega) z0
  refine ⟨fun e=>?_,fun e=>?_⟩
  ·have : smT (fun z=>if ix 0 (c.w i) z≠ix 0 y z then (1:Int) else 0) c.N.toNat=smT (fun z=>(if ix 0 (c.w i) z≠ix 0 (y.set p.toNat (addF c.F (ix 0 y p) (negF c.F a))) z then 1 else 0)+(if p=z then 1 else 0)) c.N.toNat:=smT_congr fun z z0 z1=>by
    rw [hz z z0]
    by_cases ez:p=z
    ·rw [if_pos ez,if_pos ez,<- ez,if_pos (show ix 0 (c.w i) p≠ix 0 y p by rw [e];exact hne),if_neg (fun h=>h e)];rfl
    ·rw [if_neg ez,if_neg ez,Int.add_zero]
   rw [this,smT_add,smT_single 1 p c.N.toNat hn.1,if_pos (by have:=hn.2.1;omega)]
   omega
  ·exact smT_le fun z z0 z1=>by
    rw [hz z z0]
    by_cases ez:p=z
    ·rw [if_pos ez,<- ez,if_pos e];split <;> omega
    ·rw [if_neg ez];exact Int.le_refl _
 unfold gL
 by_cases hlw:(lbl ls (minV c (syV c y) p a)).1=(lbl ls (syV c y)).1-1
 ·rw [if_pos hlw]
  have hlf:=lead_facts hk hp hc hm.1 hm.2.1
  have e1:numL c ls (minV c (syV c y) p a)=nmC c (y.set p.toNat (addF c.F (ix 0 y p) (negF c.F a))) (w-1):=by
   unfold numL
   rw [hlw,hw]
   exact nm_syn hk hlf.1 hw2 (by rw [hlf.2.1,hs2]) _
  rw [e1]
  unfold nmC
  rw [cnt_smT]
  refine smT_congr fun i i0 i1=>?_
  have hlow:=dst_low hk hp hy i0 i1
  by_cases e:ix 0 (c.w i) p=addF c.F (ix 0 y p) (negF c.F a)
  ·have:=(hdd i).1 e
   by_cases e2:dst (c.w i) y=w
   ·rw [if_pos ⟨e2,e⟩,if_pos (by omega)]
   ·rw [if_neg (fun h=>e2 h.1),if_neg (by omega)]
  ·have:=(hdd i).2 e
   rw [if_neg (fun h=>e h.2),if_neg (by omega)]
 ·rw [if_neg hlw]
  refine smT_zero fun i i0 i1=>?_
  have hlow:=dst_low hk hp hw2 i0 i1
  rw [hs2] at hlow
  refine if_neg fun h=>?_
  have:=(hdd i).1 h.2
  omega
theorem sJ_all {x:Int} (x0:0<=x) (x1:x<c.F.q^(dua c).Gen.length) {n:Int} (hn:n=c.N):sJ c ls x n=(lbl ls x).1*numL c ls x:=by
 have hlf:=lead_facts hk hp hc x0 x1
 obtain ⟨_,yl,yo⟩:=wrdE_zero.1 (ws_word hlf.1)
 have hN:=hk.n1
 have hb:=hk.fld.1.bd
 subst hn
 have e1:(lbl ls x).1*numL c ls x=smT (fun i=>smT (fun p=>if dst (c.w i) (leadW c ls x)=(lbl ls x).1/\ix 0 (c.w i) p≠ix 0 (leadW c ls x) p then 1 else 0) c.N.toNat) c.n:=by
  unfold numL nmC
  rw [cnt_smT,<- smT_mul]
  refine smT_congr fun i i0 i1=>?_
  by_cases e:dst (c.w i) (leadW c ls x)=(lbl ls x).1
  ·rw [if_pos e,Int.mul_one,<- e,dst_smT (hk.wdl i) yl]
   refine smT_congr fun p p0 p1=>?_
   by_cases e2:ix 0 (c.w i) p≠ix 0 (leadW c ls x) p
   ·rw [if_pos e2,if_pos ⟨rfl,e2⟩]
   ·rw [if_neg e2,if_neg (fun h=>e2 h.2)]
  ·rw [if_neg e,Int.mul_zero]
   exact (smT_zero fun p p0 p1=>if_neg fun h=>e h.1).symm
 rw [e1,smT_swap]
 unfold sJ
 refine smT_congr fun p p0 p1=>?_
 have e2:∀i:Int,(if dst (c.w i) (leadW c ls x)=(lbl ls x).1/\ix 0 (c.w i) p≠ix 0 (leadW c ls x) p then (1:Int) else 0)=smT (fun a'=>if dst (c.w i) (leadW c ls x)=(lbl ls x).1/\ix 0 (c.w i) p=addF c.F (ix 0 (leadW c ls x) p) (negF c.F (a'+1)) then 1 else 0) (c.F.q-1).toNat:=fun i=>by
  have ry:=ix_ok hk.fld.1 yo p
  have rw':=ix_ok hk.fld.1 (hk.wd_out i) p
  by_cases e:dst (c.w i) (leadW c ls x)=(lbl ls x).1
  ·-- the one entry
   have ra:=hk.fld.1.addF_lt (ix 0 (leadW c ls x) p) (negF c.F (ix 0 (c.w i) p))
   have hiff:∀a:Int,0<=a->a<c.F.q->(ix 0 (c.w i) p=addF c.F (ix 0 (leadW c ls x) p) (negF c.F a)↔a=addF c.F (ix 0 (leadW c ls x) p) (negF c.F (ix 0 (c.w i) p))):=fun a a0 a1=>by
    have rb:=hk.fld.1.addF_lt (ix 0 (leadW c ls x) p) (negF c.F a)
    have key:∀A B D:KF c.F hk.fld,A=B + -D->D=B + -A:=fun A B D h=>by
     rw [h,Fi.neg_add_rev,Fi.neg_neg,<- Fi.add_assoc,Fi.add_neg,Fi.zero_add]
    constructor
    ·intro h
     refine ke_inj hk.fld a0 a1 ra.1 ra.2 ?_
     rw [ke_add,ke_neg]
     refine key _ _ _ ?_
     rw [h,ke_add,ke_neg]
    ·intro h
     refine ke_inj hk.fld rw'.1 rw'.2 rb.1 rb.2 ?_
     rw [ke_add,ke_neg]
     refine key _ _ _ ?_
     rw [h,ke_add,ke_neg]
   have h0:=hiff 0 (Int.le_refl 0) (by omega)
   have hz0:addF c.F (ix 0 (leadW c ls x) p) (negF c.F 0)=ix 0 (leadW c ls x) p:=by
    have rb:=hk.fld.1.addF_lt (ix 0 (leadW c ls x) p) (negF c.F 0)
    refine ke_inj hk.fld rb.1 rb.2 ry.1 ry.2 ?_
    rw [ke_add,ke_neg,ke_zero,Fi.neg_zero,Fi.add_zero]
   rw [hz0] at h0
   by_cases hne:ix 0 (c.w i) p≠ix 0 (leadW c ls x) p
   ·rw [if_pos ⟨e,hne⟩]
    have hpos:addF c.F (ix 0 (leadW c ls x) p) (negF c.F (ix 0 (c.w i) p))≠0:=fun h=>hne (h0.2 h.symm)
    rw [smT_congr (h':=fun a'=>if addF c.F (ix 0 (leadW c ls x) p) (negF c.F (ix 0 (c.w i) p))-1=a' then 1 else 0) fun a' b0 b1=>?_,smT_single 1 _ (c.F.q-1).toNat (by omega),if_pos (by omega)]
    have:=hiff (a'+1) (by omega) (by omega)
    by_cases ea:addF c.F (ix 0 (leadW c ls x) p) (negF c.F (ix 0 (c.w i) p))-1=a'
    ·rw [if_pos ea,if_pos ⟨e,this.2 (by omega)⟩]
    ·rw [if_neg ea,if_neg (fun h=>ea (by have:=this.1 h.2;omega))]
   ·rw [if_neg (fun h=>hne h.2)]
    refine (smT_zero fun a' b0 b1=>if_neg fun h=>?_).symm
    have h1:=(hiff (a'+1) (by omega) (by omega)).1 h.2
    have h2:=h0.1 (Classical.not_not.1 hne)
    omega
  ·rw [if_neg (fun h=>e h.1)]
   exact (smT_zero fun a' b0 b1=>if_neg fun h=>e h.1).symm
 rw [smT_congr (h':=fun i=>smT (fun a'=>if dst (c.w i) (leadW c ls x)=(lbl ls x).1/\ix 0 (c.w i) p=addF c.F (ix 0 (leadW c ls x) p) (negF c.F (a'+1)) then 1 else 0) (c.F.q-1).toNat) fun i _ _=>e2 i,smT_swap]
 refine smT_congr fun a' b0 b1=>?_
 have:=nm_nb hk hp hc hlf.1 (p:=p) (a:=a'+1) ⟨p0,by omega,by omega,by omega⟩ (w:=(lbl ls x).1) (by rw [hlf.2.1])
 rw [this,hlf.2.1]
theorem numL_zero:numL c ls 0=1:=by
 have hN:=hk.n1
 have hcn:=hk.cn
 have hpn:=hk.pos_n
 have hl:leadW c ls 0=List.replicate c.N.toNat 0:=by unfold leadW;exact ldr_end hp.zero _
 unfold numL nmC
 rw [hl,hp.zero,cnt_smT]
 show smT (fun i=>if dst (c.w i) (List.replicate c.N.toNat 0)=0 then (1:Int) else 0) c.n=1
 rw [smT_congr (h':=fun i=>if (0:Int)=i then 1 else 0) fun i i0 i1=>?_,smT_single 1 0 c.n (Int.le_refl 0),if_pos hpn]
 rw [wt_le_dst hk i]
 by_cases e:(0:Int)=i
 ·have hz:c.w i=List.replicate c.N.toNat 0:=by rw [<- e];exact hk.wd_zero
  rw [if_pos e,hz,if_pos (wt_zero.2 (by simp))]
 ·rw [if_neg e,if_neg (hk.wt_pos (by omega) (by omega))]
theorem numL_nonneg (x:Int):0<=numL c ls x:=by
 unfold numL nmC
 rw [cnt_smT]
 have h1:smT (fun _=>(0:Int)) c.n<=smT (fun i=>if dst (c.w i) (leadW c ls x)=(lbl ls x).1 then 1 else 0) c.n:=smT_le fun i _ _=>by split <;> omega
 rw [smT_const,Int.mul_zero] at h1
 exact h1
theorem sA_bd {x B:Int} (hB:∀p a:Int,0<=gL c ls x p a/\gL c ls x p a<=B) {p a:Int} (p0:0<=p) (a0:1<=a) (a1:a<=c.F.q):0<=sA c ls x p a/\sA c ls x p a<=(p*(c.F.q-1)+(a-1))*B:=by
 have hq:=hk.q2
 have row:∀(p:Int) (m:Nat),0<=smT (fun a'=>gL c ls x p (a'+1)) m/\smT (fun a'=>gL c ls x p (a'+1)) m<=m*B:=fun p m=>by
  have h1:smT (fun _=>(0:Int)) m<=smT (fun a'=>gL c ls x p (a'+1)) m:=smT_le fun a' _ _=>(hB p _).1
  have h2:smT (fun a'=>gL c ls x p (a'+1)) m<=smT (fun _=>B) m:=smT_le fun a' _ _=>(hB p _).2
  rw [smT_const,Int.mul_zero] at h1
  rw [smT_const] at h2
  exact ⟨h1,h2⟩
 have h1:smT (fun _=>(0:Int)) p.toNat<=sJ c ls x p:=smT_le fun p' _ _=>(row p' _).1
 have h2:sJ c ls x p<=smT (fun _=>((c.F.q-1).toNat:Int)*B) p.toNat:=smT_le fun p' _ _=>(row p' _).2
 rw [smT_const,Int.mul_zero] at h1
 rw [smT_const,show ((c.F.q-1).toNat:Int)=c.F.q-1 by omega,show ((p.toNat:Nat):Int)=p by omega] at h2
 have h3:=row p (a-1).toNat
 rw [show (((a-1).toNat:Nat):Int)=a-1 by omega] at h3
 unfold sA
 rw [Int.add_mul,Int.mul_assoc]
 omega
theorem numL_bd:∀(w:Nat) {x:Int},0<=x->x<c.F.q^(dua c).Gen.length->(lbl ls x).1=(w:Int)->numL c ls x<=(c.N*(c.F.q-1))^w
 | 0,x,x0,x1,hw=>by
  have hx:x=0:=Classical.byContradiction fun hn=>by have:=(prv_lab hp x0 x1 hn).2.1;omega
  have h1:(c.N*(c.F.q-1))^0=1:=Int.pow_zero _
  rw [hx,numL_zero hk hp hc];omega
 | w+1,x,x0,x1,hw=>by
  have hq:=hk.q2
  have hN:=hk.n1
  have hM:1*1<=c.N*(c.F.q-1):=Int.mul_le_mul hN (by omega) (by omega) (by omega)
  have hMp:0<(c.N*(c.F.q-1))^w:=Int.pow_pos (by omega)
  have hB:∀p a:Int,0<=gL c ls x p a/\gL c ls x p a<=(c.N*(c.F.q-1))^w:=fun p a=>by
   unfold gL
   have hm:=min_dig hk x p a
   by_cases e:(lbl ls (minV c x p a)).1=(lbl ls x).1-1
   ·rw [if_pos e]
    exact ⟨numL_nonneg hk hp hc _,numL_bd w hm.1 hm.2.1 (by rw [e,hw];omega)⟩
   ·rw [if_neg e];exact ⟨Int.le_refl 0,by omega⟩
  have h1:=(sA_bd hk hp hc hB (p:=c.N) (a:=1) (by omega) (Int.le_refl 1) (by omega)).2
  rw [sA_one,sJ_all hk hp hc x0 x1 rfl,hw,show c.N*(c.F.q-1)+(1-1)=c.N*(c.F.q-1) by omega] at h1
  have h0:=numL_nonneg hk hp hc (ls:=ls) x
  have h2:1*numL c ls x<=((w+1:Nat):Int)*numL c ls x:=Int.mul_le_mul_of_nonneg_right (by omega) h0
  rw [Int.pow_succ,Int.mul_comm]
  omega
theorem gL_bd {w:Nat} {x:Int} (hw:(lbl ls x).1=((w+1:Nat):Int)) (p a:Int):0<=gL c ls x p a/\gL c ls x p a<=(c.N*(c.F.q-1))^w:=by
 have hq:=hk.q2
 have hN:=hk.n1
 have hM:1*1<=c.N*(c.F.q-1):=Int.mul_le_mul hN (by omega) (by omega) (by omega)
 have hMp:0<(c.N*(c.F.q-1))^w:=Int.pow_pos (by omega)
 have hm:=min_dig hk x p a
 unfold gL
 by_cases e:(lbl ls (minV c x p a)).1=(lbl ls x).1-1
 ·rw [if_pos e]
  exact ⟨numL_nonneg hk hp hc _,numL_bd hk hp hc w hm.1 hm.2.1 (by rw [e,hw];omega)⟩
 ·rw [if_neg e];exact ⟨Int.le_refl 0,by omega⟩
end
theorem pow_le_base {a b:Int} (ha:0<=a) (hab:a<=b):∀k:Nat,0<=a^k/\a^k<=b^k
 | 0=>⟨by simp,by simp⟩
 | k+1=>by
  have ih:=pow_le_base ha hab k
  rw [Int.pow_succ,Int.pow_succ]
  exact ⟨Int.mul_nonneg ih.1 ha,Int.mul_le_mul ih.2 hab ha (by omega)⟩
theorem pow_small {N q:Int} (n0:1<=N) (n1:N<=64) (q0:2<=q) {w r:Nat} (hw:w<=r) (hr:q^r<=1024):(N*(q-1))^w<=1152921504606846976:=by
 have h1:=pow_mono_of q q0 hw
 have h64:=(pow_le_base (a:=N) (b:=64) (by omega) n1 w)
 have hq1:=(pow_le_base (a:=q-1) (b:=q) (by omega) (by omega) w)
 rw [Int.mul_pow]
 by_cases hq:q=2
 ·subst hq
  have hw10:w<=10:=by
   apply Classical.byContradiction
   intro hn
   have:=pow_mono_of 2 (Int.le_refl 2) (show 11<=w by omega)
   have e:(2:Int)^11=2048:=by decide
   omega
  have e1:((2:Int)-1)^w=1:=by rw [show (2:Int)-1=1 by omega,Int.one_pow]
  have e2:=pow_mono_of 64 (by omega) hw10
  have e3:(64:Int)^10=1152921504606846976:=by decide
  rw [e1];omega
 ·have hw6:w<=6:=by
   apply Classical.byContradiction
   intro hn
   have h3:=(pow_le_base (a:=3) (b:=q) (by omega) (by omega) w).2
   have:=pow_mono_of 3 (by omega) (show 7<=w by omega)
   have e:(3:Int)^7=2187:=by decide
   omega
  have e2:=pow_mono_of 64 (by omega) hw6
  have e3:(64:Int)^6=68719476736:=by decide
  have:=Int.mul_le_mul (show N^w<=68719476736 by omega) (show (q-1)^w<=1024 by omega) hq1.1 (by omega)
  omega
abbrev MSt:=(Int->Option Int)×Nat
def mput (s:MSt) (x y:Int):MSt:=(fun z=>if z=x then some y else s.1 z,s.2+1)
def miss (CT:Int) (f:Int->Option Int):Int:=smT (fun x=>if (f x).isSome then 0 else 1) CT.toNat
structure MInv (c:Cod) (ls:List Lab) (s:MSt):Prop where
 zero:s.1 0=some 1
 val:∀x v:Int,0<=x->x<c.F.q^(dua c).Gen.length->s.1 x=some v->v=numL c ls x
 few:(s.2:Int)+miss (c.F.q^(dua c).Gen.length) s.1<=c.F.q^(dua c).Gen.length+1
theorem miss_nonneg (CT:Int) (f:Int->Option Int):0<=miss CT f:=by
 have h1:smT (fun _=>(0:Int)) CT.toNat<=miss CT f:=smT_le fun i _ _=>by split <;> omega
 rw [smT_const,Int.mul_zero] at h1
 exact h1
theorem miss_le {CT:Int} (h:0<=CT) (f:Int->Option Int):miss CT f<=CT:=by
 have h1:miss CT f<=smT (fun _=>(1:Int)) CT.toNat:=smT_le fun i _ _=>by split <;> omega
 rw [smT_const] at h1
 omega
theorem miss_put {CT:Int} {s:MSt} {x y:Int} (x0:0<=x) (x1:x<CT) (h:s.1 x=none):miss CT (mput s x y).1+1=miss CT s.1:=by
 have h1:miss CT s.1=smT (fun z=>(if ((mput s x y).1 z).isSome then 0 else 1)+(if x=z then 1 else 0)) CT.toNat:=smT_congr fun z z0 z1=>by
  have hm:(mput s x y).1 z=if z=x then some y else s.1 z:=rfl
  by_cases e:z=x
  ·have e1:(mput s x y).1 z=some y:=hm.trans (if_pos e)
   have e2:s.1 z=none:=by rw [e];exact h
   rw [if_pos e.symm]
   simp only [e1,e2]
   rfl
  ·have e1:(mput s x y).1 z=s.1 z:=hm.trans (if_neg e)
   rw [if_neg (Ne.symm e),Int.add_zero]
   simp only [e1]
 rw [h1,smT_add,smT_single 1 x CT.toNat x0,if_pos (by omega)]
 rfl
section
variable {c : Cod} {ls : List Lab} {s : MSt}
theorem MInv.room (h:MInv c ls s) (hct:c.F.q^(dua c).Gen.length<=65536):s.2<4611686018427387904:=by
 have:=h.few
 have:=miss_nonneg (c.F.q^(dua c).Gen.length) s.1
 omega
theorem MInv.put (h:MInv c ls s) {x y:Int} (x0:0<=x) (x1:x<c.F.q^(dua c).Gen.length) (hx:s.1 x=none) (hy:y=numL c ls x):MInv c ls (mput s x y):=by
 refine ⟨?_,fun z v z0 z1 hz=>?_,?_⟩
 ·unfold mput
  dsimp only
  rw [if_neg (fun e=>by rw [<- e,h.zero] at hx;cases hx)]
  exact h.zero
 ·unfold mput at hz
  dsimp only at hz
  by_cases e:z=x
  ·rw [if_pos e] at hz
   injection hz with hz
   rw [<- hz,e];exact hy
  ·rw [if_neg e] at hz
   exact h.val z v z0 z1 hz
 ·have h1:=miss_put (y:=y) x0 x1 hx
  have h2:=h.few
  show ((s.2+1:Nat):Int)+_<=_
  omega
theorem MInv.start (hk:COk c) (hp:Prv c ls) (hc:csE c=0):MInv c ls (mput (fun _=>none,0) 0 1):=by
 have hpw:0<c.F.q^(dua c).Gen.length:=Int.pow_pos (by have:=hk.q2;omega)
 refine ⟨rfl,fun z v z0 z1 hz=>?_,?_⟩
 ·unfold mput at hz
  dsimp only at hz
  by_cases e:z=0
  ·rw [if_pos e] at hz
   injection hz with hz
   rw [<- hz,e,numL_zero hk hp hc]
  ·rw [if_neg e] at hz;cases hz
 ·have:=miss_le (CT:=c.F.q^(dua c).Gen.length) (by omega) (mput (fun _=>none,0) 0 1).1
  show ((0+1:Nat):Int)+_<=_
  omega
theorem MInv.get (h:MInv c ls s) {x:Int} (x0:0<=x) (x1:x<c.F.q^(dua c).Gen.length) (hx:(s.1 x).isSome=true):(s.1 x).getD 0=numL c ls x:=by
 cases e:s.1 x with
 | none=>rw [e] at hx;cases hx
 | some v=>exact h.val x v x0 x1 e
theorem none_of {o:Option Int} (h:¬o.isSome=true):o=none:=by cases o with
 | none=>rfl
 | some v=>exact absurd rfl h
theorem MInv.pos (h:MInv c ls s) (hp:Prv c ls) {x:Int} (x0:0<=x) (x1:x<c.F.q^(dua c).Gen.length) (hx:s.1 x=none):LabOk c ls x :=
 prv_lab hp x0 x1 fun e=>by rw [e,h.zero] at hx;cases hx
end
theorem lbl_r {c:Cod} (hk:COk c) {ls:List Lab} (hp:Prv c ls) {x:Int} (x0:0<=x) (x1:x<c.F.q^(dua c).Gen.length):(lbl ls x).1<=(dua c).Gen.length:=by
 have key:∀k:Nat,k<=(dua c).Gen.length->(lbl ls x).1<=(lbl ls (cutT c.F.q x k)).1+k:=by
  intro k
  induction k with
  | zero=>intro _;rw [cutT_zero];omega
  | succ k ih =>
   intro hkk
   have h1:=ih (by omega)
   have ht:=cutT_rng hk.q2 x0 k
   rcases cut_step hk x0 x1 (k:=k) (by omega) with e | ⟨j,a,j0,j1,a0,a1,e⟩
   ·rw [<- e];omega
   ·have:=hp.three (cutT c.F.q x k) j a ht.1 (by omega) j0 j1 a0 a1
    unfold Step3 at this
    rw [e] at this
    omega
 have:=key (dua c).Gen.length (Nat.le_refl _)
 rw [cutT_all x0 x1,hp.zero] at this
 have e:((0,0,0):Lab).1=0:=rfl
 rw [e] at this
 omega
theorem sA_small {c:Cod} (hk:COk c) {ls:List Lab} (hp:Prv c ls) (hc:csE c=0) (hs:c.F.q^(dua c).Gen.length<=1024) {x:Int} (x0:0<=x) (x1:x<c.F.q^(dua c).Gen.length) {w:Nat} (hw:(lbl ls x).1=((w+1:Nat):Int))
  {p a:Int} (p0:0<=p) (a0:1<=a) (a1:a<=c.F.q) (hpa:p*(c.F.q-1)+(a-1)<=c.N*(c.F.q-1)):0<=sA c ls x p a/\sA c ls x p a<=1152921504606846976:=by
 have hq:=hk.q2
 have hN:=hk.n1
 have hM:1*1<=c.N*(c.F.q-1):=Int.mul_le_mul hN (by omega) (by omega) (by omega)
 have hMp:0<(c.N*(c.F.q-1))^w:=Int.pow_pos (by omega)
 have h1:=sA_bd hk hp hc (gL_bd hk hp hc hw) p0 a0 a1
 have h2:=Int.mul_le_mul_of_nonneg_right hpa (show 0<=(c.N*(c.F.q-1))^w by omega)
 have h3:=lbl_r hk hp x0 x1
 have h4:=pow_small hN hk.n64 hq (w:=w+1) (r:=(dua c).Gen.length) (by omega) hs
 rw [Int.pow_succ,Int.mul_comm] at h4
 exact ⟨h1.1,by omega⟩
theorem pa_le {N q p a:Int} (q0:2<=q) (p1:p<N) (a1:a<=q):p*(q-1)+(a-1)<=N*(q-1):=by
 have h:=Int.mul_le_mul_of_nonneg_right (show p+1<=N by omega) (show 0<=q-1 by omega)
 rw [Int.add_mul,Int.one_mul] at h
 omega
noncomputable def lsV (c:Cod) (ls:List Lab) (x:Int):Int:=if ldE c ls x=0 then numL c ls x else 0
end Go.Cw
