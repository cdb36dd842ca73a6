/-
  Rules.
-/
import Derived.Test.YtaipghchkamajaaCyLib
set_option linter.unnecessarySimpa false
namespace Go.Cw
set_option linter.unusedSimpArgs false
set_option linter.unusedVariables false
section
variable {P : Program} {E : Env} {st : St} {Q : Exit -> Act -> World -> Prop} {ops : Array Oper} {rest : List Oper} {s : List (Nat × AV)} {own : List Own}
variable {d : Nat} {ty : TypeId} {pos : String} {af : Array Edge} {g : Option (Nat × Bool)}
theorem OO_congr {own own':List Own} (h:∀o,o∈own'↔o∈own):OO E own'=OO E own:=by
 funext b
 apply propext
 exact ⟨fun hb=>hb.imp id fun ⟨o,ho,hob⟩=>⟨o,(h o).1 ho,hob⟩,fun hb=>hb.imp id fun ⟨o,ho,hob⟩=>⟨o,(h o).2 ho,hob⟩⟩
theorem ent_perm {K:Act->World->Prop} (own':List Own) (hp:own'.Perm st.own) (h:Ent E ⟨st.slots,own'⟩ K):Ent E st K:=by
 intro a w r
 have hm:∀o,o∈own'↔o∈st.own:=fun o=>hp.mem_iff
 have hO:=OO_congr (E:=E) hm
 refine h a w ⟨r.size,r.defers,fun i A hi=>?_,fun o ho=>?_,?_,fun o ho=>r.free o ((hm o).1 ho),r.xold,r.keep⟩
 ·obtain ⟨v,h1,h2⟩:=r.slots i A hi
  exact ⟨v,h1,by show A.holds _ (OO E own') v;rw [hO];exact h2⟩
 ·show o.holds _ (OO E own');rw [hO];exact r.own o ((hm o).1 ho)
 ·exact (hp.pairwise_iff (fun {o o'} h b h1 h2=>h b h2 h1)).2 r.apart
theorem perm_ix {own:List Own} (is:List Nat) (h:is.Perm (List.range own.length)):(is.filterMap (own[·]?)).Perm own:=by
 have e:(List.range own.length).filterMap (own[·]?)=own:=by
  apply List.ext_getElem?
  intro i
  clear h is
  induction own generalizing i with
  | nil=>rfl
  | cons o l ih =>
   rw [List.length_cons,List.range_succ_eq_map,List.filterMap_cons]
   simp only [List.getElem?_cons_zero]
   rw [List.filterMap_map]
   have : ((fun x=>(o::l)[x]?) ∘ Nat.succ)=(fun x=>l[x]?):=by funext x;simp
   rw [this]
   cases i with
   | zero=>rfl
   | succ i=>simpa using ih i
 exact (h.filterMap _).trans (by rw [e])
theorem Touch.refl (o:Own) (w:World):Touch o w w:=⟨rfl,rfl,rfl,Nat.le_refl _,fun _ _ _=>rfl⟩
theorem Own.less {o:Own} {h:Heap} {O O':Nat->Prop} (ho:o.holds h O) (hO:∀b,O' b->O b):o.holds h O':=o.mono _ _ _ _ ho (Nat.le_refl _) (fun _ _ _=>rfl) (fun b _ hb=>hO b hb)
theorem ent_asO {K:Act->World->Prop} (k:Nat) {o:Own} (o':Own) (hk:st.own[k]? = some o) (hb:∀b,o'.has b->o.has b) (hh:∀h O,o.holds h O->o'.holds h O)
  (h:Ent E ⟨st.slots,st.own.set k o'⟩ K):Ent E st K:=by
 intro a w r
 refine h a w (r.change hk (Touch.refl _ _) (fun b hb'=>.inl (hb b hb')) (hh _ _ (Own.less (r.own o (m_G hk)) ?_)))
 rintro b (hb' | ⟨o2,ho2,hb'⟩)
 ·exact .inl hb'
 ·rcases List.mem_or_eq_of_mem_set ho2 with h2 | h2
  ·exact .inr ⟨o2,h2,hb'⟩
  ·subst h2;exact .inr ⟨o,m_G hk,hb b hb'⟩
theorem ent_split {K:Act->World->Prop} (k:Nat) {o:Own} (o1 o2:Own) (hk:st.own[k]? = some o) (hb1:∀b,o1.has b->o.has b) (hb2:∀b,o2.has b->o.has b)
  (hh:∀h O,o.holds h O->o1.holds h O/\o2.holds h O/\∀b,o1.has b->¬o2.has b) (h:Ent E ⟨st.slots,o2::st.own.set k o1⟩ K):Ent E st K:=by
 intro a w r
 have hmem:=m_G hk
 have hsub:∀b,OO E (o2::st.own.set k o1) b->OO E st.own b:=by
  rintro b (hb' | ⟨o3,ho3,hb'⟩)
  ·exact .inl hb'
  ·cases ho3 with
   | head=>exact .inr ⟨o,hmem,hb2 b hb'⟩
   | tail _ ho3 =>
    rcases List.mem_or_eq_of_mem_set ho3 with h2 | h2
    ·exact .inr ⟨o3,h2,hb'⟩
    ·subst h2;exact .inr ⟨o,hmem,hb1 b hb'⟩
 obtain ⟨q1,q2,q3⟩:=hh _ _ (r.own o hmem)
 have r2:=r.change (o':=o1) hk (Touch.refl _ _) (fun b hb'=>.inl (hb1 b hb')) (Own.less q1 fun b hb=>hsub b (hb.imp id fun ⟨o3,h3,h4⟩=>⟨o3,.tail _ h3,h4⟩))
 refine h a w ⟨r.size,r.defers,fun i A hi=>?_,fun o3 ho3=>?_,List.Pairwise.cons (fun o3 ho3 b h1 h2=>?_) r2.apart,fun o3 ho3=>?_,r.xold,r.keep⟩
 ·obtain ⟨v,h1,h2⟩:=r.slots i A hi
  exact ⟨v,h1,AV.less h2 fun b _ hb=>hsub b hb⟩
 ·cases ho3 with
  | head=>exact Own.less q2 hsub
  | tail _ ho3 =>
   rcases List.mem_or_eq_of_mem_set ho3 with h2 | h2
   ·exact Own.less (r.own o3 h2) hsub
   ·subst h2;exact Own.less q1 hsub
 ·obtain ⟨i,hi,rfl⟩:=List.getElem_of_mem ho3
  rw [l_S] at hi
  by_cases hik:i=k
  ·subst hik
   rw [List.getElem_set_self] at h2
   exact q3 b h2 h1
  ·rw [List.getElem_set_ne (Ne.symm hik)] at h2
   have hap:=List.pairwise_iff_getElem.1 r.apart
   have hkl:k<st.own.length:=(g_S hk).1
   have hke:st.own[k]=o:=(g_S hk).2
   rcases Nat.lt_or_gt_of_ne hik with h' | h'
   ·exact hap i k hi hkl h' b h2 (by rw [hke];exact hb2 b h1)
   ·exact hap k i hkl hi h' b (by rw [hke];exact hb2 b h1) h2
 ·cases ho3 with
  | head=>exact fun b hb=>r.free o hmem b (hb2 b hb)
  | tail _ ho3=>exact r2.free o3 ho3
theorem Rep.apart2 {a:Act} {w:World} (r:Rep E st a w) {i j:Nat} {o o':Own} (hi:st.own[i]? = some o) (hj:st.own[j]? = some o') (hne:i≠j):∀b,o.has b->¬o'.has b:=by
 intro b h1 h2
 have hap:=List.pairwise_iff_getElem.1 r.apart
 obtain ⟨hil,hie⟩:=g_S hi
 obtain ⟨hjl,hje⟩:=g_S hj
 rcases Nat.lt_or_gt_of_ne hne with h' | h'
 ·exact hap i j hil hjl h' b (by rw [hie];exact h1) (by rw [hje];exact h2)
 ·exact hap j i hjl hil h' b (by rw [hje];exact h2) (by rw [hie];exact h1)
theorem F_z (l:List Own) (k i:Nat) (hi:i<(l.eraseIdx k).length):∃p,l[p]? = some (l.eraseIdx k)[i]/\p≠k/\p=(if i<k then i else i+1):=by
 refine ⟨if i<k then i else i+1,?_,?_,rfl⟩
 ·have h:=List.getElem?_eraseIdx (l:=l) (i:=k) (j:=i)
  rw [g_E hi] at h
  rw [h];split <;> rfl
 ·split <;> omega
theorem ent_join {K:Act->World->Prop} (k1 k2:Nat) {o1 o2:Own} (o':Own) (hk1:st.own[k1]? = some o1) (hk2:st.own[k2]? = some o2) (hne:k1≠k2) (hb:∀b,o'.has b->o1.has b\/o2.has b)
  (hh:∀h O,o1.holds h O->o2.holds h O->(∀b,o1.has b->¬o2.has b)->o'.holds h O) (h:Ent E ⟨st.slots,(st.own.set k1 o').eraseIdx k2⟩ K):Ent E st K:=by
 intro a w r
 have hm1:=m_G hk1
 have hm2:=m_G hk2
 have hl1:k1<st.own.length:=(g_S hk1).1
 have hmem:∀o3,o3∈(st.own.set k1 o').eraseIdx k2->o3=o'\/∃i,i≠k1/\i≠k2/\st.own[i]? = some o3:=by
  intro o3 ho3
  obtain ⟨i,hi,hio⟩:=List.mem_eraseIdx_iff_getElem.1 ho3
  obtain ⟨hne2,rfl⟩:=hio
  by_cases hik:i=k1
  ·subst hik;left;rw [List.getElem_set_self]
  ·right
   rw [l_S] at hi
   exact ⟨i,hik,hne2,by rw [List.getElem_set_ne (Ne.symm hik)];exact g_E hi⟩
 have hsub:∀b,OO E ((st.own.set k1 o').eraseIdx k2) b->OO E st.own b:=by
  rintro b (hb' | ⟨o3,ho3,hb'⟩)
  ·exact .inl hb'
  ·rcases hmem o3 ho3 with rfl | ⟨i,_,_,hi⟩
   ·rcases hb b hb' with h2 | h2
    ·exact .inr ⟨o1,hm1,h2⟩
    ·exact .inr ⟨o2,hm2,h2⟩
   ·exact .inr ⟨o3,m_G hi,hb'⟩
 refine h a w ⟨r.size,r.defers,fun i A hi=>?_,fun o3 ho3=>?_,?_,fun o3 ho3 b hb'=>?_,r.xold,r.keep⟩
 ·obtain ⟨v,h1,h2⟩:=r.slots i A hi
  exact ⟨v,h1,AV.less h2 fun b _ hb=>hsub b hb⟩
 ·rcases hmem o3 ho3 with rfl | ⟨i,_,_,hi⟩
  ·exact Own.less (hh _ _ (r.own _ hm1) (r.own _ hm2) (r.apart2 hk1 hk2 hne)) hsub
  ·exact Own.less (r.own _ (m_G hi)) hsub
 ·rw [List.pairwise_iff_getElem]
  intro i j hi hj hij b h1 h2
  obtain ⟨p,hp,hpk,hpe⟩:=F_z _ _ _ hi
  obtain ⟨q,hq,hqk,hqe⟩:=F_z _ _ _ hj
  have hpq:p≠q:=by
   rw [hpe,hqe];split <;> split <;> omega
  rw [List.getElem?_set] at hp hq
  by_cases hpk1:k1=p
  ·rw [i_P hpk1,i_P (by omega)] at hp
   rw [i_N (by omega)] at hq
   have hp':=Option.some.inj hp
   rw [<- hp'] at h1
   rcases hb b h1 with h3 | h3
   ·exact r.apart2 hk1 hq (by omega) b h3 h2
   ·exact r.apart2 hk2 hq (by omega) b h3 h2
  ·rw [i_N hpk1] at hp
   by_cases hqk1:k1=q
   ·rw [i_P hqk1,i_P (by omega)] at hq
    have hq':=Option.some.inj hq
    rw [<- hq'] at h2
    rcases hb b h2 with h3 | h3
    ·exact r.apart2 hk1 hp (by omega) b h3 h1
    ·exact r.apart2 hk2 hp (by omega) b h3 h1
   ·rw [i_N hqk1] at hq
    exact r.apart2 hp hq hpq b h1 h2
 ·rcases hmem o3 ho3 with rfl | ⟨i,_,_,hi⟩
  ·rcases hb b hb' with h2 | h2
   ·exact r.free _ hm1 b h2
   ·exact r.free _ hm2 b h2
  ·exact r.free _ (m_G hi) b hb'
theorem ent_frz {K:Act->World->Prop} (k1 k2:Nat) {o1 o2:Own} (o':Own) (hk1:st.own[k1]? = some o1) (hk2:st.own[k2]? = some o2) (hne:k1≠k2) (hb:∀b,o'.has b->o1.has b)
  (hh:∀h O O',o1.holds h O->o2.holds h O->(∀b,O' b->O b)->(∀b,O' b->¬o2.has b)->o'.holds h O') (h:Ent E ⟨st.slots,(st.own.set k1 o').eraseIdx k2⟩ K):Ent E st K:=by
 intro a w r
 have hm1:=m_G hk1
 have hm2:=m_G hk2
 have hl1:k1<st.own.length:=(g_S hk1).1
 have hmem:∀o3,o3∈(st.own.set k1 o').eraseIdx k2->o3=o'\/∃i,i≠k1/\i≠k2/\st.own[i]? = some o3:=by
  intro o3 ho3
  obtain ⟨i,hi,hio⟩:=List.mem_eraseIdx_iff_getElem.1 ho3
  obtain ⟨hne2,rfl⟩:=hio
  by_cases hik:i=k1
  ·subst hik;left;rw [List.getElem_set_self]
  ·right
   rw [l_S] at hi
   exact ⟨i,hik,hne2,by rw [List.getElem_set_ne (Ne.symm hik)];exact g_E hi⟩
 have hsub:∀b,OO E ((st.own.set k1 o').eraseIdx k2) b->OO E st.own b/\¬o2.has b:=by
  rintro b (hb' | ⟨o3,ho3,hb'⟩)
  ·exact ⟨.inl hb',fun h2=>(r.free o2 hm2 b h2).1 hb'⟩
  ·rcases hmem o3 ho3 with rfl | ⟨i,_,hi2,hi⟩
   ·exact ⟨.inr ⟨o1,hm1,hb b hb'⟩,r.apart2 hk1 hk2 hne b (hb b hb')⟩
   ·exact ⟨.inr ⟨o3,m_G hi,hb'⟩,r.apart2 hi hk2 hi2 b hb'⟩
 have r2:=r.change (o':=o1) hk1 (Touch.refl _ _) (fun b hb'=>.inl hb') (Own.less (r.own o1 hm1) fun b hb=>by
  rcases hb with hb | ⟨o3,h3,h4⟩
  ·exact .inl hb
  ·rcases List.mem_or_eq_of_mem_set h3 with h5 | h5
   ·exact .inr ⟨o3,h5,h4⟩
   ·subst h5;exact .inr ⟨_,hm1,h4⟩)
 refine h a w ⟨r.size,r.defers,fun i A hi=>?_,fun o3 ho3=>?_,?_,fun o3 ho3 b hb'=>?_,r.xold,r.keep⟩
 ·obtain ⟨v,h1,h2⟩:=r.slots i A hi
  exact ⟨v,h1,AV.less h2 fun b _ hb=>(hsub b hb).1⟩
 ·rcases hmem o3 ho3 with rfl | ⟨i,_,_,hi⟩
  ·exact hh _ _ _ (r.own _ hm1) (r.own _ hm2) (fun b hb=>(hsub b hb).1) (fun b hb=>(hsub b hb).2)
  ·exact Own.less (r.own _ (m_G hi)) (fun b hb=>(hsub b hb).1)
 ·rw [List.pairwise_iff_getElem]
  intro i j hi hj hij b h1 h2
  obtain ⟨p,hp,hpk,hpe⟩:=F_z _ _ _ hi
  obtain ⟨q,hq,hqk,hqe⟩:=F_z _ _ _ hj
  have hpq:p≠q:=by
   rw [hpe,hqe];split <;> split <;> omega
  rw [List.getElem?_set] at hp hq
  by_cases hpk1:k1=p
  ·rw [i_P hpk1,i_P (by omega)] at hp
   rw [i_N (by omega)] at hq
   have hp':=Option.some.inj hp
   rw [<- hp'] at h1
   exact r.apart2 hk1 hq (by omega) b (hb b h1) h2
  ·rw [i_N hpk1] at hp
   by_cases hqk1:k1=q
   ·rw [i_P hqk1,i_P (by omega)] at hq
    have hq':=Option.some.inj hq
    rw [<- hq'] at h2
    exact r.apart2 hk1 hp (by omega) b (hb b h2) h1
   ·rw [i_N hqk1] at hq
    exact r.apart2 hp hq hpq b h1 h2
 ·rcases hmem o3 ho3 with rfl | ⟨i,_,_,hi⟩
  ·exact r.free _ hm1 b (hb b hb')
  ·exact r.free _ (m_G hi) b hb'
theorem ent_ghost {K:Act->World->Prop} (o:Own) (hb:∀b,¬o.has b) (ho:∀h O,o.holds h O) (h:Ent E ⟨st.slots,o::st.own⟩ K):Ent E st K:=by
 intro a w r
 have hO:∀b,OO E (o::st.own) b->OO E st.own b:=by
  rintro b (hb' | ⟨o3,ho3,hb'⟩)
  ·exact .inl hb'
  ·cases ho3 with
   | head=>exact absurd hb' (hb b)
   | tail _ h=>exact .inr ⟨o3,h,hb'⟩
 refine h a w ⟨r.size,r.defers,fun i A hi=>?_,fun o3 ho3=>?_,List.Pairwise.cons (fun o3 _ b h1 _=>hb b h1) r.apart,fun o3 ho3 b hb'=>?_,r.xold,r.keep⟩
 ·obtain ⟨v,h1,h2⟩:=r.slots i A hi
  exact ⟨v,h1,AV.less h2 fun b _ hb=>hO b hb⟩
 ·cases ho3 with
  | head=>exact ho _ _
  | tail _ h=>exact Own.less (r.own o3 h) hO
 ·cases ho3 with
  | head=>exact absurd hb' (hb b)
  | tail _ h=>exact r.free o3 h b hb'
structure Hdr where
 r:Option Nat
 n:Nat
 cap:Nat
def Hdr.val (H:Hdr):Value:=vec H.r H.n H.cap
def Hdr.no:Hdr:=⟨none,0,0⟩
abbrev aH (H:Hdr):AV:=aEx H.val
def oRws {α:Type} (er:TypeId) (enc:α->AV) (S:List Nat) (Hs:List Hdr) (xss:List (List α)):Own where
 has b:=∃i H,i∉S/\Hs[i]? = some H/\H.r=some b
 holds h O:=Hs.length=xss.length/\(∀(i:Nat) (H:Hdr),i∉S->Hs[i]? = some H->∃xs,xss[i]? = some xs/\H.n=xs.length/\(oVec H.r H.cap er 1 false enc xs).holds h O) /\
  (∀(i j:Nat) (H H':Hdr),i∉S->j∉S->i≠j->Hs[i]? = some H->Hs[j]? = some H'->∀b,H.r=some b->H'.r≠some b)
 mono:=by
  rintro h h' O O' ⟨h0,h1,h2⟩ hs hb ho
  refine ⟨h0,fun i H hi hH=>?_,h2⟩
  obtain ⟨xs,g1,g2,g3⟩:=h1 i H hi hH
  exact ⟨xs,g1,g2,(oVec H.r H.cap er 1 false enc xs).mono _ _ _ _ g3 hs (fun b hlt hn=>hb b hlt (hn.imp id fun hn=>⟨i,H,hi,hH,hn⟩)) ho⟩
 lt:=by
  rintro h O b ⟨h0,h1,h2⟩ ⟨i,H,hi,hH,hn⟩
  obtain ⟨xs,g1,g2,g3⟩:=h1 i H hi hH
  exact (oVec H.r H.cap er 1 false enc xs).lt h O b g3 hn
section
variable {α : Type} {er : TypeId} {enc : α -> AV} {S : List Nat} {Hs : List Hdr} {xss : List (List α)} {n : Int}
theorem F_H {h:Heap} {O:Nat->Prop} (ho:(oRws er enc S Hs xss).holds h O) (h0:0<=n) (h1:n<xss.length) (hS:n.toNat∉S) :
  Hs[n.toNat]? = some (ix Hdr.no Hs n)/\xss[n.toNat]? = some (ix [] xss n)/\(ix Hdr.no Hs n).n=(ix [] xss n).length/\(oVec (ix Hdr.no Hs n).r (ix Hdr.no Hs n).cap er 1 false enc (ix [] xss n)).holds h O:=by
 obtain ⟨g0,g1,g2⟩:=ho
 have e1:=C_e Hdr.no Hs n h0 (by omega)
 have e2:=C_e [] xss n h0 h1
 obtain ⟨xs,k1,k2,k3⟩:=g1 _ _ hS e1
 rw [e2] at k1
 cases k1
 exact ⟨e1,e2,k2,k3⟩
theorem ent_rows0 {K:Act->World->Prop} (er:TypeId) (enc:α->AV) (h:Ent E ⟨st.slots,oRws er enc [] [] []::st.own⟩ K):Ent E st K :=
 ent_ghost (oRws er enc [] [] []) (fun b ⟨i,H,_,h,_⟩=>by simp at h) (fun h O=>⟨rfl,fun i H _ h=>by simp at h,fun i j H H' _ _ _ h=>by simp at h⟩) h
theorem rep_get {x y:Hdr} {i m:Nat} (h:(List.replicate m x)[i]? = some y):y=x:=by
 have:=m_G h
 exact List.eq_of_mem_replicate this
theorem ent_rowsN {K:Act->World->Prop} (er:TypeId) (enc:α->AV) (m:Nat) (h:Ent E ⟨st.slots,oRws er enc [] (List.replicate m Hdr.no) (List.replicate m [])::st.own⟩ K):Ent E st K :=
 ent_ghost (oRws er enc [] (List.replicate m Hdr.no) (List.replicate m [])) (fun b ⟨i,H,_,h,h2⟩=>by rw [rep_get h] at h2;cases h2)
  (fun h O=>⟨by simp,fun i H _ hh=>by
   have hlt:=(g_S hh).1
   rw [rep_get hh]
   exact ⟨[],by simpa [List.getElem?_replicate] using hlt,rfl,by simp,fun _=>rfl,.inl ⟨rfl,rfl,rfl⟩⟩,fun i j H H' _ _ _ h1 h2 b h3=>by rw [rep_get h1] at h3;cases h3⟩) h
theorem C_v {K:Act->World->Prop} (k:Nat) (n:Int) (hk:st.own[k]? = some (oRws er enc S Hs xss)) (h0:0<=n) (h1:n<xss.length) (hS:n.toNat∉S)
  (h:(ix Hdr.no Hs n).n=(ix [] xss n).length->Ent E ⟨st.slots,oVec (ix Hdr.no Hs n).r (ix Hdr.no Hs n).cap er 1 false enc (ix [] xss n)::st.own.set k (oRws er enc (n.toNat::S) Hs xss)⟩ K):Ent E st K:=by
 intro a w r
 have hn:=(F_H (r.own _ (m_G hk)) h0 h1 hS).2.2.1
 have hH:=(F_H (r.own _ (m_G hk)) h0 h1 hS).1
 refine ent_split k (oRws er enc (n.toNat::S) Hs xss) _ hk ?_ ?_ ?_ (h hn) a w r
 ·rintro b ⟨i,H,hi,hH,hb⟩
  exact ⟨i,H,fun hi'=>hi (.tail _ hi'),hH,hb⟩
 ·intro b hb
  exact ⟨_,_,hS,hH,hb⟩
 ·intro h O ho
  have g:=F_H ho h0 h1 hS
  refine ⟨⟨ho.1,fun i H hi hH=>ho.2.1 i H (fun hi'=>hi (.tail _ hi')) hH,fun i j H H' hi hj=>ho.2.2 i j H H' (fun hi'=>hi (.tail _ hi')) (fun hi'=>hj (.tail _ hi'))⟩,g.2.2.2,?_⟩
  rintro b ⟨i,H,hi,hH,hb⟩ hb'
  exact ho.2.2 i n.toNat H _ (fun hi'=>hi (.tail _ hi')) hS (fun e=>hi (by rw [e];exact List.mem_cons_self)) hH g.1 b hb hb'
theorem F_V {β:Type} {l:List β} {i j:Nat} {x y:β} (h:(l.set i x)[j]? = some y):(i=j/\y=x)\/(i≠j/\l[j]? = some y):=by
 rw [List.getElem?_set] at h
 by_cases hij:i=j
 ·rw [i_P hij] at h
  split at h
  ·exact .inl ⟨hij,(Option.some.inj h).symm⟩
  ·cases h
 ·rw [i_N hij] at h
  exact .inr ⟨hij,h⟩
theorem D_e {K:Act->World->Prop} (k k2:Nat) (n:Int) {r:Option Nat} {cap m:Nat} {ys:List α} (S':List Nat) (hk:st.own[k]? = some (oRws er enc S Hs xss)) (hk2:st.own[k2]? = some (oVec r cap er 1 false enc ys)) (hne:k≠k2)
  (hS:∀j,j∈S->j=n.toNat\/j∈S') (hm:m=ys.length) (h:Ent E ⟨st.slots,(st.own.set k (oRws er enc S' (Hs.set n.toNat ⟨r,m,cap⟩) (xss.set n.toNat ys))).eraseIdx k2⟩ K):Ent E st K:=by
 refine ent_join k k2 _ hk hk2 hne ?_ ?_ h
 ·rintro b ⟨i,H,hi,hH,hb⟩
  rcases F_V hH with ⟨_,rfl⟩ | ⟨hin,hH⟩
  ·exact .inr hb
  ·exact .inl ⟨i,H,fun hi'=>(hS i hi').elim (fun e=>hin e.symm) hi,hH,hb⟩
 ·rintro h O ⟨g0,g1,g2⟩ hv hap
  refine ⟨by simp [g0],fun i H hi hH=>?_,fun i j H H' hi hj hij hH hH' b hb hb'=>?_⟩
  ·rcases F_V hH with ⟨rfl,rfl⟩ | ⟨hin,hH2⟩
   ·refine ⟨ys,?_,hm,hv⟩
    have hl:n.toNat<(Hs.set n.toNat ⟨r,m,cap⟩).length:=(g_S hH).1
    rw [List.getElem?_set_self (by simpa [g0] using hl)]
   ·obtain ⟨xs,k1,k2,k3⟩:=g1 i H (fun hi'=>(hS i hi').elim (fun e=>hin e.symm) hi) hH2
    exact ⟨xs,by rw [List.getElem?_set_ne hin];exact k1,k2,k3⟩
  ·rcases F_V hH with ⟨e1,rfl⟩ | ⟨hin,hH2⟩
   ·rcases F_V hH' with ⟨e2,_⟩ | ⟨hjn,hH3⟩
    ·exact hij (e1.symm.trans e2)
    ·exact hap b ⟨j,H',fun hj'=>(hS j hj').elim (fun e=>hjn e.symm) hj,hH3,hb'⟩ hb
   ·rcases F_V hH' with ⟨e2,rfl⟩ | ⟨hjn,hH3⟩
    ·exact hap b ⟨i,H,fun hi'=>(hS i hi').elim (fun e=>hin e.symm) hi,hH2,hb⟩ hb'
    ·exact g2 i j H H' (fun hi'=>(hS i hi').elim (fun e=>hin e.symm) hi) (fun hj'=>(hS j hj').elim (fun e=>hjn e.symm) hj) hij hH2 hH3 b hb hb'
theorem ent_pushRow {K:Act->World->Prop} (k k2:Nat) {r:Option Nat} {cap m:Nat} {ys:List α} (hk:st.own[k]? = some (oRws er enc [] Hs xss)) (hk2:st.own[k2]? = some (oVec r cap er 1 false enc ys)) (hne:k≠k2)
  (hm:m=ys.length) (h:Ent E ⟨st.slots,(st.own.set k (oRws er enc [] (Hs++[⟨r,m,cap⟩]) (xss++[ys]))).eraseIdx k2⟩ K):Ent E st K:=by
 have get_app:∀ {i:Nat} {H:Hdr},(Hs++[⟨r,m,cap⟩])[i]? = some H->Hs[i]? = some H\/(i=Hs.length/\H=⟨r,m,cap⟩):=by
  intro i H hH
  rw [List.getElem?_append] at hH
  split at hH
  ·exact .inl hH
  ·rename_i hlt
   right
   have hz:i-Hs.length=0:=by
    have:=(g_S hH).1
    simp at this;omega
   rw [hz] at hH
   exact ⟨by omega,(Option.some.inj hH).symm⟩
 refine ent_join k k2 _ hk hk2 hne ?_ ?_ h
 ·rintro b ⟨i,H,hi,hH,hb⟩
  rcases get_app hH with hH | ⟨_,rfl⟩
  ·exact .inl ⟨i,H,hi,hH,hb⟩
  ·exact .inr hb
 ·rintro h O ⟨g0,g1,g2⟩ hv hap
  refine ⟨by simp [g0],fun i H hi hH=>?_,fun i j H H' hi hj hij hH hH' b hb hb'=>?_⟩
  ·rcases get_app hH with hH2 | ⟨rfl,rfl⟩
   ·obtain ⟨xs,k1,k2,k3⟩:=g1 i H hi hH2
    exact ⟨xs,by rw [List.getElem?_append_left (g_S k1).1];exact k1,k2,k3⟩
   ·exact ⟨ys,by rw [g0];simp,hm,hv⟩
  ·rcases get_app hH with hH2 | ⟨rfl,rfl⟩
   ·rcases get_app hH' with hH3 | ⟨rfl,rfl⟩
    ·exact g2 i j H H' hi hj hij hH2 hH3 b hb hb'
    ·exact hap b ⟨i,H,hi,hH2,hb⟩ hb'
   ·rcases get_app hH' with hH3 | ⟨rfl,rfl⟩
    ·exact hap b ⟨j,H',hj,hH3,hb'⟩ hb
    ·exact hij rfl
end
end
section
variable {P : Program} {E : Env} {st : St} {Q : Exit -> Act -> World -> Prop} {ops : Array Oper} {rest : List Oper} {s : List (Nat × AV)} {own : List Own}
variable {d : Nat} {ty : TypeId} {pos : String} {af : Array Edge} {g : Option (Nat × Bool)}
variable {α : Type} {er : TypeId} {enc : α -> AV} {S : List Nat} {Hs : List Hdr} {xss : List (List α)} {n : Int}
def Hdr.at (H:Hdr) (j:Int):Value:=.pointer (some ⟨H.r.getD 0,j.toNat*1,none⟩)
theorem F_d {r:Option Nat} {cap:Nat} {e:TypeId} {xs:List α} {h:Heap} {O:Nat->Prop} (ho:(oVec r cap e 1 false enc xs).holds h O) (hne:0<xs.length):r=some (r.getD 0):=by
 obtain ⟨_,_,q⟩:=ho
 rcases q with ⟨_,hx,_⟩ | ⟨b,cur,hb,_⟩
 ·rw [hx] at hne;simp at hne
 ·rw [hb];rfl
theorem B_4 {T e:TypeId} {x i:Operand} {k:Nat} {j:Int} (hs:SlInfo P T e 1) (hk:own[k]? = some (oRws er enc S Hs xss)) (hx:opd s x=some (aH (ix Hdr.no Hs n))) (hi:opd s i=some (aInt j))
  (h0:0<=n) (h1:n<xss.length) (hS:n.toNat∉S) (h2:0<=j:=by omega) (h3:j<(ix [] xss n).length:=by omega):OpOK P E s own ⟨some d,.indexAddr T x i,ty,pos,af,g⟩ (aEx ((ix Hdr.no Hs n).at j)):=by
 intro a w r K Q hK
 obtain ⟨_,_,hn,hv⟩:=F_H (r.world.own _ (m_G hk)) h0 h1 hS
 have hr:=F_d hv (by omega)
 have hx':opd s x=some (aEx (vec (some ((ix Hdr.no Hs n).r.getD 0)) (ix Hdr.no Hs n).n (ix Hdr.no Hs n).cap)):=by
  rw [hx,<- hr];rfl
 exact A_s (P:=P) (E:=E) (s:=s) (own:=own) (d:=d) (ty:=ty) (pos:=pos) (af:=af) (g:=g) hs hx' hi h2 (by rw [hn];exact h3) a w r K Q hK
theorem F_n {T:TypeId} {x:Operand} {k:Nat} {j:Int} (dflt:α) (ht:TyInfo P T 1 false) (hk:own[k]? = some (oRws er enc S Hs xss)) (hx:opd s x=some (aEx ((ix Hdr.no Hs n).at j)))
  (h0:0<=n) (h1:n<xss.length) (hS:n.toNat∉S) (h2:0<=j:=by omega) (h3:j<(ix [] xss n).length:=by omega):OpOK P E s own ⟨some d,.load T x,ty,pos,af,g⟩ (enc (ix dflt (ix [] xss n) j)) :=
 B_e (fun a w r=>by
  obtain ⟨_,_,hn,hv⟩:=F_H (r.world.own _ (m_G hk)) h0 h1 hS
  obtain ⟨g0,gone,g1⟩:=hv
  rcases g1 with ⟨_,hz,_⟩ | ⟨b',cur,hb',g2,g3,g4,g5,g6⟩
  ·rw [hz] at h3;simp at h3;omega
  obtain ⟨us,k1,k2,k3⟩:=g6 _ _ (C_e dflt _ j h2 h3)
  refine ⟨mkV false us,?_,k3⟩
  have hb:(ix Hdr.no Hs n).r.getD 0=b':=by rw [hb'];rfl
  have hload:(loadVar T ⟨b',j.toNat*1,none⟩).run P w = .ok (mkV false us) w:=by
   unfold loadVar
   match us,k1 with
   | [u],k1 =>
    have hcell:w.cell? ⟨b',j.toNat*1,none⟩=some u:=C_I g2 (by have:=(k2 0 u rfl).1;simpa using this)
    simp only [Nat.mul_one] at hcell
    simp [ht.agg,mkV,hcell]
  have hev:a.eval x = .pointer (some ⟨b',j.toNat*1,none⟩):=by
   rw [r.ex hx (by simp [Op.operands,Call.operands])];unfold Hdr.at;rw [hb]
  rw [Nat.mul_one] at hev hload
  simp [execOp,hev,Instr.loadAt,Instr.sureAddr,hload])
theorem set_same {β:Type} {l:List β} {i:Nat} {x:β} (h:l[i]? = some x):l.set i x=l:=by
 apply List.ext_getElem?
 intro j
 rw [List.getElem?_set]
 by_cases hij:i=j
 ·subst hij
  rw [i_P rfl,i_P (g_S h).1,h]
 ·rw [i_N hij]
theorem D_H {K:Act->World->Prop} (k k2:Nat) (n:Int) {ys:List α} (S':List Nat) (hk:st.own[k]? = some (oRws er enc S Hs xss)) (hk2:st.own[k2]? = some (oVec (ix Hdr.no Hs n).r (ix Hdr.no Hs n).cap er 1 false enc ys)) (hne:k≠k2)
  (hS:∀j,j∈S->j=n.toNat\/j∈S') (h0:0<=n) (h1:n<Hs.length) (hm:(ix Hdr.no Hs n).n=ys.length) (h:Ent E ⟨st.slots,(st.own.set k (oRws er enc S' Hs (xss.set n.toNat ys))).eraseIdx k2⟩ K):Ent E st K:=by
 refine D_e k k2 n S' hk hk2 hne hS hm ?_
 have e:Hs.set n.toNat ⟨(ix Hdr.no Hs n).r,(ix Hdr.no Hs n).n,(ix Hdr.no Hs n).cap⟩=Hs:=set_same (C_e Hdr.no Hs n h0 h1)
 rw [e];exact h
theorem C_W {T:TypeId} {x y:Operand} {k:Nat} {j:Int} {z:α} (ht:TyInfo P T 1 false) (hk:st.own[k]? = some (oRws er enc [] Hs xss)) (hx:opd st.slots x=some (aEx ((ix Hdr.no Hs n).at j))) (hy:opd st.slots y=some (enc z)) (he:ElemOK (enc z) false 1)
  (h0:0<=n) (h1:n<xss.length) (h2:0<=j) (h3:j<(ix [] xss n).length) (kk:Ent E ⟨st.slots,st.own.set k (oRws er enc [] Hs (xss.set n.toNat ((ix [] xss n).set j.toNat z)))⟩ (wpList P ops Q rest)) :
  Ent E st (wpList P ops Q (⟨none,.store T x y,ty,pos,af,none⟩::rest)):=by
 refine C_v k n hk h0 h1 (by simp) (fun hn=>?_)
 intro a w r
 have hr:=F_d (r.own _ (List.mem_cons_self)) (by omega)
 have hkl:k<st.own.length:=(g_S hk).1
 have hlen:n<Hs.length:=by
  have:=r.own (oRws er enc [n.toNat] Hs xss) (List.mem_cons_of_mem _ (m_G (i:=k) (by rw [List.getElem?_set_self hkl])))
  have:=this.1;omega
 have hk2:(⟨st.slots,oVec (ix Hdr.no Hs n).r (ix Hdr.no Hs n).cap er 1 false enc (ix [] xss n)::st.own.set k (oRws er enc [n.toNat] Hs xss)⟩:St).own[0]? = some (oVec (some ((ix Hdr.no Hs n).r.getD 0)) (ix Hdr.no Hs n).cap er 1 false enc (ix [] xss n)):=by
  rw [<- hr];rfl
 refine B_C (k:=0) ht hk2 hx hy he h2 h3 ?_ a w r
 refine D_H (k+1) 0 n (ys:=(ix [] xss n).set j.toNat z) [] (S:=[n.toNat]) (er:=er) (enc:=enc) (Hs:=Hs) (xss:=xss) ?_ ?_ (by omega) (by simp) h0 hlen (by simpa using hn) ?_
 ·simp [List.getElem?_set_self hkl]
 ·rw [<- hr];rfl
 ·have e:((oVec (some ((ix Hdr.no Hs n).r.getD 0)) (ix Hdr.no Hs n).cap er 1 false enc ((ix [] xss n).set j.toNat z)::st.own.set k (oRws er enc [n.toNat] Hs xss)).set (k+1) (oRws er enc [] Hs (xss.set n.toNat ((ix [] xss n).set j.toNat z)))).eraseIdx 0=st.own.set k (oRws er enc [] Hs (xss.set n.toNat ((ix [] xss n).set j.toNat z))):=by
   simp
  show Ent E ⟨st.slots,((oVec (some ((ix Hdr.no Hs n).r.getD 0)) (ix Hdr.no Hs n).cap er 1 false enc ((ix [] xss n).set j.toNat z)::st.own.set k (oRws er enc [n.toNat] Hs xss)).set (k+1) (oRws er enc [] Hs (xss.set n.toNat ((ix [] xss n).set j.toNat z)))).eraseIdx 0⟩ _
  rw [e];exact kk
theorem cv_hdr {O:Nat->Prop} {k:Nat} {xs:List α} (ho:Off E own O k (oRws er enc S Hs xss)) (h0:0<=n) (h1:n<xss.length) (hS:n.toNat∉S) (ee:ix [] xss n=xs) :
  Cv E own O (aH (ix Hdr.no Hs n)) (aSl 1 false enc xs):=fun w v rp h=>by
 subst ee
 obtain ⟨g1,_,hn,hv⟩:=F_H (rp.own _ (m_G ho.1)) h0 h1 hS
 rw [show v=vec (ix Hdr.no Hs n).r (ix Hdr.no Hs n).n (ix Hdr.no Hs n).cap from h,hn]
 exact vec_sl hv (fun b hb=>(ho.2 w rp b hb).1) (fun b hb h'=>(ho.2 w rp b h').2 ⟨_,_,hS,g1,hb⟩)
theorem B_q {K:Act->World->Prop} (k k2:Nat) {r:Option Nat} {cap:Nat} {e:TypeId} (hk:st.own[k]? = some (oVec r cap e 1 false aH Hs)) (hk2:st.own[k2]? = some (oRws er enc [] Hs xss)) (hne:k≠k2)
  (h:Ent E ⟨st.slots,(st.own.set k (oVec r cap e 1 false (aSl 1 false enc) xss)).eraseIdx k2⟩ K):Ent E st K:=by
 refine ent_frz k k2 (oVec r cap e 1 false (aSl 1 false enc) xss) hk hk2 hne (fun b hb=>hb) ?_ h
 rintro h O O' ⟨q0,q1,q2⟩ ho hO hO2
 obtain ⟨g0,g1,g2⟩:=ho
 refine ⟨by rw [<- g0];exact q0,q1,?_⟩
 rcases q2 with ⟨h1,h2,h3⟩ | ⟨b,cur,hb,c2,c3,c4,c5,c6⟩
 ·refine .inl ⟨h1,?_,h3⟩
  subst h2
  exact List.length_eq_zero_iff.1 g0.symm
 ·refine .inr ⟨b,cur,hb,c2,by rw [<- g0];exact c3,c4,c5,fun i x hx=>?_⟩
  have hil:i<Hs.length:=by rw [g0];exact (g_S hx).1
  have hH:=g_E hil
  obtain ⟨us,u1,u2,u3⟩:=c6 i _ hH
  obtain ⟨xs,k1,k3,k4⟩:=g1 i _ (by simp) hH
  rw [hx] at k1
  cases k1
  refine ⟨us,u1,u2,?_⟩
  rw [show mkV false us=vec Hs[i].r Hs[i].n Hs[i].cap from u3,k3]
  exact vec_sl k4 hO (fun b hb hO'=>hO2 b hO' ⟨i,_,by simp,hH,hb⟩)
theorem E_w {K:Act->World->Prop} (k:Nat) (i j:Int) (hk:st.own[k]? = some (oRws er enc [] Hs xss)) (hi0:0<=i) (hi1:i<xss.length) (hj0:0<=j) (hj1:j<xss.length)
  (h:Ent E ⟨st.slots,st.own.set k (oRws er enc [] ((Hs.set i.toNat (ix Hdr.no Hs j)).set j.toNat (ix Hdr.no Hs i)) ((xss.set i.toNat (ix [] xss j)).set j.toNat (ix [] xss i)))⟩ K):Ent E st K:=by
 intro a w r
 have hl:Hs.length=xss.length:=(r.own _ (m_G hk)).1
 have hfind:∀ {p:Nat} {H:Hdr},((Hs.set i.toNat (ix Hdr.no Hs j)).set j.toNat (ix Hdr.no Hs i))[p]? = some H ->
   ∃q,Hs[q]? = some H/\((xss.set i.toNat (ix [] xss j)).set j.toNat (ix [] xss i))[p]? = xss[q]? /\ q=(if p=j.toNat then i.toNat else if p=i.toNat then j.toNat else p):=by
  intro p H hH
  have ei:=C_e Hdr.no Hs i hi0 (by omega)
  have ej:=C_e Hdr.no Hs j hj0 (by omega)
  have xi:=C_e [] xss i hi0 (by omega)
  have xj:=C_e [] xss j hj0 (by omega)
  rcases F_V hH with ⟨hpj,rfl⟩ | ⟨hpj,hH2⟩
  ·subst hpj
   refine ⟨i.toNat,ei,?_,by rw [i_P rfl]⟩
   rw [List.getElem?_set_self (by simp;omega),xi]
  ·rcases F_V hH2 with ⟨hpi,rfl⟩ | ⟨hpi,hH3⟩
   ·subst hpi
    refine ⟨j.toNat,ej,?_,by rw [i_N (Ne.symm hpj),i_P rfl]⟩
    rw [List.getElem?_set_ne hpj,List.getElem?_set_self (by omega),xj]
   ·refine ⟨p,hH3,?_,by rw [i_N (Ne.symm hpj),i_N (Ne.symm hpi)]⟩
    rw [List.getElem?_set_ne hpj,List.getElem?_set_ne hpi]
 refine ent_asO k _ hk ?_ ?_ h a w r
 ·rintro b ⟨p,H,_,hH,hb⟩
  obtain ⟨q,hq,_⟩:=hfind hH
  exact ⟨q,H,by simp,hq,hb⟩
 ·rintro h O ⟨g0,g1,g2⟩
  refine ⟨by simpa using g0,fun p H _ hH=>?_,fun p q H H' _ _ hpq hH hH' b hb=>?_⟩
  ·obtain ⟨q,hq,hx,_⟩:=hfind hH
   rw [hx]
   exact g1 q H (by simp) hq
  ·obtain ⟨p',hp',_,e1⟩:=hfind hH
   obtain ⟨q',hq',_,e2⟩:=hfind hH'
   refine g2 p' q' H H' (by simp) (by simp) ?_ hp' hq' b hb
   rw [e1,e2]
   split <;> split <;> (try split) <;> (try split) <;> omega
end
section
variable {P : Program} {E : Env} {st : St} {Q : Exit -> Act -> World -> Prop} {ops : Array Oper} {rest : List Oper} {s : List (Nat × AV)} {own : List Own}
variable {d : Nat} {ty : TypeId} {pos : String} {af : Array Edge} {g : Option (Nat × Bool)}
def Blks (Ws:List Own) (b:Nat):Prop:=∃o∈Ws,o.has b
structure Lends (Ws:List Own) (w:World) (O:Nat->Prop):Prop where
 own:∀o∈Ws,o.holds w.heap (fun b=>O b\/Blks Ws b)
 apart:Ws.Pairwise (fun o o'=>∀b,o.has b->¬o'.has b)
 off:∀o∈Ws,∀b,o.has b->¬O b
def EndW {β:Type} (w:World) (O:Nat->Prop) (Ws:List Own) (φ:β->Prop) (A:β->AV) (Ws':β->List Own) (e:Ending) (w':World):Prop :=
 ∃v y,e = .returned v/\φ y/\(A y).holds w'.heap (fun b=>O b\/Blks (Ws' y) b) v/\Lends (Ws' y) w' O/\(∀o∈Ws' y,∀b,o.has b->Blks Ws b\/w.heap.size<=b)/\Keeps (Blks Ws) w w'
def CtrW {β:Type} (P:Program) (f:FuncId) (Ws:List Own) (As:List AV) (φ:β->Prop) (A:β->AV) (Ws':β->List Own):Prop :=
 (∀args w,(callFunc f args).run P w = .ok (.enter f args) w) /\
 ∀(w:World) (O:Nat->Prop) (vs:List Value),(∀b,O b->b<w.heap.size)->Lends Ws w O->HoldsAll As w.heap (fun b=>O b\/Blks Ws b) vs ->
  Calls P f vs.toArray w (EndW w O Ws φ A Ws')
theorem rep_enterW {w:World} {O:Nat->Prop} {Ws:List Own} {As:List AV} {vs:List Value} {n:Nat} (hn:As.length<=n) (hO:∀b,O b->b<w.heap.size) (hW:Lends Ws w O) (h:HoldsAll As w.heap (fun b=>O b\/Blks Ws b) vs) :
  Rep ⟨w,O,Blks Ws,n,[]⟩ ⟨numbered 0 As,Ws⟩ { tmps:=vs.toArray++Array.replicate (n-vs.toArray.size) undef,defers:=[] } w where
 size:=by simp [h.1];omega
 defers:=rfl
 slots:=fun i A hi=>by
  obtain ⟨_,h2⟩:=E_S As 0 i A hi
  simp only [Nat.sub_zero] at h2
  have hlt:i<vs.length:=by rw [h.1];exact (g_S h2).1
  refine ⟨vs[i],?_,?_⟩
  ·rw [Array.getElem?_append_left (by simpa using hlt)];simp [hlt]
  ·exact h.2 i A vs[i] h2 (g_E hlt)
 own:=fun o ho=>hW.own o ho
 apart:=hW.apart
 free:=fun o ho b hb=>⟨hW.off o ho b hb,.inr ⟨o,ho,hb⟩⟩
 xold:=hO
 keep:=Keeps.refl _ _
theorem D_I {β:Type} {f:FuncId} {fn:Func} {c:Code} {Ws:List Own} {As:List AV} {φ:β->Prop} {A:β->AV} {Ws':β->List Own} (hc:∀args w,(callFunc f args).run P w = .ok (.enter f args) w)
  (hf:P.funcs[f]? = some fn) (hb:fn.body=some c) (hn:Nat.ble As.length fn.ntmps=true)
  (h:∀(w:World) (O:Nat->Prop),Ent ⟨w,O,Blks Ws,fn.ntmps,[]⟩ ⟨numbered 0 As,Ws⟩ (c.wp P (bodyPost P fn (EndW w O Ws φ A Ws')))):CtrW P f Ws As φ A Ws' :=
 ⟨hc,fun w O _ hO hW ha=>calls_of_wp hf hb (h w O _ w (rep_enterW (b_L hn) hO hW ha))⟩
theorem retW {β:Type} {fn:Func} {ex:Exit} {Ws:List Own} {φ:β->Prop} {A:β->AV} {Ws':β->List Own} {w:World} {O:Nat->Prop} {m:Nat} (he:ex = .normal\/ex = .ret) (y:β) (hy:φ y) (hown:st.own=Ws' y)
  (hres:∀a w',Rep ⟨w,O,Blks Ws,m,[]⟩ st a w'->∃v,(results fn a.tmps).run P w' = .ok v w'/\(A y).holds w'.heap (OO ⟨w,O,Blks Ws,m,[]⟩ st.own) v) :
  Ent ⟨w,O,Blks Ws,m,[]⟩ st (bodyPost P fn (EndW w O Ws φ A Ws') ex):=by
 intro a w' r
 obtain ⟨v,h1,h2⟩:=hres a w' r
 have key:EndW w O Ws φ A Ws' (.returned v) w':=by
  refine ⟨v,y,rfl,hy,by rw [hown] at h2;exact h2,⟨fun o ho=>?_,by rw [<- hown];exact r.apart,fun o ho b hb=>?_⟩,fun o ho b hb=>?_,r.keep⟩
  ·have : o.holds w'.heap (OO ⟨w,O,Blks Ws,m,[]⟩ st.own):=r.own o (by rw [hown];exact ho)
   rw [hown] at this
   exact this
  ·exact (r.free o (by rw [hown];exact ho) b hb).1
  ·exact ((r.free o (by rw [hown];exact ho) b hb).2).symm
 rcases he with rfl | rfl
 ·exact ⟨r.defers,v,h1,key⟩
 ·exact ⟨r.defers,v,h1,key⟩
variable {O' : Nat -> Prop}
theorem resW0 {fn:Func} {w:World} {O:Nat->Prop} {M:Nat->Prop} {m:Nat} (hres:fn.results = #[]):∀a w',Rep ⟨w,O,M,m,[]⟩ st a w'->∃v,(results fn a.tmps).run P w' = .ok v w'/\aAny.holds w'.heap O' v :=
 fun a w' _=>⟨.tuple #[],by rw [D_h,hres];simp,trivial⟩
theorem resW1 {fn:Func} {r1:ResultVar} {A:AV} {w:World} {O:Nat->Prop} {M:Nat->Prop} {m:Nat} (hres:fn.results = #[r1]) (h1:ResR P ⟨w,O,M,m,[]⟩ st r1 A O'):∀a w',Rep ⟨w,O,M,m,[]⟩ st a w'->∃v,(results fn a.tmps).run P w' = .ok v w'/\A.holds w'.heap O' v :=
 fun a w' r=>by
  obtain ⟨v,v1,v2⟩:=h1 a w' r
  exact ⟨v,by rw [D_h,hres];simp [v1],v2⟩
theorem resW2 {fn:Func} {r1 r2:ResultVar} {A B:AV} {w:World} {O:Nat->Prop} {M:Nat->Prop} {m:Nat} (hres:fn.results = #[r1,r2]) (h1:ResR P ⟨w,O,M,m,[]⟩ st r1 A O') (h2:ResR P ⟨w,O,M,m,[]⟩ st r2 B O'):∀a w',Rep ⟨w,O,M,m,[]⟩ st a w'->∃v,(results fn a.tmps).run P w' = .ok v w'/\(aTup [A,B]).holds w'.heap O' v :=
 fun a w' r=>by
  obtain ⟨v,v1,v2⟩:=h1 a w' r
  obtain ⟨u,u1,u2⟩:=h2 a w' r
  exact ⟨.tuple #[v,u],by rw [D_h,hres];simp [v1,u1],aTup_two v2 u2⟩
theorem D_F {α:Type} {er:TypeId} {enc:α->AV} {S:List Nat} {Hs:List Hdr} {xss:List (List α)} (hf:Flat enc):FlatOwn (oRws er enc S Hs xss):=fun h O O' ⟨h0,h1,h2⟩ =>
 ⟨h0,fun i H hi hH=>by
  obtain ⟨xs,k1,k2,k3⟩:=h1 i H hi hH
  exact ⟨xs,k1,k2,D_L hf k3⟩,h2⟩
theorem flat_H:Flat aH:=fun _ _ _ _ _ _ h=>h
theorem G_N {β:Type} {op:Op} {f:FuncId} {Ws rs:List Own} {As:List AV} {φ:β->Prop} {A:β->AV} {Ws':β->List Own} (ls:List Nat) (hd:Nat.ble (d+1) E.n=true) (c:CtrW P f Ws As φ A Ws') (how:st.own=Ws++rs)
  (hls:ls.all (fun k=>Nat.ble Ws.length k)=true) (hf:ls = []\/((∀y,Pl (A y))/\∀y,∀o∈Ws' y,FlatOwn o))
  (hrun:∀a w,Rep E st a w->∃us,(execOp a.eval ⟨some d,op,ty,pos,af,none⟩).run P w = .ok (.enter f us.toArray) w/\HoldsAll As w.heap (fun b=>OO E st.own b/\¬Lent st.own ls b) us)
  (k:∀y,φ y->Ent E ⟨(d,A y)::st.slots,Ws' y++rs⟩ (wpList P ops Q rest)) :
  Ent E st (wpList P ops Q (⟨some d,op,ty,pos,af,none⟩::rest)):=by
 intro a w rp
 obtain ⟨us,hrun,hargs⟩:=hrun a w rp
 refine wpList_plain rfl fun K hK=>?_
 unfold Oper.wp
 rw [hrun,Oper.upon_enter]
 have hlt:∀b,OO E st.own b->b<w.heap.size:=St.O_lt rp
 have hWown:∀o∈Ws,o∈st.own:=fun o ho=>by rw [how];exact List.mem_append_left _ ho
 have hRown:∀o∈rs,o∈st.own:=fun o ho=>by rw [how];exact List.mem_append_right _ ho
 have hap:=rp.apart
 rw [how,List.pairwise_append] at hap
 have hWR:∀o∈Ws,∀o'∈rs,∀b,o.has b->¬o'.has b:=hap.2.2
 have hlent:∀b,Lent st.own ls b->∃o∈rs,o.has b:=by
  rintro b ⟨k,hk,o,hko,hob⟩
  have hkl:Ws.length<=k:=b_L (List.all_eq_true.1 hls k hk)
  rw [how,List.getElem?_append_right hkl] at hko
  exact ⟨o,m_G hko,hob⟩
 let X:Nat->Prop:=fun b=>OO E st.own b/\¬Lent st.own ls b/\¬Blks Ws b
 have hX:∀b,X b->OO E st.own b:=fun b hb=>hb.1
 have hBO:∀b,Blks Ws b->OO E st.own b:=fun b ⟨o,ho,hob⟩=>.inr ⟨o,hWown o ho,hob⟩
 have hsub:∀b,X b\/Blks Ws b->OO E st.own b/\¬Lent st.own ls b:=by
  rintro b (hb | ⟨o,ho,hob⟩)
  ·exact ⟨hb.1,hb.2.1⟩
  ·refine ⟨hBO b ⟨o,ho,hob⟩,fun hl=>?_⟩
   obtain ⟨o',ho',hob'⟩:=hlent b hl
   exact hWR o ho o' ho' b hob hob'
 refine (c.2 w X us (fun b hb=>hlt b hb.1) ⟨fun o ho=>Own.less (rp.own o (hWown o ho)) (fun b hb=>(hsub b hb).1),hap.1,fun o ho b hb hx=>hx.2.2 ⟨o,ho,hb⟩⟩
  ⟨hargs.1,fun i A v hA hv=>AV.less (hargs.2 i A v hA hv) (fun b _ hb=>hsub b hb)⟩).mono ?_
 rintro en w' ⟨v,y,rfl,hy,hA,hL,hB,hK'⟩
 have hO':∀b,b<w.heap.size->OO E (Ws' y++rs) b->OO E st.own b:=by
  rintro b hb (h | ⟨o,ho,hob⟩)
  ·exact .inl h
  ·rcases List.mem_append.1 ho with ho | ho
   ·rcases hB o ho b hob with h | h
    ·exact hBO b h
    ·omega
   ·exact .inr ⟨o,hRown o ho,hob⟩
 have hO2:ls = []->∀b,OO E (Ws' y++rs) b->X b\/Blks (Ws' y) b:=by
  intro hl b hb
  have hnl:¬Lent st.own ls b:=by rw [hl];rintro ⟨k,hk,_⟩;cases hk
  rcases hb with h | ⟨o,ho,hob⟩
  ·refine .inl ⟨.inl h,hnl,fun ⟨o,ho,hob⟩=>(rp.free o (hWown o ho) b hob).1 h⟩
  ·rcases List.mem_append.1 ho with ho | ho
   ·exact .inr ⟨o,ho,hob⟩
   ·exact .inl ⟨.inr ⟨o,hRown o ho,hob⟩,hnl,fun ⟨o',ho',hob'⟩=>hWR o' ho' o ho b hob' hob⟩
 have hsame:∀b,b<w.heap.size->¬OO E st.own b->w'.heap[b]? = w.heap[b]?:=fun b hb hn=>hK'.block b hb fun h=>hn (hBO b h)
 refine hK _ _ (k y hy _ _ ?_)
 have r2:Rep E ⟨st.slots,Ws' y++rs⟩ a w':=by
  refine ⟨rp.size,rp.defers,fun i A hi=>?_,fun o ho=>?_,?_,fun o ho b hb=>?_,rp.xold,?_⟩
  ·obtain ⟨v,h1,h2⟩:=rp.slots i A hi
   exact ⟨v,h1,A.mono _ _ _ _ _ h2 hK'.size hsame hO'⟩
  ·rcases List.mem_append.1 ho with ho | ho
   ·rcases hf with hf | hf
    ·exact Own.less (hL.own o ho) (hO2 hf)
    ·exact hf.2 y o ho _ _ _ (hL.own o ho)
   ·refine o.mono _ _ _ _ (rp.own o (hRown o ho)) hK'.size (fun b hb hn=>?_) hO'
    rcases hn with hn | hn
    ·exact hsame b hb hn
    ·exact hK'.block b hb fun ⟨o',ho',hob'⟩=>hWR o' ho' o ho b hob' hn
  ·rw [List.pairwise_append]
   refine ⟨hL.apart,hap.2.1,fun o ho o' ho' b hb hb'=>?_⟩
   rcases hB o ho b hb with ⟨o2,ho2,h2⟩ | h2
   ·exact hWR o2 ho2 o' ho' b h2 hb'
   ·exact absurd (hlt b (.inr ⟨o',hRown o' ho',hb'⟩)) (by omega)
  ·rcases List.mem_append.1 ho with ho | ho
   ·rcases hB o ho b hb with ⟨o2,ho2,h2⟩ | h2
    ·exact rp.free o2 (hWown o2 ho2) b h2
    ·exact ⟨fun hx=>absurd (hlt _ (.inl hx)) (by omega),.inl (Nat.le_trans rp.keep.size h2)⟩
   ·exact rp.free o (hRown o ho) b hb
  ·refine ⟨hK'.os.trans rp.keep.os,hK'.tape.trans rp.keep.tape,hK'.output.trans rp.keep.output,Nat.le_trans rp.keep.size hK'.size,fun b hb hm=>?_⟩
   rw [hK'.block b (Nat.lt_of_lt_of_le hb rp.keep.size) ?_,rp.keep.block b hb hm]
   rintro ⟨o,ho,hob⟩
   rcases (rp.free o (hWown o ho) b hob).2 with h | h
   ·omega
   ·exact hm h
 refine r2.put (b_L hd) (A:=A y) ?_
 rcases hf with hf | hf
 ·exact AV.less hA (fun b _ hb=>hO2 hf b hb)
 ·exact hf.1 y _ _ _ _ _ hA
theorem B_0 {β:Type} {f:FuncId} {xs:List Operand} {tys:Array TypeId} {Ws rs:List Own} {As:List AV} {φ:β->Prop} {A:β->AV} {Ws':β->List Own} (ls:List Nat) (hd:Nat.ble (d+1) E.n=true) (c:CtrW P f Ws As φ A Ws') (how:st.own=Ws++rs)
  (hls:ls.all (fun k=>Nat.ble Ws.length k)=true) (hf:ls = []\/((∀y,Pl (A y))/\∀y,∀o∈Ws' y,FlatOwn o)) (hx:ArgsA E st.slots st.own (fun b=>OO E st.own b/\¬Lent st.own ls b) xs As)
  (k:∀y,φ y->Ent E ⟨(d,A y)::st.slots,Ws' y++rs⟩ (wpList P ops Q rest)) :
  Ent E st (wpList P ops Q (⟨some d,.call { callee:=.value (.func f),args:=xs.toArray,argTypes:=tys },ty,pos,af,none⟩::rest)):=by
 refine G_N ls hd c how hls hf (fun a w rp=>?_) k
 have r:=rp.opR ⟨some d,.call { callee:=.value (.func f),args:=xs.toArray,argTypes:=tys },ty,pos,af,none⟩
 refine ⟨xs.map a.eval,?_,?_⟩
 ·simp [execOp,resolve,Act.eval,Deferred.ofValue,invoke,c.1]
 ·exact hx.holds r (fun x hx=>by simp [Op.operands,Call.operands,hx])
end
section
variable {P : Program} {E : Env} {st : St} {Q : Exit -> Act -> World -> Prop} {ops : Array Oper} {rest : List Oper} {s : List (Nat × AV)} {own : List Own}
variable {d : Nat} {ty : TypeId} {pos : String} {af : Array Edge} {g : Option (Nat × Bool)}
def vClo (f:FuncId) (us:List Value):Value:=.func (.func f) #[] us.toArray
def aClo (f:FuncId) (As:List AV):AV where
 holds h O v:=∃us,v=vClo f us/\HoldsAll As h O us
 mono:=by
  rintro h h' O O' v ⟨us,h1,h2,h3⟩ hs hb ho
  exact ⟨us,h1,h2,fun i A u hA hu=>A.mono _ _ _ _ _ (h3 i A u hA hu) hs hb ho⟩
theorem E_P {f:FuncId} {xs:List Operand} {us:List Value} (hx:xs.map (opd s)=us.map (fun u=>some (aEx u))) :
  OpOK P E s own ⟨some d,.makeFunc (.func f) #[] xs.toArray,ty,pos,af,g⟩ (aEx (vClo f us)) :=
 B_e (fun a w r=>by
  have : xs.map a.eval=us:=by
   apply List.ext_getElem?
   intro i
   have h2:=congrArg (·[i]?) hx
   simp only [List.getElem?_map] at h2 ⊢
   cases hxi:xs[i]? with
   | none=>rw [hxi] at h2;cases hu:us[i]? with
    | none=>rfl
    | some u=>rw [hu] at h2;cases h2
   | some x =>
    rw [hxi] at h2
    cases hu:us[i]? with
    | none=>rw [hu] at h2;cases h2
    | some u =>
     rw [hu] at h2
     have h3:opd s x=some (aEx u):=Option.some.inj h2
     have:=r.ex h3 (by simp only [Op.operands];simp [m_G hxi])
     simp [this]
  refine ⟨vClo f us,?_,rfl⟩
  rw [<- this]
  simp [execOp,Instr.makeFunc,vClo])
theorem cv_clo {O:Nat->Prop} {f:FuncId} {us:List Value} {As:List AV} (h:CvL E own O (us.map aEx) As):Cv E own O (aEx (vClo f us)) (aClo f As):=fun w v rp hv=>by
 obtain ⟨k1,k2⟩:=h.get
 refine ⟨us,hv,by simpa using k1,fun i A u hA hu=>?_⟩
 obtain ⟨B,hB,hcv⟩:=k2 i A hA
 rw [List.getElem?_map,hu] at hB
 cases hB
 exact hcv w u rp rfl
theorem C_w {O:Nat->Prop} {k b:Nat} {T:TypeId} {A B:AV} (ho:Off E own O k (oBox b T [A])) (h:Cv E own O A B) :
  Cv E own O (aEx (.pointer (some ⟨b,0,none⟩))) (aAt 1 false B):=fun w v rp hv=>by
 rw [show v = .pointer (some ⟨b,0,none⟩) from hv]
 obtain ⟨cur,g1,g2,g3⟩:=rp.own _ (m_G ho.1)
 match cur,g2 with
 | [c],_ =>
  exact ⟨b,0,[c],rfl,rfl,fun _=>rfl,⟨fun hb=>(ho.2 w rp b hb).2 rfl,_,T,(0,0),g1,fun j u hu=>by simpa using hu⟩,h w c rp (g3 0 A c rfl rfl).1⟩
theorem HoldsAll.append {As Bs:List AV} {h:Heap} {O:Nat->Prop} {vs us:List Value} (h1:HoldsAll As h O vs) (h2:HoldsAll Bs h O us):HoldsAll (As++Bs) h O (vs++us):=by
 refine ⟨by simp [h1.1,h2.1],fun i A v hA hv=>?_⟩
 by_cases hi:i<As.length
 ·rw [List.getElem?_append_left hi] at hA
  rw [List.getElem?_append_left (by rw [h1.1];exact hi)] at hv
  exact h1.2 i A v hA hv
 ·rw [List.getElem?_append_right (by omega)] at hA
  rw [List.getElem?_append_right (by rw [h1.1];omega),h1.1] at hv
  exact h2.2 _ A v hA hv
theorem ArgsA.holds2 {O:Nat->Prop} {a:Act} {w:World} (r:Rep E st a w):∀ {xs:List Operand} {As:List AV},ArgsA E st.slots st.own O xs As->HoldsAll As w.heap O (xs.map a.eval)
 | [],[],_=>HoldsAll.nil _ _
 | x::xs,A::As,h=>by
  obtain ⟨⟨B,h1,h2⟩,h3⟩:=h
  exact HoldsAll.cons (h2 w _ r.w (r.eval h1)) (ArgsA.holds2 r h3)
 | [],_::_,h=>h.elim
 | _::_,[],h=>h.elim
theorem run_clo {a:Act} {w:World} {f:FuncId} {x:Operand} {us:List Value} {xs:List Operand} {tys:Array TypeId} {dd:Option Tmp} (hc:∀args w,(callFunc f args).run P w = .ok (.enter f args) w) (hx:a.eval x=vClo f us) :
  (execOp a.eval ⟨dd,.call { callee:=.value x,args:=xs.toArray,argTypes:=tys },ty,pos,af,g⟩).run P w = .ok (.enter f (xs.map a.eval++us).toArray) w:=by
 simp [execOp,resolve,hx,vClo,Deferred.ofValue,invoke,hc]
theorem G_O {β:Type} {f:FuncId} {x:Operand} {us:List Value} {xs:List Operand} {tys:Array TypeId} {Ws rs:List Own} {As Bs:List AV} {φ:β->Prop} {A:β->AV} {Ws':β->List Own} (ls:List Nat) (hd:Nat.ble (d+1) E.n=true) (c:CtrW P f Ws (As++Bs) φ A Ws') (how:st.own=Ws++rs)
  (hls:ls.all (fun k=>Nat.ble Ws.length k)=true) (hf:ls = []\/((∀y,Pl (A y))/\∀y,∀o∈Ws' y,FlatOwn o)) (hv:opd st.slots x=some (aEx (vClo f us))) (hx:ArgsA E st.slots st.own (fun b=>OO E st.own b/\¬Lent st.own ls b) xs As)
  (hB:ArgsA E st.slots st.own (fun b=>OO E st.own b/\¬Lent st.own ls b) (us.map Operand.const) Bs)
  (k:∀y,φ y->Ent E ⟨(d,A y)::st.slots,Ws' y++rs⟩ (wpList P ops Q rest)) :
  Ent E st (wpList P ops Q (⟨some d,.call { callee:=.value x,args:=xs.toArray,argTypes:=tys },ty,pos,af,none⟩::rest)):=by
 refine G_N ls hd c how hls hf (fun a w rp=>?_) k
 refine ⟨xs.map a.eval++us,run_clo c.1 (rp.eval hv),HoldsAll.append (hx.holds2 rp) ?_⟩
 have:=hB.holds2 rp
 have e:(us.map Operand.const).map a.eval=us:=by
  rw [List.map_map]
  exact List.map_id'' (fun u=>rfl) us
 rwa [e] at this
theorem D_f {β:Type} {f:FuncId} {x:Operand} {xs:List Operand} {tys:Array TypeId} {Ws rs:List Own} {As Bs:List AV} {φ:β->Prop} {A:β->AV} {Ws':β->List Own} (ls:List Nat) (hd:Nat.ble (d+1) E.n=true) (c:CtrW P f Ws (As++Bs) φ A Ws') (how:st.own=Ws++rs)
  (hls:ls.all (fun k=>Nat.ble Ws.length k)=true) (hf:ls = []\/((∀y,Pl (A y))/\∀y,∀o∈Ws' y,FlatOwn o)) (hv:opd st.slots x=some (aClo f Bs)) (hx:ArgsA E st.slots st.own (fun b=>OO E st.own b/\¬Lent st.own ls b) xs As)
  (k:∀y,φ y->Ent E ⟨(d,A y)::st.slots,Ws' y++rs⟩ (wpList P ops Q rest)) :
  Ent E st (wpList P ops Q (⟨some d,.call { callee:=.value x,args:=xs.toArray,argTypes:=tys },ty,pos,af,none⟩::rest)):=by
 refine G_N ls hd c how hls hf (fun a w rp=>?_) k
 obtain ⟨us,hu,hB⟩:=rp.eval hv
 exact ⟨xs.map a.eval++us,run_clo c.1 hu,HoldsAll.append (hx.holds2 rp) ⟨hB.1,fun i A u hA hu=>AV.less (hB.2 i A u hA hu) (fun b _ hb=>hb.1)⟩⟩
end
section
variable {P : Program} {E : Env} {st : St} {Q : Exit -> Act -> World -> Prop} {ops : Array Oper} {rest : List Oper} {s : List (Nat × AV)} {own : List Own}
variable {d : Nat} {ty : TypeId} {pos : String} {af : Array Edge} {g : Option (Nat × Bool)}
variable {α : Type} {enc : α -> AV} {xs : List α} {n : Int} {r : Option Nat} {cap : Nat}
theorem A_8 {T e:TypeId} {x i:Operand} {k m:Nat} (hs:SlInfo P T e 1) (hk:own[k]? = some (oVec r cap e 1 false enc xs)) (hx:opd s x=some (aEx (vec r m cap))) (hm:m=xs.length) (hi:opd s i=some (aInt n))
  (h0:0<=n:=by omega) (h1:n<xs.length:=by omega):OpOK P E s own ⟨some d,.indexAddr T x i,ty,pos,af,g⟩ (aEx (.pointer (some ⟨r.getD 0,n.toNat*1,none⟩))):=by
 intro a w rp K Q hK
 have hr:=F_d (rp.world.own _ (m_G hk)) (by omega)
 have hx':opd s x=some (aEx (vec (some (r.getD 0)) m cap)):=by rw [hx,<- hr]
 exact A_s (P:=P) (E:=E) (s:=s) (own:=own) (d:=d) (ty:=ty) (pos:=pos) (af:=af) (g:=g) hs hx' hi h0 (by omega) a w rp K Q hK
theorem B_O {T e:TypeId} {x:Operand} {k:Nat} (dflt:α) (ht:TyInfo P T 1 false) (hk:own[k]? = some (oVec r cap e 1 false enc xs)) (hx:opd s x=some (aEx (.pointer (some ⟨r.getD 0,n.toNat*1,none⟩))))
  (h0:0<=n:=by omega) (h1:n<xs.length:=by omega):OpOK P E s own ⟨some d,.load T x,ty,pos,af,g⟩ (enc (ix dflt xs n)):=by
 intro a w rp K Q hK
 have hr:=F_d (rp.world.own _ (m_G hk)) (by omega)
 have hk2:own[k]? = some (oVec (some (r.getD 0)) cap e 1 false enc xs):=by rw [hk,<- hr]
 exact B_f (P:=P) (E:=E) (s:=s) (own:=own) (d:=d) (ty:=ty) (pos:=pos) (af:=af) (g:=g) dflt ht hk2 hx h0 h1 a w rp K Q hK
theorem C_L {T e:TypeId} {x y:Operand} {k:Nat} {z:α} (ht:TyInfo P T 1 false) (hk:st.own[k]? = some (oVec r cap e 1 false enc xs)) (hx:opd st.slots x=some (aEx (.pointer (some ⟨r.getD 0,n.toNat*1,none⟩)))) (hy:opd st.slots y=some (enc z)) (he:ElemOK (enc z) false 1)
  (h0:0<=n) (h1:n<xs.length) (kk:Ent E ⟨st.slots,st.own.set k (oVec r cap e 1 false enc (xs.set n.toNat z))⟩ (wpList P ops Q rest)) :
  Ent E st (wpList P ops Q (⟨none,.store T x y,ty,pos,af,none⟩::rest)):=by
 intro a w rp
 have hr:=F_d (rp.own _ (m_G hk)) (by omega)
 have hk2:st.own[k]? = some (oVec (some (r.getD 0)) cap e 1 false enc xs):=by rw [hk,<- hr]
 exact B_C ht hk2 hx hy he h0 h1 (by rw [<- hr];exact kk) a w rp
theorem A_4 {er:TypeId} {S:List Nat} {Hs Hs':List Hdr} {xss xss':List (List α)} (h:Hs=Hs') (h2:xss=xss'):oRws er enc S Hs xss=oRws er enc S Hs' xss':=by rw [h,h2]
end
section
variable {P : Program} {E : Env} {st : St} {Q : Exit -> Act -> World -> Prop} {ops : Array Oper} {rest : List Oper} {s : List (Nat × AV)} {own : List Own}
variable {d : Nat} {ty : TypeId} {pos : String} {af : Array Edge} {g : Option (Nat × Bool)}
theorem pl_any:Pl aAny:=fun _ _ _ _ _ _=>trivial
theorem ok_build2 {α:Type} {T e:TypeId} {sz bytes:Nat} {z:Value} {enc:α->AV} {y1 y2:α} {t1 t2:Nat} (ht:VecTy P T e sz bytes true z) (hne:t1≠t2) (h1:opd s (.tmp t1)=some (enc y1)) (h2:opd s (.tmp t2)=some (enc y2)) (he1:ElemOK (enc y1) true sz) (he2:ElemOK (enc y2) true sz) (hsz:2*sz<=16777216) :
  OpOK P E s own ⟨some d,.buildSlice T 2 #[(0,.tmp t1),(1,.tmp t2)],ty,pos,af,g⟩ (aSl sz true enc [y1,y2]):=by
 intro a w r K Q hK
 obtain ⟨ii,i1,i2,i3,i4⟩:=ht.info
 have hv1:=r.ev (.tmp t1) (by simp [Op.operands,Call.operands]) _ h1
 have hv2:=r.ev (.tmp t2) (by simp [Op.operands,Call.operands]) _ h2
 obtain ⟨us1,u1,u2,u3,u4⟩:=he1 _ _ _ hv1
 obtain ⟨us2,v1,v2,v3,v4⟩:=he2 _ _ _ hv2
 have hh:∀(us:List Value) (v:Value),v=mkV true us->(aAgg (us.map aEx)).holds w.heap (OO E own) v:=fun us v hv=>⟨us,hv,by simp,fun i A c hA hc=>by
  rw [List.getElem?_map,hc] at hA;cases hA;rfl⟩
 let s':List (Nat×AV):=[(t1,aAgg (us1.map aEx)),(t2,aAgg (us2.map aEx))]
 have l1:opd s' (.tmp t1)=some (aAgg (us1.map aEx)):=by show look s' t1=_;simp [s',look]
 have l2:opd s' (.tmp t2)=some (aAgg (us2.map aEx)):=by
  show look s' t2=_
  have : Nat.beq t1 t2=false:=by
   cases hb:Nat.beq t1 t2 with
   | false=>rfl
   | true=>exact absurd (Nat.eq_of_beq_eq_true hb) hne
  simp [s',look,this]
 have hf:FillOK s' [(0,sz),(sz,sz)] [(0,.tmp t1),(1,.tmp t2)] (List.replicate (2*sz) aAny) (us1.map aEx++us2.map aEx):=by
  refine ⟨0,sz,rfl,.inr ⟨_,l1,by simp [u1],Nat.ble_eq_true_of_le (by simp;omega),?_⟩⟩
  refine ⟨sz,sz,rfl,.inr ⟨_,l2,by simp [v1],Nat.ble_eq_true_of_le (by simp [u1];omega),?_⟩⟩
  show _=_
  rw [List.take_append_of_le_length (by simp [u1]),t_L (by simp [u1])]
  rw [List.drop_eq_nil_of_le (by simp [u1];omega)]
  simp
 obtain ⟨cs',e1,e2⟩:=G_M (h:=w.heap) (O:=OO E own) (a:=a) (s:=s') [(0,.tmp t1),(1,.tmp t2)] _ _ ((Array.range (2*sz)).map (z.cells[· % z.cells.size]!)).toList hf (fun x hx B hB=>by
  simp only [List.map_cons,List.map_nil,List.mem_cons,List.not_mem_nil,or_false] at hx
  rcases hx with rfl | rfl
  ·rw [l1] at hB;cases hB;exact hh us1 _ u2
  ·rw [l2] at hB;cases hB;exact hh us2 _ v2) ⟨by simp,fun i A c hA _=>by
   rw [List.getElem?_replicate] at hA
   split at hA
   ·cases hA;exact trivial
   ·cases hA⟩
 have hcs':cs'=us1++us2:=by
  apply List.ext_getElem?
  intro i
  rw [<- List.map_append] at e2
  have hlen:cs'.length=(us1++us2).length:=by rw [e2.1];simp
  by_cases hi:i<cs'.length
  ·have hi2:i<(us1++us2).length:=by omega
   have:=e2.2 i (aEx (us1++us2)[i]) cs'[i] (by rw [List.getElem?_map,g_E hi2];rfl) (g_E hi)
   rw [g_E hi,g_E hi2]
   exact congrArg some this
  ·rw [List.getElem?_eq_none (by omega),List.getElem?_eq_none (by omega)]
 subst hcs'
 have hz0':¬(2*sz=0):=by have:=ht.pos;omega
 have hbig':¬(16777216<2*sz):=by omega
 have hfill:Instr.fill (fun i=>some (i*sz,sz)) ((Array.range (2*sz)).map (z.cells[· % z.cells.size]!)) [(0,a.eval (.tmp t1)),(1,a.eval (.tmp t2))]=some (us1++us2).toArray:=by
  rw [<- e1]
  rw [Array.toArray_toList]
  refine E_4 _ _ fun p hp=>?_
  simp only [List.mem_cons,List.not_mem_nil,or_false] at hp
  rcases hp with rfl | rfl <;> simp
 have hb1:(execOp a.eval ⟨some d,.buildSlice T 2 #[(0,.tmp t1),(1,.tmp t2)],ty,pos,af,g⟩).run P w = .ok (.value (.slice (some ⟨w.heap.size,0,none⟩) 2 2)) (w.alloc (.cells (us1++us2).toArray e)):=by
  simp [execOp,Instr.buildSlice,run_underlying ht.und,ht.sl.size,zeroValue,typeInfo,i1,i2,newRow,hz0',hbig',hfill]
 unfold Oper.wp
 rw [hb1,Oper.upon_value]
 have gr:=Grow.alloc w (.cells (us1++us2).toArray e)
 refine hK _ _ gr ⟨some ⟨w.heap.size,0,none⟩,2,rfl,Nat.le_refl _,by simp [maxLen],ht.one,fun i x hx=>?_⟩
 have hO:∀b,w.heap.size=b->¬OO E own b:=fun b hb h=>absurd (r.lt _ h) (by omega)
 match i,hx with
 | 0,hx =>
  simp only [List.getElem?_cons_zero,Option.some.injEq] at hx
  subst hx
  refine ⟨w.heap.size,0,us1,rfl,u1,⟨hO _ rfl,_,e,(0,0),heap_alloc_new w _,fun j u hu=>?_⟩,?_⟩
  ·have hj:j<us1.length:=(g_S hu).1
   simpa [List.getElem?_append_left hj] using hu
  ·rw [<- u2];exact (enc y1).mono _ _ _ _ _ hv1 gr.size (fun b hb _=>gr.block b hb) (fun _ _ h=>h)
 | 1,hx =>
  simp only [List.getElem?_cons_succ,List.getElem?_cons_zero,Option.some.injEq] at hx
  subst hx
  refine ⟨w.heap.size,0,us2,rfl,v1,⟨hO _ rfl,_,e,(0,0),heap_alloc_new w _,fun j u hu=>?_⟩,?_⟩
  ·rw [List.getElem?_toArray,List.getElem?_append_right (by omega)]
   rw [show 0+1*sz+j-us1.length=j by omega];exact hu
  ·rw [<- v2];exact (enc y2).mono _ _ _ _ _ hv2 gr.size (fun b hb _=>gr.block b hb) (fun _ _ h=>h)
 | i+2,hx=>simp at hx
end
theorem perm_ix2 {own:List Own} (n:Nat) (is:List Nat) (hl:own.length=n) (h:is.Perm (List.range n)):(is.filterMap (own[·]?)).Perm own:=perm_ix is (by rw [hl];exact h)
theorem C_n {E:Env} {st:St} {own':List Own} {K:Act->World->Prop} (n:Nat) (is:List Nat) (hl:st.own.length=n) (hp:is.reverse.Perm (List.range n)) (he:pmA st.own is []=some own') (h:Ent E ⟨st.slots,own'⟩ K):Ent E st K :=
 ent_perm own' (by rw [pmA_eq is [] he,List.append_nil];exact perm_ix2 n _ hl hp) h
section drawsO
variable {P : Program} {E : Env}
theorem F_1 {st:St} {Q:Exit->Act->World->Prop} {id:Nat} {l:List Oper} (n:Nat) (fl:List Nat) (hm:P.follows .mixedOrders=true) (hn:Nat.ble n l.length=true) (hB:drawF l n n=true) (hF:flB l n fl=true) (hsel:Region.noSelect l.toArray=true)
  (hS:Region.seqB .any l.toArray (l.length-n) n (Array.replicate n true++Array.replicate (l.length-n) false)=true) (hQ:∀c a w (d:Nat) v,Q (.panic c) (a.put (some d) v) w->Q (.panic c) a w)
  (h:∀(a:Act) (w:World),Rep E st a w->DW P (E.re w st.own) st.own l.toArray (l.take n) st.slots (fun s'=>∀(a':Act) (w':World),Rep (E.re w st.own) ⟨s',st.own⟩ a' w'->Grow w w'->agreeOff (dstsOf l) a a'->wpList P l.toArray Q (l.drop n) a' w')) :
  Ent E st ((Code.region id l.toArray true).wp P Q):=by
 intro a w r
 have hnl:n<=l.length:=b_L hn
 refine wp_region_any hm ?_
 have rr:=(r.grow (Grow.drew w)).re
 obtain ⟨D,A,h1,h2⟩:=dw_fun l.toArray _ _ _ (h a w.drew (r.grow (Grow.drew w)))
 have hlen:(l.take n).length=n:=by simp [hnl]
 rw [hlen] at h2
 have hspec:∀k o,k<n->l[k]? = some o->o.dst=some (D k)/\D k<(E.re w.drew st.own).n/\Spec P (E.re w.drew st.own) st.own l.toArray (stt st.slots D A k) o (A k):=fun k o hk ho=>h1 k o (by rw [List.getElem?_take,i_P hk];exact ho)
 have inv:=D_i (D:=D) (A:=A) (l:=l) (n:=n) rr
 have h0:(Array.replicate 0 true++Array.replicate (l.length-0) false)=Array.replicate l.length false:=by simp
 rw [h0] at inv
 have hcount:((List.range n).filter fun i=>!((Array.replicate l.length false).getD i false)).length=n:=by
  have : ∀i,(Array.replicate l.length false).getD i false=false:=fun i=>by
   rw [Array.getD_eq_getD_getElem?]
   by_cases hi:i<l.length
   ·simp [hi]
   ·simp [hi]
  rw [List.filter_eq_self.2 (fun i _=>by simp [this i])];simp
 have:=E_7 (P:=P) (Q:=Q) (g:=l.length-n) hB hF hsel hQ hnl hspec (fun a' w'=>Grow w.drew w'/\agreeOff (dstsOf l) a a') ?_ ?_ n _ a w.drew hcount ⟨Grow.refl _,fun _ _=>rfl⟩ inv
 ·rw [show n+(l.length-n)=l.length by omega] at this
  simpa using this
 ·intro j oj v a' w1 w2 hj hoj g ⟨hg,ha⟩
  refine ⟨hg.trans g,fun i hi=>?_⟩
  rw [D_J a' _ v i (fun e=>hi ?_)]
  ·exact ha i hi
  ·exact List.mem_filterMap.2 ⟨oj,m_G hoj,e⟩
 ·intro listed a' w' ⟨hg,ha⟩ inv' hall
  have hrep:=inv'.end2 hB hnl hspec hall
  have hlisted:listed=Array.replicate n true++Array.replicate (l.length-n) false:=by
   apply Array.ext
   ·simp [inv'.sz];omega
   ·intro i hi1 hi2
    have hd:listed.getD i false=listed[i]:=by simp [hi1]
    rcases Nat.lt_or_ge i n with h | h
    ·rw [<- hd,hall i h,Array.getElem_append_left (by simpa using h)];simp
    ·rw [<- hd,inv'.tail i h,Array.getElem_append_right (by simpa using h)];simp
  have hdl:(l.drop n).length=l.length-n:=by simp
  rw [<- hdl]
  refine wpAny_of_seq (l.drop n) n listed a' w' (fun j=>by simp [g_D]) ?_ (h2 a' w' hrep hg ha)
  rw [hdl,hlisted]
  exact hS
theorem rep_own {st:St} {s':List (Nat×AV)} {a a':Act} {w w':World} {l:List Oper} {d:Nat} {v:Value} {o:Own} {keep old:List (Nat×AV)} (r:Rep E st a w) (r':Rep (E.re w st.own) ⟨s',st.own⟩ a' w') (g:Grow w w') (ag:agreeOff (dstsOf l) a a')
  (hv:a'.tmps[d]? = some v) (hnew:∀b,o.has b->w.heap.size<=b/\¬OO E st.own b) (ho:o.holds w'.heap (OO E (o::st.own))) (hkeep:SubS keep s') (hpl:∀p∈keep,Pl p.2) (hold:SubS old st.slots) (hoff:offB (dstsOf l) old=true) :
  Rep E ⟨(d,aEx v)::(keep++old),o::st.own⟩ a' w':=by
 have hlt:∀b,OO E st.own b->b<w.heap.size:=St.O_lt r
 have hla:=Own.later r g (news:=[o]) (fun o' ho' b hb=>by
  simp only [List.mem_cons,List.not_mem_nil,or_false] at ho'
  subst ho';exact (hnew b hb).1)
 refine ⟨r'.size,r'.defers,fun i A hi=>?_,fun o' ho'=>?_,List.Pairwise.cons (fun o' ho' b h1 h2=>(hnew b h1).2 (.inr ⟨o',ho',h2⟩)) r.apart,fun o' ho' b hb=>?_,r.xold,Keeps.re r r'.keep⟩
 ·unfold Cw.look at hi
  cases hb1:Nat.beq d i with
  | true =>
   have:=Nat.eq_of_beq_eq_true hb1
   subst this
   rw [hb1] at hi
   simp only [cond_true,Option.some.injEq] at hi
   subst hi
   exact ⟨_,hv,rfl⟩
  | false =>
   rw [hb1] at hi
   simp only [cond_false] at hi
   rw [F_R] at hi
   cases hk:look keep i with
   | some B =>
    rw [hk] at hi
    simp only [Option.some_or,Option.some.injEq] at hi
    subst hi
    obtain ⟨u,u1,u2⟩:=r'.slots i B (hkeep.look hk)
    have hmem:∃p∈keep,p.2=B:=by
     clear hkeep
     induction keep with
     | nil=>cases hk
     | cons p k ih =>
      obtain ⟨j,C⟩:=p
      unfold Cw.look at hk
      cases hb:Nat.beq j i with
      | true=>rw [hb] at hk;simp only [cond_true,Option.some.injEq] at hk;exact ⟨_,List.mem_cons_self,hk⟩
      | false =>
       rw [hb] at hk
       obtain ⟨p,hp,hpe⟩:=ih (fun p hp=>hpl p (List.mem_cons_of_mem _ hp)) hk
       exact ⟨p,List.mem_cons_of_mem _ hp,hpe⟩
    obtain ⟨p,hp,rfl⟩:=hmem
    exact ⟨u,u1,hpl p hp _ _ _ _ _ u2⟩
   | none =>
    rw [hk] at hi
    simp only [Option.none_or] at hi
    obtain ⟨u,u1,u2⟩:=hla.2 i A (hold.look hi)
    exact ⟨u,by rw [ag i (G_s hoff hi)];exact u1,u2⟩
 ·rcases List.mem_cons.1 ho' with rfl | ho'
  ·exact ho
  ·exact hla.1 o' ho'
 ·rcases List.mem_cons.1 ho' with rfl | ho'
  ·exact ⟨fun hx=>(hnew b hb).2 (.inl hx),.inl (Nat.le_trans r.keep.size (hnew b hb).1)⟩
  ·exact r.free o' ho' b hb
theorem ent_drawV1 {st:St} {Q:Exit->Act->World->Prop} {id:Nat} {l:List Oper} {α:Type} {e:TypeId} {enc:α->AV} {xs:List α} (n:Nat) (fl:List Nat) (d:Nat) (keep old:List (Nat×AV)) (hm:P.follows .mixedOrders=true) (hn:Nat.ble n l.length=true) (hB:drawF l n n=true) (hF:flB l n fl=true) (hsel:Region.noSelect l.toArray=true)
  (hS:Region.seqB .any l.toArray (l.length-n) n (Array.replicate n true++Array.replicate (l.length-n) false)=true) (hQ:∀c a w (d:Nat) v,Q (.panic c) (a.put (some d) v) w->Q (.panic c) a w)
  (hf:Flat enc) (hpl:∀p∈keep,Pl p.2) (hold:SubS old st.slots) (hoff:offB (dstsOf l) old=true)
  (h:∀w:World,DW P (E.re w st.own) st.own l.toArray (l.take n) st.slots (fun s'=>look s' d=some (aFr w.heap.size (aVec e 1 false enc xs))/\SubS keep s'))
  (k:∀r c,Ent E ⟨(d,aEx (vec r xs.length c))::(keep++old),oVec r c e 1 false enc xs::st.own⟩ (wpList P l.toArray Q (l.drop n))) :
  Ent E st ((Code.region id l.toArray true).wp P Q):=by
 refine F_1 n fl hm hn hB hF hsel hS hQ fun a w r=>?_
 refine DW.mono (h w) ?_
 rintro s' ⟨h1,h2⟩ a' w' r' g ag
 obtain ⟨v1,p1,rr1,c1,rfl,q1,n1⟩:=r'.slots d _ h1
 have f1:∀b,rr1=some b->w.heap.size<=b/\¬OO E st.own b:=fun b hb=>by
  have:=n1 b hb
  exact ⟨Nat.le_of_not_lt fun hlt=>this (.inr hlt),fun hO=>this (.inl hO)⟩
 exact k rr1 c1 a' w' (rep_own (l:=l) (o:=oVec rr1 c1 e 1 false enc xs) r r' g ag p1 f1 (D_L hf q1) h2 hpl hold hoff)
theorem ent_drawB1 {st:St} {Q:Exit->Act->World->Prop} {id:Nat} {l:List Oper} {T:TypeId} {As:List AV} (n:Nat) (fl:List Nat) (d:Nat) (keep old:List (Nat×AV)) (hm:P.follows .mixedOrders=true) (hn:Nat.ble n l.length=true) (hB:drawF l n n=true) (hF:flB l n fl=true) (hsel:Region.noSelect l.toArray=true)
  (hS:Region.seqB .any l.toArray (l.length-n) n (Array.replicate n true++Array.replicate (l.length-n) false)=true) (hQ:∀c a w (d:Nat) v,Q (.panic c) (a.put (some d) v) w->Q (.panic c) a w)
  (hA:∀A∈As,Pl A) (hpl:∀p∈keep,Pl p.2) (hold:SubS old st.slots) (hoff:offB (dstsOf l) old=true)
  (h:∀w:World,DW P (E.re w st.own) st.own l.toArray (l.take n) st.slots (fun s'=>look s' d=some (aBoxF w.heap.size T As)/\SubS keep s'))
  (k:∀b,Ent E ⟨(d,aEx (.pointer (some ⟨b,0,none⟩)))::(keep++old),oBox b T As::st.own⟩ (wpList P l.toArray Q (l.drop n))) :
  Ent E st ((Code.region id l.toArray true).wp P Q):=by
 refine F_1 n fl hm hn hB hF hsel hS hQ fun a w r=>?_
 refine DW.mono (h w) ?_
 rintro s' ⟨h1,h2⟩ a' w' r' g ag
 obtain ⟨v1,p1,b,cur,rfl,q1,q2,q3,q4,q5⟩:=r'.slots d _ h1
 refine k b a' w' (rep_own (l:=l) (o:=oBox b T As) r r' g ag p1 (fun b' hb=>by cases hb;exact ⟨q2,fun hO=>q1 hO⟩) ⟨cur,q3,q4,fun i A u hA' hu=>⟨hA A (m_G hA') _ _ _ _ _ (q5 i A u hA' hu).1,(q5 i A u hA' hu).2⟩⟩ h2 hpl hold hoff)
end drawsO
section
variable {P : Program} {E : Env} {st : St} {ops : Array Oper} {rest : List Oper} {s : List (Nat × AV)} {own : List Own}
variable {d : Nat} {ty : TypeId} {pos : String} {af : Array Edge} {g : Option (Nat × Bool)}
theorem C_a {T:TypeId} {z:Value} (As:List AV) (hz:∀w,(zeroValue T).run P w = .ok z w) (hl:z.cells.size=As.length)
  (hA:∀h O (i:Nat) (A:AV) (u:Value),As[i]? = some A->z.cells.toList[i]? = some u->A.holds h O u/\u.oneCell'=true) :
  OpOK P E s own ⟨some d,.alloc T,ty,pos,af,g⟩ (aBoxF E.w0.heap.size T As):=by
 intro a w r K Q hK
 have gr:=Grow.alloc w (.cells z.cells T)
 have hrun:(execOp a.eval ⟨some d,.alloc T,ty,pos,af,g⟩).run P w = .ok (.value (.pointer (some ⟨w.heap.size,0,none⟩))) (w.alloc (.cells z.cells T)):=by
  simp [execOp,Instr.alloc,hz,newVar,newRow]
 unfold Oper.wp
 rw [hrun,Oper.upon_value]
 exact hK _ _ gr ⟨w.heap.size,z.cells.toList,rfl,fun hO=>absurd (r.lt _ hO) (by omega),r.world.keep.size,heap_alloc_new w _,by simpa using hl,fun i A u h1 h2=>hA _ _ i A u h1 h2⟩
end
section
variable {P : Program} {E : Env} {st : St} {ops : Array Oper} {rest : List Oper} {s : List (Nat × AV)} {own : List Own}
variable {d : Nat} {ty : TypeId} {pos : String} {af : Array Edge} {g : Option (Nat × Bool)}
theorem E_k {dd:Option Tmp} {f:FuncId} {xs:List Operand} {tys:Array TypeId} {As:List AV} {A:AV} (ls:List Nat)
  (c:CtrF P f As A) (hx:ArgsA E s own (fun b=>OO E own b/\¬Lent own ls b) xs As):OpOK P E s own ⟨dd,.call { callee:=.value (.func f),args:=xs.toArray,argTypes:=tys },ty,pos,af,g⟩ (aFr E.w0.heap.size A):=by
 intro a w r K Q hK
 have hrun:(execOp a.eval ⟨dd,.call { callee:=.value (.func f),args:=xs.toArray,argTypes:=tys },ty,pos,af,g⟩).run P w = .ok (.enter f (xs.map a.eval).toArray) w:=by
  simp [execOp,resolve,Act.eval,Deferred.ofValue,invoke,c.1]
 unfold Oper.wp
 rw [hrun,Oper.upon_enter]
 refine (c.2 w (fun b=>OO E own b/\¬Lent own ls b) _ (fun b hb=>r.lt b hb.1) (hx.holds r (fun x hx=>by simp [Op.operands,Call.operands,hx]))).mono ?_
 rintro e w' ⟨v,rfl,hA,hg⟩
 refine hK v w' hg ?_
 show A.holds w'.heap (fun b=>OO E own b\/b<E.w0.heap.size) v
 exact AV.less hA (fun b _ hb=>hb.elim (r.lt b) (fun hb=>Nat.lt_of_lt_of_le hb r.world.keep.size))
end
section draws4
variable {P : Program} {E : Env} {own : List Own}
variable {s : List (Nat × AV)} {D : Nat -> Nat} {A : Nat -> AV} {l : List Oper} {n f f2 : Nat} {listed : Array Bool} {a : Act} {w : World}
def flB2 (l:List Oper) (n:Nat) (fl:List Nat) (q:Nat):Bool :=
 let ops:=l.toArray
 (fl.all fun i=>Nat.ble (i+1) n && (match ops[i]? with
  | some oi=>pureOp oi && (oi.after.all fun e=>!(Region.binds .any e)) && ((List.range l.length).all fun j=>Nat.beq j i || waits ops l.length i j || (match ops[j]? with
   | some oj=>oj.after.any (fun e=>Region.binds .any e && e.on == i) || oi.apart ops oj
   | none=>true))
  | none=>false)) &&
 ((List.range l.length).all fun j=>!(Nat.ble n j) || ((List.range n).all fun i=>fl.contains i || Nat.beq i q || waits ops l.length j i))
theorem flB2_spec {fl:List Nat} {q:Nat} (h:flB2 l n fl q=true) :
  (∀i∈fl,i<n/\∃oi,l[i]? = some oi/\pureOp oi=true/\∀listed:Array Bool,listed.size=l.length->Closed l.toArray listed->i∈Region.ready .any l.toArray listed->Region.free .any l.toArray listed i=true) /\
  (∀j,n<=j->j<l.length->∀i,i<n->i∉fl->i≠q->waits l.toArray l.length j i=true) /\
  (∀i∈fl,∀listed:Array Bool,listed.size=l.length->listed.getD i false=false->i∈Region.ready .any l.toArray listed):=by
 unfold flB2 at h
 simp only [Bool.and_eq_true] at h
 obtain ⟨h1,h2⟩:=h
 refine ⟨fun i hi=>?_,fun j hj hjl i hin hfl hiq=>?_,fun i hi listed hsz hun=>?_⟩
 ·have h3:=List.all_eq_true.1 h1 i hi
  rw [Bool.and_eq_true] at h3
  refine ⟨b_L h3.1,?_⟩
  have h4:=h3.2
  cases hoi:l.toArray[i]? with
  | none=>rw [hoi] at h4;cases h4
  | some oi =>
   rw [hoi] at h4
   simp only [Bool.and_eq_true] at h4
   refine ⟨oi,by simpa using hoi,h4.1.1,fun listed hsz hcl hrd=>?_⟩
   unfold Region.free
   rw [hoi]
   simp only
   rw [List.all_eq_true]
   intro j hj
   have h5:=List.all_eq_true.1 h4.2 j (by simpa using hj)
   rw [Bool.or_eq_true,Bool.or_eq_true] at h5
   rcases h5 with (h5 | h5) | h5
   ·have:=Nat.eq_of_beq_eq_true h5
    subst this;simp
   ·obtain ⟨_,oi',hoi',hall⟩:=mem_ready.1 hrd
    have hlj:=B_o hcl _ i j h5 (fun o ho=>by rw [hoi'] at ho;cases ho;exact hall)
    have hj':j<listed.size:=by rw [hsz];simpa using hj
    rw [C_u hj',hlj];simp
   ·cases hoj:l.toArray[j]? with
    | none=>simp
    | some oj =>
     rw [hoj] at h5
     simp only at h5 ⊢
     rw [h5];simp
 ·have h3:=List.all_eq_true.1 h2 j (List.mem_range.2 hjl)
  rw [Nat.ble_eq_true_of_le hj] at h3
  simp only [Bool.not_true,Bool.false_or] at h3
  have h4:=List.all_eq_true.1 h3 i (List.mem_range.2 hin)
  rw [Bool.or_eq_true,Bool.or_eq_true] at h4
  rcases h4 with (h4 | h4) | h4
  ·exact absurd (by simpa using h4) hfl
  ·exact absurd (Nat.eq_of_beq_eq_true h4) hiq
  ·exact h4
 ·have h3:=List.all_eq_true.1 h1 i hi
  rw [Bool.and_eq_true] at h3
  have h4:=h3.2
  cases hoi:l.toArray[i]? with
  | none=>rw [hoi] at h4;cases h4
  | some oi =>
   rw [hoi] at h4
   simp only [Bool.and_eq_true] at h4
   have hil:i<l.length:=by have:=(Array.getElem?_eq_some_iff.1 hoi).1;simpa using this
   refine mem_ready.2 ⟨by rw [C_u (by rw [hsz];exact hil)];exact hun,oi,hoi,fun e he hb=>?_⟩
   have:=Array.all_eq_true'.1 h4.1.2 e he
   rw [hb] at this;simp at this
theorem draw_go4 {Q:Exit->Act->World->Prop} {g:Nat} {fl:List Nat} {q:Nat} (hB:drawF l n f2=true) (hF:flB2 l n fl q=true) (hsel:Region.noSelect l.toArray=true) (hQ:∀c a w (d:Nat) v,Q (.panic c) (a.put (some d) v) w->Q (.panic c) a w)
  (hn:n<=l.length) (hspec:∀k o,k<n->l[k]? = some o->o.dst=some (D k)/\D k<E.n/\Spec P E own l.toArray (stt s D A k) o (A k))
  (I:Act->World->Prop) (hI:∀(j:Nat) (oj:Oper) (v:Value) (a:Act) (w w':World),j<n->l[j]? = some oj->Grow w w'->I a w->I (a.put oj.dst v) w') (hlate:∀listed a w,I a w->DInv E own s D A l n 0 listed a w->(∀i,i<n->i≠q->listed.getD i false=true)->listed.getD q false=false->∀j,n<=j->j∈Region.ready .any l.toArray listed ->
   wpOp P l.toArray Q j (wpAny P .any l.toArray Q g (listed.setIfInBounds j true)) a w)
  (hend:∀listed a w,I a w->DInv E own s D A l n 0 listed a w->(∀i,i<n->listed.getD i false=true)->wpAny P .any l.toArray Q g listed a w) :
  ∀(c:Nat) (listed:Array Bool) (a:Act) (w:World),((List.range n).filter fun i=>!(listed.getD i false)).length=c->I a w->DInv E own s D A l n 0 listed a w ->
   wpAny P .any l.toArray Q (c+g) listed a w
 | 0,listed,a,w,hc,hgr,inv=>by
  rw [Nat.zero_add]
  refine hend listed a w hgr inv fun i hi=>?_
  have hnil:=List.eq_nil_of_length_eq_zero hc
  have:=List.filter_eq_nil_iff.1 hnil i (List.mem_range.2 hi)
  simpa using this
 | c+1,listed,a,w,hc,hgr,inv=>by
  obtain ⟨hord,hlow⟩:=B_z hB
  obtain ⟨hfl1,hfl2,hfl3⟩:=flB2_spec hF
  have hex:∃j,j<n/\listed.getD j false=false:=by
   cases hl:(List.range n).filter fun i=>!(listed.getD i false) with
   | nil=>rw [hl] at hc;simp at hc
   | cons j r =>
    have : j∈(List.range n).filter fun i=>!(listed.getD i false):=by rw [hl];simp
    simp only [List.mem_filter,List.mem_range] at this
    exact ⟨j,this.1,by simpa using this.2⟩
  have hleast:∃k,k<n/\listed.getD k false=false/\∀i,i<k->listed.getD i false=true:=by
   obtain ⟨j,hj1,hj2⟩:=hex
   clear hc
   induction j using Nat.strongRecOn with
   | _ j ih =>
    by_cases h:∀i,i<j->listed.getD i false=true
    ·exact ⟨j,hj1,hj2,h⟩
    ·simp only [Classical.not_forall] at h
     obtain ⟨i,h1,h2⟩:=h
     exact ih i h1 (by omega) (by simpa using h2)
  have hrdy:∀k,k<n->listed.getD k false=false->(∀i,i<k->listed.getD i false=true)->k∈Region.ready .any l.toArray listed:=by
   intro k hk1 hk2 hk3
   have hkl:k<l.length:=by omega
   have hok:l[k]? = some l[k]:=g_E hkl
   exact mem_ready.2 ⟨by rw [C_u (by rw [inv.sz];exact hkl)];exact hk2,l[k],by simp [hok],fun e he hb=>hk3 _ (hlow k _ hok e he hb)⟩
  have hready:Region.ready .any l.toArray listed≠[]:=by
   obtain ⟨k,hk1,hk2,hk3⟩:=hleast
   intro h0
   have:=hrdy k hk1 hk2 hk3
   rw [h0] at this;cases this
  rw [show c+1+g=(c+g)+1 by omega]
  have each:∀j,j∈Region.ready .any l.toArray listed->j<n->∃oj,l[j]? = some oj/\OpR E (stt s D A j) own oj a w /\
    (∀v w',Grow w w'->(A j).holds w'.heap (OO E own) v->wpAny P .any l.toArray Q (c+g) (listed.setIfInBounds j true) (a.put oj.dst v) w')/\listed.getD j false=false /\
    (∀e∈oj.after,Region.binds .any e=true->listed.getD e.on false=true):=by
   intro j hj hjn
   obtain ⟨hun',oj,hoj',hall⟩:=mem_ready.1 hj
   have hoj:l[j]? = some oj:=by simpa using hoj'
   have hjl:j<l.length:=(g_S hoj).1
   have hun:listed.getD j false=false:=by rw [<- C_u (by rw [inv.sz];exact hjl)];exact hun'
   have hcount:((List.range n).filter fun i=>!((listed.setIfInBounds j true).getD i false)).length=c:=by
    have key:∀m,m<=n->((List.range m).filter fun i=>!((listed.setIfInBounds j true).getD i false)).length+(if j<m then 1 else 0)=((List.range m).filter fun i=>!(listed.getD i false)).length:=by
     intro m
     induction m with
     | zero=>intro _;simp
     | succ m ih =>
      intro hm
      have:=ih (by omega)
      rw [List.range_succ,List.filter_append,List.filter_append,l_A,l_A]
      by_cases hmj:m=j
      ·subst hmj
       have h1:(listed.setIfInBounds m true).getD m false=true:=by simp [inv.sz,hjl]
       rw [i_N (by omega)] at this
       simp only [List.filter_cons,h1,hun,List.filter_nil]
       simp at this ⊢
       omega
      ·have e0:(listed.setIfInBounds j true).getD m false=listed.getD m false:=getD_set_ne false (fun h=>hmj h.symm)
       have e1:(if j<m+1 then 1 else 0)=(if j<m then 1 else 0:Nat):=by
        by_cases hjm:j<m
        ·have : j<m+1:=by omega
         simp [hjm,this]
        ·have : ¬j<m+1:=by omega
         simp [hjm,this]
       rw [e1,List.filter_cons,List.filter_cons,e0]
       simp only [List.filter_nil]
       omega
    have:=key n (Nat.le_refl _)
    rw [i_P hjn,hc] at this
    omega
   have hopR:OpR E (stt s D A j) own oj a w:=⟨inv.world,fun x hx B hB'=>by
    cases x with
    | tmp t =>
     have ht:t∈namesOf l.toArray oj:=by
      unfold namesOf
      refine List.mem_append_left _ (List.mem_append_right _ ?_)
      exact List.mem_filterMap.2 ⟨.tmp t,by simpa using hx,rfl⟩
     obtain ⟨v,h1,h2⟩:=inv.slot2 hn hB hspec hoj hjn hun hall ht hB'
     show B.holds _ _ (a.tmps.getD t undef)
     rw [Array.getD_eq_getD_getElem?,h1]
     exact h2
    | const v=>simp only [opd,Option.some.injEq] at hB';subst hB';rfl
    | global g=>simp only [opd,Option.some.injEq] at hB';subst hB';rfl
    | func f=>simp only [opd,Option.some.injEq] at hB';subst hB';rfl⟩
   exact ⟨oj,hoj,hopR,fun v w' gr hv=>draw_go4 hB hF hsel hQ hn hspec I hI hlate hend c _ _ _ hcount (hI j oj v a w w' hjn hoj gr hgr) (inv.step2 hB hn hspec hoj hjn hall gr hv),hun,hall⟩
  by_cases hfl:∃i∈fl,i∈Region.ready .any l.toArray listed
  ·obtain ⟨i,hi1,hi2⟩:=hfl
   obtain ⟨hin,oi,hoi,hpure,hfree⟩:=hfl1 i hi1
   obtain ⟨oj,hoj,hopR,hnext,_,_⟩:=each i hi2 hin
   rw [hoi] at hoj;cases hoj
   obtain ⟨hd1,hd2,hsp⟩:=hspec i oi hin hoi
   have hgd:oi.guard=none:=by
    rcases oi with ⟨dst,op,ty,pos,af,g⟩
    cases dst <;> cases op <;> cases g <;> simp [pureOp] at hpure <;> rfl
   unfold Spec at hsp
   rw [hgd] at hsp
   obtain ⟨v,hy,hv⟩:=E_M (ops:=l.toArray) hd1 hpure hsp hopR (by rw [inv.size];exact hd2)
   exact wpAny_take (by simpa using hoi) hsel (hfree listed inv.sz inv.closed hi2) (by simpa using hi2) (fun c a w h=>by rw [hd1] at h;exact hQ c a w _ _ h) hy (hnext v w (Grow.refl w) hv)
  ·refine ⟨fun h0=>absurd h0 hready,fun j hj=>?_⟩
   by_cases hjn:j<n
   case neg =>
    have hjn':n<=j:=Nat.le_of_not_lt hjn
    obtain ⟨hun',oj,hoj',hall⟩:=mem_ready.1 hj
    have hoj:l[j]? = some oj:=by simpa using hoj'
    have hjl:j<l.length:=(g_S hoj).1
    have hothers:∀i,i<n->i≠q->listed.getD i false=true:=by
     intro i hi hiq
     by_cases hif:i∈fl
     ·cases hli:listed.getD i false with
      | true=>rfl
      | false=>exact absurd ⟨i,hif,hfl3 i hif listed inv.sz hli⟩ hfl
     ·have hw:=hfl2 j hjn' hjl i hi hif hiq
      exact B_o inv.closed _ j i hw (fun oj' h'=>by
       have : oj'=oj:=by simp only [List.getElem?_toArray] at h';rw [hoj] at h';exact (Option.some.inj h').symm
       subst this;exact hall)
    have hq2:listed.getD q false=false:=by
     cases hlq:listed.getD q false with
     | false=>rfl
     | true =>
      exfalso
      obtain ⟨k,hk1,hk2,_⟩:=hleast
      by_cases hkq:k=q
      ·subst hkq;rw [hlq] at hk2;cases hk2
      ·rw [hothers k hk1 hkq] at hk2;cases hk2
    have hc0:c=0:=by
     have hle:((List.range n).filter fun i=>!(listed.getD i false)).length<=1:=by
      have hnd:((List.range n).filter fun i=>!(listed.getD i false)).Nodup:=List.Pairwise.sublist List.filter_sublist List.nodup_range
      have hall':∀x∈((List.range n).filter fun i=>!(listed.getD i false)),x=q:=fun x hx=>by
       simp only [List.mem_filter,List.mem_range] at hx
       exact Classical.byContradiction fun hne=>by have:=hothers x hx.1 hne;rw [this] at hx;simp at hx
      generalize ((List.range n).filter fun i=>!(listed.getD i false))=L at hnd hall'
      match L,hnd,hall' with
      | [],_,_=>simp
      | [x],_,_=>simp
      | x::y::r,hnd,hall' =>
       have h1:=hall' x (by simp)
       have h2:=hall' y (by simp)
       subst h1 h2
       simp at hnd
     omega
    subst hc0
    have:=hlate listed a w hgr inv hothers hq2 j hjn' hj
    simpa using this
   obtain ⟨oj,hoj,hopR,hnext,hun,hall⟩:=each j hj hjn
   have hoj':l.toArray[j]? = some oj:=by simpa using hoj
   obtain ⟨hd1,hd2,hsp⟩:=hspec j oj hjn hoj
   unfold wpOp
   rw [hoj']
   dsimp only
   unfold Spec at hsp
   split at hsp
   ·rename_i hgd
    rw [i_P (by simp [Region.wanted,hgd])]
    exact .inl (hsp a w hopR _ _ hnext)
   ·rename_i jg want hgd
    obtain ⟨dj,gg,h1,h2,h3⟩:=hsp
    have hname:dj∈namesOf l.toArray oj:=by
     unfold namesOf
     refine List.mem_append_right _ ?_
     rw [hgd]
     simp only [h1]
     simp
    obtain ⟨v,hv1,hv2⟩:=inv.slot2 hn hB hspec hoj hjn hun hall hname h2
    have hy:yielded l.toArray a.tmps jg=gg:=F_Z h1 hv1 hv2
    rcases h3 with ⟨h4,h5⟩ | ⟨h4,h5⟩
    ·rw [i_P (by simp [Region.wanted,hgd,hy,h4])]
     exact .inl (h5 a w hopR _ _ hnext)
    ·rw [i_N (by simp [Region.wanted,hgd,hy,h4])]
     exact hnext undef w (Grow.refl w) (h5.holds _ _)
theorem DInv.end3 {q:Nat} {sm:List (Nat×AV)} (inv:DInv E own s D A l n f listed a w) (hB:drawF l n f2=true) (hn:n<=l.length) (hspec:∀k o,k<n->l[k]? = some o->o.dst=some (D k)/\D k<E.n/\Spec P E own l.toArray (stt s D A k) o (A k))
  (hall:∀i,i<n->i≠q->listed.getD i false=true) (hsm:SubS sm (stt s D A n)) (hoff:offB [D q] sm=true):Rep E ⟨sm,own⟩ a w:=by
 obtain ⟨hord,_⟩:=B_z hB
 refine ⟨inv.size,inv.defers,fun t B hlook0=>?_,inv.world.own,inv.world.apart,inv.world.free,inv.world.xold,inv.world.keep⟩
 have hlook:look (stt s D A n) t=some B:=hsm.look hlook0
 have htq:t≠D q:=fun e=>G_s hoff hlook0 (by rw [e];exact List.mem_cons_self)
 by_cases hex:∃i,i<n/\D i=t
 ·obtain ⟨i,hin,hit⟩:=hex
  have hil:i<l.length:=by omega
  have hoi:l[i]? = some l[i]:=g_E hil
  have hdi:=(hspec i _ (by omega) hoi).1
  have hl2:look (stt s D A n) (D i)=some (A i):=C_i n hin fun k hk1 hk2 hk3=>by
   have hkl:k<l.length:=by omega
   have hok:l[k]? = some l[k]:=g_E hkl
   have:=(hord i k _ _ hk1 hoi hok).2.2 (by omega) (D i) hdi
   rw [(hspec k _ (by omega) hok).1] at this
   exact this (by rw [hk3])
  rw [<- hit,hl2] at hlook
  cases hlook
  rw [<- hit]
  exact inv.done i hin (hall i hin fun e=>htq (by rw [<- hit,e]))
 ·have hno:∀i,i<n->D i≠t:=fun i h1 h2=>hex ⟨i,h1,h2⟩
  rw [C_j n hno] at hlook
  exact inv.base t B hlook fun i hin _=>hno i hin
def QK (Q:Exit->Act->World->Prop) (K:Act->World->Prop):Exit->Act->World->Prop
 | .normal=>K
 | e=>Q e
theorem wpList_QK {ops:Array Oper} {Q:Exit->Act->World->Prop} {K:Act->World->Prop} {j:Nat} {o:Oper} (ho:ops[j]? = some o) (h:wpList P ops (QK Q K) [o] a w):wpOp P ops Q j K a w:=by
 have hw:wpOp P ops (QK Q K) j (wpList P ops (QK Q K) []) a w:=by unfold wpOp;simp only [ho];exact h
 exact wpOp_fr (fun a' w' _ h=>h) (fun _ _ _ h=>h) (fun h=>h) hw
theorem wpList_op {ops:Array Oper} {Q:Exit->Act->World->Prop} {j:Nat} {o:Oper} {rest:List Oper} (ho:ops[j]? = some o) (h:wpList P ops Q (o::rest) a w):wpOp P ops Q j (wpList P ops Q rest) a w:=by
 unfold wpOp;simp only [ho];exact h
def headL (n m:Nat):Array Bool:=Array.replicate n true++Array.replicate m false
theorem E_0 (n m:Nat):(headL n m).size=n+m:=by simp [headL]
theorem E_s (n m i:Nat):(headL n m)[i]? = if i<n then some true else if i<n+m then some false else none:=by
 unfold headL
 rw [Array.getElem?_append]
 simp only [Array.size_replicate,Array.getElem?_replicate]
 by_cases h:i<n
 ·simp [h]
 ·simp only [i_N h]
  by_cases h2:i<n+m
  ·rw [i_P h2,i_P (by omega)]
  ·rw [i_N h2,i_N (by omega)]
theorem headL_q {m k q:Nat} (hq:q<m):((headL m k).setIfInBounds q false).setIfInBounds q true=headL m k:=by
 apply Array.ext_getElem?
 intro i
 rw [Array.getElem?_setIfInBounds,Array.getElem?_setIfInBounds,Array.size_setIfInBounds,E_0,E_s]
 by_cases h:q=i
 ·subst h
  rw [i_P rfl,i_P (by omega),i_P hq]
 ·rw [i_N h,i_N h]
theorem headL_succ {m k q:Nat} (hq:q<m) (hk:0<k):((headL m k).setIfInBounds q false).setIfInBounds m true=(headL (m+1) (k-1)).setIfInBounds q false:=by
 apply Array.ext_getElem?
 intro i
 rw [Array.getElem?_setIfInBounds,Array.getElem?_setIfInBounds,Array.getElem?_setIfInBounds,Array.size_setIfInBounds,E_0,E_0,E_s,E_s]
 by_cases h:m=i
 ·subst h
  rw [i_P rfl,i_P (by omega),i_N (by omega:¬q=m),i_P (by omega:m<m+1)]
 ·rw [i_N h]
  by_cases h2:q=i
  ·subst h2
   rw [i_P rfl,i_P rfl,i_P (by omega),i_P (by omega)]
  ·rw [i_N h2,i_N h2]
   by_cases h3:i<m
   ·rw [i_P h3,i_P (by omega)]
   ·rw [i_N h3,i_N (by omega:¬i<m+1),show m+1+(k-1)=m+k by omega]
theorem ent_drawL2 {st:St} {Q:Exit->Act->World->Prop} {id:Nat} {l:List Oper} (n:Nat) (fl:List Nat) (q dq:Nat) (sm:List (Nat×AV)) {oq t0 t1:Oper} (hm:P.follows .mixedOrders=true) (hn:Nat.ble (n+2) l.length=true) (hq:Nat.ble (q+1) n=true) (hB:drawF l n n=true) (hF:flB2 l n fl q=true) (hsel:Region.noSelect l.toArray=true)
  (hoq:l[q]? = some oq) (hdq:oq.dst=some dq) (ht0:l[n]? = some t0) (ht1:l[n+1]? = some t1)
  (hS:Region.seqB .any l.toArray (l.length-n) n (headL n (l.length-n))=true) (hS1:Region.seqB .any l.toArray (l.length-(n+1)) (n+1) (headL (n+1) (l.length-(n+1)))=true) (hS2:Region.seqB .any l.toArray (l.length-(n+2)) (n+2) (headL (n+2) (l.length-(n+2)))=true)
  (hR0:(Region.ready .any l.toArray ((headL n (l.length-n)).setIfInBounds q false)).all (fun i=>Nat.beq i q || Nat.beq i n)=true)
  (hR1:(Region.ready .any l.toArray ((headL (n+1) (l.length-(n+1))).setIfInBounds q false)).all (fun i=>Nat.beq i q || Nat.beq i (n+1))=true)
  (hR2:(Region.ready .any l.toArray ((headL (n+2) (l.length-(n+2))).setIfInBounds q false)).all (fun i=>Nat.beq i q)=true)
  (hN1:(Region.ready .any l.toArray ((headL (n+1) (l.length-(n+1))).setIfInBounds q false)).isEmpty=false) (hN2:(Region.ready .any l.toArray ((headL (n+2) (l.length-(n+2))).setIfInBounds q false)).isEmpty=false)
  (hQ:∀c a w (d:Nat) v,Q (.panic c) (a.put (some d) v) w->Q (.panic c) a w) (hoff:offB [dq] sm=true)
  (h:DW P E st.own l.toArray (l.take n) st.slots (fun s'=>SubS sm s'/\Ent E ⟨s',st.own⟩ (wpList P l.toArray Q (l.drop n))))
  (k:Ent E ⟨sm,st.own⟩ (wpList P l.toArray (QK Q fun a w=>wpList P l.toArray Q (oq::l.drop (n+1)) a w/\wpList P l.toArray (QK Q (wpList P l.toArray Q (oq::l.drop (n+2)))) [t1] a w) [t0])) :
  Ent E st ((Code.region id l.toArray true).wp P Q):=by
 intro a w r
 have hnl2:n+2<=l.length:=b_L hn
 have hnl:n<=l.length:=by omega
 have hqn:q<n:=b_L hq
 obtain ⟨D,A,h1,h2,h3⟩:=dw_fun l.toArray _ _ _ h
 have hlen:(l.take n).length=n:=by simp [hnl]
 rw [hlen] at h2 h3
 have hspec:∀k o,k<n->l[k]? = some o->o.dst=some (D k)/\D k<E.n/\Spec P E st.own l.toArray (stt st.slots D A k) o (A k):=fun k o hk ho=>h1 k o (by rw [List.getElem?_take,i_P hk];exact ho)
 have hDq:D q=dq:=by
  have:=(hspec q oq hqn hoq).1
  rw [hdq] at this
  exact (Option.some.inj this).symm
 refine wp_region_any hm ?_
 have r1:Rep E st a w.drew:=r.grow (Grow.drew w)
 have inv:=D_i (D:=D) (A:=A) (l:=l) (n:=n) r1
 have h0:(Array.replicate 0 true++Array.replicate (l.length-0) false)=Array.replicate l.length false:=by simp
 rw [h0] at inv
 have hcount:((List.range n).filter fun i=>!((Array.replicate l.length false).getD i false)).length=n:=by
  have : ∀i,(Array.replicate l.length false).getD i false=false:=fun i=>by
   rw [Array.getD_eq_getD_getElem?]
   by_cases hi:i<l.length
   ·simp [hi]
   ·simp [hi]
  rw [List.filter_eq_self.2 (fun i _=>by simp [this i])];simp
 have hset:∀m,m<=l.length->n<=m->((headL m (l.length-m)).setIfInBounds q false).setIfInBounds q true=headL m (l.length-m):=fun m hm hnm=>headL_q (by omega)
 have hset2:∀m,m<l.length->n<=m->((headL m (l.length-m)).setIfInBounds q false).setIfInBounds m true=(headL (m+1) (l.length-(m+1))).setIfInBounds q false:=fun m hm hnm=>by
  rw [headL_succ (by omega) (by omega),show l.length-m-1=l.length-(m+1) by omega]
 have hdl:∀m,(l.drop m).length=l.length-m:=fun m=>by simp
 have fire:∀m a w,m<=l.length->n<=m->Region.seqB .any l.toArray (l.length-m) m (headL m (l.length-m))=true->wpList P l.toArray Q (oq::l.drop m) a w ->
   wpOp P l.toArray Q q (wpAny P .any l.toArray Q (l.length-m) (((headL m (l.length-m)).setIfInBounds q false).setIfInBounds q true)) a w:=fun m a w hm hnm hs hh=>by
  rw [hset m hm hnm]
  refine wpOp_mono (fun a' w' h'=>?_) (wpList_op (show l.toArray[q]? = some oq by simpa using hoq) hh)
  have:=wpAny_of_seq (Q':=Q) (l.drop m) m (headL m (l.length-m)) a' w' (fun j=>by simp [g_D]) (by rw [hdl];exact hs) h'
  rw [hdl] at this;exact this
 have:=draw_go4 (P:=P) (Q:=Q) (g:=l.length-n) hB hF hsel hQ hnl hspec (fun _ _=>True) (fun _ _ _ _ _ _ _ _ _ _=>trivial) ?_ ?_ n _ a w.drew hcount trivial inv
 ·rw [show n+(l.length-n)=l.length by omega] at this
  simpa using this
 ·intro listed a' w' _ inv' hall hunq j hj hjr
  have hrep:Rep E ⟨sm,st.own⟩ a' w':=inv'.end3 hB hnl hspec hall h2 (by rw [hDq];exact hoff)
  have hlisted:listed=(headL n (l.length-n)).setIfInBounds q false:=by
   apply Array.ext_getElem?
   intro i
   rw [Array.getElem?_setIfInBounds,E_0,E_s]
   by_cases hil:i<l.length
   ·have hi1:i<listed.size:=by rw [inv'.sz];exact hil
    have hd:listed.getD i false=listed[i]:=by simp [hi1]
    rw [Array.getElem?_eq_getElem hi1,<- hd]
    by_cases hiq:q=i
    ·subst hiq;rw [hunq,i_P rfl,i_P (by omega)]
    ·rw [i_N hiq]
     rcases Nat.lt_or_ge i n with h | h
     ·rw [hall i h (Ne.symm hiq),i_P h]
     ·rw [inv'.tail i h,i_N (by omega),i_P (by omega)]
   ·rw [Array.getElem?_eq_none (by rw [inv'.sz];omega),i_N (by omega),i_N (by omega),i_N (by omega)]
  rw [hlisted] at hjr ⊢
  have hj0:=List.all_eq_true.1 hR0 j hjr
  rw [Bool.or_eq_true] at hj0
  have hjn:j=n:=by
   rcases hj0 with h | h
   ·have:=Nat.eq_of_beq_eq_true h;omega
   ·exact Nat.eq_of_beq_eq_true h
  subst hjn
  rw [hset2 j (by omega) (Nat.le_refl _)]
  refine wpOp_mono (fun a1 w1 h1'=>?_) (wpList_QK (show l.toArray[j]? = some t0 by simpa using ht0) (k a' w' hrep))
  obtain ⟨p1,p2⟩:=h1'
  rw [show l.length-j=(l.length-(j+1))+1 by omega]
  refine ⟨fun h0=>(by rw [h0] at hN1;cases hN1),fun i hi=>?_⟩
  have hi0:=List.all_eq_true.1 hR1 i hi
  rw [Bool.or_eq_true] at hi0
  rcases hi0 with hi0 | hi0
  ·have:=Nat.eq_of_beq_eq_true hi0
   subst this
   exact fire (j+1) a1 w1 (by omega) (by omega) hS1 p1
  ·have:=Nat.eq_of_beq_eq_true hi0
   subst this
   rw [hset2 (j+1) (by omega) (by omega)]
   refine wpOp_mono (fun a2 w2 h2'=>?_) (wpList_QK (show l.toArray[j+1]? = some t1 by simpa using ht1) p2)
   rw [show l.length-(j+1)=(l.length-(j+2))+1 by omega]
   refine ⟨fun h0=>(by rw [h0] at hN2;cases hN2),fun i hi=>?_⟩
   have hi1:=List.all_eq_true.1 hR2 i hi
   have:=Nat.eq_of_beq_eq_true hi1
   subst this
   exact fire (j+2) a2 w2 (by omega) (by omega) hS2 h2'
 ·intro listed a' w' _ inv' hall
  have hrep:=inv'.end2 hB hnl hspec hall
  have hlisted:listed=headL n (l.length-n):=by
   apply Array.ext_getElem?
   intro i
   rw [E_s]
   by_cases hil:i<l.length
   ·have hi1:i<listed.size:=by rw [inv'.sz];exact hil
    have hd:listed.getD i false=listed[i]:=by simp [hi1]
    rw [Array.getElem?_eq_getElem hi1,<- hd]
    rcases Nat.lt_or_ge i n with h | h
    ·rw [hall i h,i_P h]
    ·rw [inv'.tail i h,i_N (by omega),i_P (by omega)]
   ·rw [Array.getElem?_eq_none (by rw [inv'.sz];omega),i_N (by omega),i_N (by omega)]
  have:=wpAny_of_seq (Q':=Q) (l.drop n) n listed a' w' (fun j=>by simp [g_D]) (by rw [hdl,hlisted];exact hS) (h3 a' w' hrep)
  rw [hdl] at this;exact this
end draws4
section
variable {E : Env} {st : St}
theorem ent_QK {Q:Exit->Act->World->Prop} {K:Act->World->Prop} (h:Ent E st K):Ent E st (QK Q K .normal):=h
theorem ent_and {A B:Act->World->Prop} (h1:Ent E st A) (h2:Ent E st B):Ent E st (fun a w=>A a w/\B a w):=fun a w r=>⟨h1 a w r,h2 a w r⟩
end
section
variable {P : Program} {E : Env} {st : St} {Q : Exit -> Act -> World -> Prop}
theorem ent_cutE {β:Type} {c:Code} (T:β->St) (φ:β->Prop) (h:Ent E st (c.wp P (QN (fun a w=>∃y,φ y/\Rep E (T y) a w)))) (k:∀y,φ y->Ent E (T y) (Q .normal)):Ent E st (c.wp P Q):=by
 intro a w r
 refine Code.wp_mono ?_ (h a w r)
 intro e a w hq
 cases e <;> first | exact hq.elim | (obtain ⟨y,hy,hr⟩:=hq;exact k y hy _ _ hr)
theorem G_2 {β:Type} {T:β->St} {φ:β->Prop} (y:β) (hy:φ y) (h:Ent E st (Rep E (T y))):Ent E st (fun a w=>∃y,φ y/\Rep E (T y) a w):=fun a w r=>⟨y,hy,h a w r⟩
end
section draws5
variable {P : Program} {E : Env} {own : List Own}
variable {s : List (Nat × AV)} {D : Nat -> Nat} {A : Nat -> AV} {l : List Oper} {n f f2 : Nat} {listed : Array Bool} {a : Act} {w : World}
def DWL (P:Program) (E:Env) (own:List Own):List Oper->List (Nat×AV)->List (Nat×AV)->(List (Nat×AV)->Prop)->Prop
 | [],[],s,K=>K s
 | o::r,(d,A)::ls,s,K=>o.dst=some d/\o.guard=none/\OpOK P E s own o A/\DWL P E own r ls ((d,A)::s) K
 | _,_,_,_=>False
theorem OpOK.eqv {o:Oper} {B C:AV} (h:OpOK P E s own o B) (e:B=C):OpOK P E s own o C:=e ▸ h
def sttL (s:List (Nat×AV)) (Ls:List (Nat×AV)):Nat->List (Nat×AV)
 | 0=>s
 | k+1=>match Ls[k]? with
  | some p=>p::sttL s Ls k
  | none=>sttL s Ls k
theorem F_8 (s:List (Nat×AV)) (p:Nat×AV) (Ls:List (Nat×AV)):∀k,sttL s (p::Ls) (k+1)=sttL (p::s) Ls k
 | 0=>rfl
 | k+1=>by
  have:=F_8 s p Ls k
  show (match (p::Ls)[k+1]? with | some q=>q::sttL s (p::Ls) (k+1) | none=>sttL s (p::Ls) (k+1))=_
  rw [List.getElem?_cons_succ,this]
  rfl
theorem dwl_fun:∀(os:List Oper) (Ls s:List (Nat×AV)) (K:List (Nat×AV)->Prop),DWL P E own os Ls s K ->
  os.length=Ls.length/\(∀(k:Nat) (o:Oper) (p:Nat×AV),os[k]? = some o->Ls[k]? = some p->o.dst=some p.1/\o.guard=none/\OpOK P E (sttL s Ls k) own o p.2)/\K (sttL s Ls os.length)
 | [],[],s,K,h=>⟨rfl,fun k o p hk=>by simp at hk,h⟩
 | o::os,(d,A)::Ls,s,K,h=>by
  obtain ⟨h1,h2,h3,h4⟩:=h
  obtain ⟨g1,g2,g3⟩:=dwl_fun os Ls _ K h4
  refine ⟨by simp [g1],fun k o' p hk hp=>?_,?_⟩
  ·cases k with
   | zero =>
    simp only [List.getElem?_cons_zero,Option.some.injEq] at hk hp
    subst hk;subst hp
    exact ⟨h1,h2,h3⟩
   | succ k =>
    simp only [List.getElem?_cons_succ] at hk hp
    rw [F_8]
    exact g2 k o' p hk hp
  ·rw [List.length_cons,F_8];exact g3
 | [],_::_,_,_,h=>h.elim
 | _::_,[],_,_,h=>h.elim
theorem F_C:∀(late:List Nat) (listed:Array Bool) (j:Nat),late.Nodup->j∈late->j<listed.size->listed.getD j false=false ->
  (late.filter fun i=>!(listed.getD i false)).length=(late.filter fun i=>!((listed.setIfInBounds j true).getD i false)).length+1
 | [],_,_,_,h,_,_=>by cases h
 | x::late,listed,j,hn,hj,hs,hu=>by
  obtain ⟨hx,hn2⟩:=List.nodup_cons.1 hn
  by_cases hxj:x=j
  ·subst hxj
   have h1:(listed.setIfInBounds x true).getD x false=true:=by simp [hs]
   have h2:(late.filter fun i=>!((listed.setIfInBounds x true).getD i false))=late.filter fun i=>!(listed.getD i false):=by
    apply List.filter_congr
    intro i hi
    rw [getD_set_ne false (fun e=>hx (by rw [e];exact hi))]
   rw [List.filter_cons,List.filter_cons,h1,hu,h2]
   simp
  ·have ih:=F_C late listed j hn2 ((List.mem_cons.1 hj).resolve_left fun e=>hxj e.symm) hs hu
   have h1:(listed.setIfInBounds j true).getD x false=listed.getD x false:=getD_set_ne false (fun e=>hxj e.symm)
   rw [List.filter_cons,List.filter_cons,h1]
   split
   ·rw [List.length_cons,List.length_cons,ih]
   ·exact ih
end draws5
section
variable {P : Program} {E : Env}
theorem look_mem {i:Nat} {B:AV}:∀ {s:List (Nat×AV)},look s i=some B->∃p∈s,p.2=B
 | [],h=>by cases h
 | (j,C)::s,h=>by
  rw [C_b] at h
  by_cases hj:j=i
  ·rw [i_P hj] at h;exact ⟨_,List.mem_cons_self,Option.some.inj h⟩
  ·rw [i_N hj] at h
   obtain ⟨p,hp,he⟩:=look_mem h
   exact ⟨p,List.mem_cons_of_mem _ hp,he⟩
theorem rep_owns {st:St} {s':List (Nat×AV)} {a a':Act} {w w':World} {l:List Oper} {news:List Own} {T keep old:List (Nat×AV)} (r:Rep E st a w) (r':Rep (E.re w st.own) ⟨s',st.own⟩ a' w') (g:Grow w w') (ag:agreeOff (dstsOf l) a a')
  (hT:∀i A,look T i=some A->∃v,a'.tmps[i]? = some v/\A.holds w'.heap (OO E (news++st.own)) v) (hnew:∀o∈news,∀b,o.has b->w.heap.size<=b/\¬OO E st.own b) (hap:news.Pairwise fun o o'=>∀b,o.has b->¬o'.has b) (ho:∀o∈news,o.holds w'.heap (OO E (news++st.own)))
  (hkeep:SubS keep s') (hpl:∀p∈keep,Pl p.2) (hold:SubS old st.slots) (hoff:offB (dstsOf l) old=true) :
  Rep E ⟨T++(keep++old),news++st.own⟩ a' w':=by
 have hla:=Own.later r g (news:=news) (fun o' ho' b hb=>(hnew o' ho' b hb).1)
 refine ⟨r'.size,r'.defers,fun i A hi=>?_,fun o' ho'=>?_,?_,fun o' ho' b hb=>?_,r.xold,Keeps.re r r'.keep⟩
 ·have hi:look (T++(keep++old)) i=some A:=hi
  rw [F_R] at hi
  cases hT2:look T i with
  | some B =>
   rw [hT2] at hi
   simp only [Option.some_or,Option.some.injEq] at hi
   subst hi
   exact hT i B hT2
  | none =>
   rw [hT2] at hi
   simp only [Option.none_or] at hi
   rw [F_R] at hi
   cases hk:look keep i with
   | some B =>
    rw [hk] at hi
    simp only [Option.some_or,Option.some.injEq] at hi
    subst hi
    obtain ⟨u,u1,u2⟩:=r'.slots i B (hkeep.look hk)
    have hmem:∃p∈keep,p.2=B:=look_mem hk
    obtain ⟨p,hp,rfl⟩:=hmem
    exact ⟨u,u1,hpl p hp _ _ _ _ _ u2⟩
   | none =>
    rw [hk] at hi
    simp only [Option.none_or] at hi
    obtain ⟨u,u1,u2⟩:=hla.2 i A (hold.look hi)
    exact ⟨u,by rw [ag i (G_s hoff hi)];exact u1,u2⟩
 ·rcases List.mem_append.1 ho' with ho' | ho'
  ·exact ho o' ho'
  ·exact hla.1 o' ho'
 ·rw [List.pairwise_append]
  exact ⟨hap,r.apart,fun o h1 o' h2 b hb hb'=>(hnew o h1 b hb).2 (.inr ⟨o',h2,hb'⟩)⟩
 ·rcases List.mem_append.1 ho' with ho' | ho'
  ·exact ⟨fun hx=>(hnew o' ho' b hb).2 (.inl hx),.inl (Nat.le_trans r.keep.size (hnew o' ho' b hb).1)⟩
  ·exact r.free o' ho' b hb
end
theorem AllPlS.mem:∀ {T:List (Nat×AV)},AllPlS T->∀p∈T,Pl p.2
 | _::_,h,_,.head _=>h.1
 | _::_,h,p,.tail _ hm=>AllPlS.mem h.2 p hm
section
variable {P : Program} {E : Env} {s : List (Nat × AV)} {own : List Own}
variable {d : Nat} {ty : TypeId} {pos : String} {af : Array Edge} {g : Option (Nat × Bool)}
end
section
variable {P : Program} {E : Env}
def moveAt2 (ops:Array Oper) (k:Nat):Bool:=match ops[k]? with
 | some ⟨some _,.move _,_,_,_,none⟩=>true
 | some ⟨some _,.assign _,_,_,_,none⟩=>true
 | some ⟨some _,.extract _ _,_,_,_,none⟩=>true
 | _=>false
def linB2 (ops:Array Oper):List Nat->Array Bool->Bool
 | [],listed=>(Region.ready .any ops listed).isEmpty
 | k::ks,listed=>(decide (Region.ready .any ops listed = [k]) || ((Region.ready .any ops listed).contains k && Region.free .any ops listed k && moveAt2 ops k)) && linB2 ops ks (listed.setIfInBounds k true)
theorem wpList_extract {ops:Array Oper} {Q:Exit->Act->World->Prop} {a:Act} {w:World} {rest:List Oper} {d i:Nat} {x:Operand} {ty:TypeId} {pos:String} {af:Array Edge}
  (h:wpList P ops Q (⟨some d,.extract x i,ty,pos,af,none⟩::rest) a w):∃v,(∀w',(execOp a.eval ⟨some d,.extract x i,ty,pos,af,none⟩).run P w' = .ok (.value v) w')/\wpList P ops Q rest (a.put (some d) v) w:=by
 unfold wpList at h
 simp only [Region.wanted,if_true] at h
 rcases h with h | ⟨h,_⟩
 ·cases hx:a.eval x <;> try (exfalso;simp [Oper.wp,execOp,Instr.extract,hx,Oper.upon] at h;done)
  rename_i vs
  by_cases hi:i<vs.size
  ·refine ⟨vs[i],fun w'=>by simp [execOp,Instr.extract,hx,hi],?_⟩
   simpa [Oper.wp,execOp,Instr.extract,hx,hi,Oper.upon] using h
  ·exfalso
   simp [Oper.wp,execOp,Instr.extract,hx,hi,Oper.upon] at h
 ·exfalso
  have none:¬noRoomEvent∈(#[]:Array Event):=by simp
  cases hx:a.eval x <;> (try (simp [Oper.asks,execOp,Instr.extract,hx] at h;first | exact none h | exact none h.1))
  rename_i vs
  by_cases hi:i<vs.size
  ·simp [Oper.asks,execOp,Instr.extract,hx,hi] at h
   first | exact none h | exact none h.1
  ·simp [Oper.asks,execOp,Instr.extract,hx,hi] at h
   first | exact none h | exact none h.1
theorem lin_go2 {ops:Array Oper} {Q:Exit->Act->World->Prop} (hs:Region.noSelect ops=true) (hQ:∀c a w (d:Nat) v,Q (.panic c) (a.put (some d) v) w->Q (.panic c) a w) :
  ∀(ord:List Nat) (listed:Array Bool) (a:Act) (w:World),linB2 ops ord listed=true->wpList P ops Q (pickOps ops ord) a w->wpAny P .any ops Q ord.length listed a w
 | [],listed,a,w,hB,h=>⟨by simpa [linB2] using hB,h⟩
 | k::ks,listed,a,w,hB,h=>by
  unfold linB2 at hB
  rw [Bool.and_eq_true] at hB
  obtain ⟨hB1,hB2⟩:=hB
  have hk:∃o,ops[k]? = some o:=by
   rw [Bool.or_eq_true] at hB1
   rcases hB1 with h1 | h1
   ·have h2:k∈Region.ready .any ops listed:=by rw [of_decide_eq_true h1];simp
    have : k<ops.size:=by
     unfold Region.ready at h2
     simp only [List.mem_filter,List.mem_range] at h2
     exact h2.1
    exact ⟨_,Array.getElem?_eq_getElem this⟩
   ·simp only [Bool.and_eq_true] at h1
    have h2:=h1.2
    unfold moveAt2 at h2
    cases hc:ops[k]? with
    | none=>rw [hc] at h2;cases h2
    | some o=>exact ⟨o,rfl⟩
  obtain ⟨o,ho⟩:=hk
  have hpk:pickOps ops (k::ks)=o::pickOps ops ks:=by simp [pickOps,ho]
  rw [hpk] at h
  rw [Bool.or_eq_true] at hB1
  rcases hB1 with h1 | h1
  ·have hr:=of_decide_eq_true h1
   refine ⟨fun h2=>(by rw [hr] at h2;cases h2),fun i hi=>?_⟩
   rw [hr] at hi
   have hik:i=k:=by simpa using hi
   subst hik
   have hw:wpOp P ops Q i (wpList P ops Q (pickOps ops ks)) a w:=by unfold wpOp;simp only [ho];exact h
   exact wpOp_mono (fun a' w' h'=>lin_go2 hs hQ ks _ a' w' hB2 h') hw
  ·simp only [Bool.and_eq_true] at h1
   obtain ⟨⟨h2,h3⟩,h4⟩:=h1
   unfold moveAt2 at h4
   rw [ho] at h4
   have key:∀v d,o.dst=some d->Yields P ops o v a->wpList P ops Q (pickOps ops ks) (a.put o.dst v) w->wpAny P .any ops Q (k::ks).length listed a w:=fun v d hd hy hh =>
    wpAny_take ho hs h3 (by simpa using h2) (fun c a w h=>by rw [hd] at h;exact hQ c a w _ _ h) hy (lin_go2 hs hQ ks _ _ _ hB2 hh)
   rcases o with ⟨dst,op,ty,pos,af,g⟩
   cases dst with
   | none=>simp at h4
   | some d =>
    cases op <;> cases g <;> simp at h4
    ·rename_i x
     exact key (a.eval x) d rfl (.inl ⟨by simp [Region.wanted],fun w=>by simp [execOp]⟩) (wpList_move h)
    ·rename_i x
     exact key (a.eval x) d rfl (.inl ⟨by simp [Region.wanted],fun w=>by simp [execOp]⟩) (wpList_assign h)
    ·rename_i x i
     obtain ⟨v,hv,hh⟩:=wpList_extract h
     exact key v d rfl (.inl ⟨by simp [Region.wanted],hv⟩) hh
theorem ent_drawOL {st:St} {Q:Exit->Act->World->Prop} {id:Nat} {l:List Oper} (n:Nat) (fl ord:List Nat) (hm:P.follows .mixedOrders=true) (hn:Nat.ble n l.length=true) (hB:drawF l n l.length=true) (hF:flB l n fl=true) (hsel:Region.noSelect l.toArray=true)
  (hord:Nat.beq ord.length (l.length-n)=true) (hS:linB2 l.toArray ord (Array.replicate n true++Array.replicate (l.length-n) false)=true) (hQ:∀c a w (d:Nat) v,Q (.panic c) (a.put (some d) v) w->Q (.panic c) a w)
  (h:∀(a:Act) (w:World),Rep E st a w->DW P (E.re w st.own) st.own l.toArray (l.take n) st.slots (fun s'=>∀(a':Act) (w':World),Rep (E.re w st.own) ⟨s',st.own⟩ a' w'->Grow w w'->agreeOff (dstsOf l) a a'->wpList P l.toArray Q (pickOps l.toArray ord) a' w')) :
  Ent E st ((Code.region id l.toArray true).wp P Q):=by
 intro a w r
 have hnl:n<=l.length:=b_L hn
 refine wp_region_any hm ?_
 have rr:=(r.grow (Grow.drew w)).re
 obtain ⟨D,A,h1,h2⟩:=dw_fun l.toArray _ _ _ (h a w.drew (r.grow (Grow.drew w)))
 have hlen:(l.take n).length=n:=by simp [hnl]
 rw [hlen] at h2
 have hspec:∀k o,k<n->l[k]? = some o->o.dst=some (D k)/\D k<(E.re w.drew st.own).n/\Spec P (E.re w.drew st.own) st.own l.toArray (stt st.slots D A k) o (A k):=fun k o hk ho=>h1 k o (by rw [List.getElem?_take,i_P hk];exact ho)
 have inv:=D_i (D:=D) (A:=A) (l:=l) (n:=n) rr
 have h0:(Array.replicate 0 true++Array.replicate (l.length-0) false)=Array.replicate l.length false:=by simp
 rw [h0] at inv
 have hcount:((List.range n).filter fun i=>!((Array.replicate l.length false).getD i false)).length=n:=by
  have : ∀i,(Array.replicate l.length false).getD i false=false:=fun i=>by
   rw [Array.getD_eq_getD_getElem?]
   by_cases hi:i<l.length
   ·simp [hi]
   ·simp [hi]
  rw [List.filter_eq_self.2 (fun i _=>by simp [this i])];simp
 have:=E_7 (P:=P) (Q:=Q) (g:=l.length-n) hB hF hsel hQ hnl hspec (fun a' w'=>Grow w.drew w'/\agreeOff (dstsOf l) a a') ?_ ?_ n _ a w.drew hcount ⟨Grow.refl _,fun _ _=>rfl⟩ inv
 ·rw [show n+(l.length-n)=l.length by omega] at this
  simpa using this
 ·intro j oj v a' w1 w2 hj hoj g ⟨hg,ha⟩
  refine ⟨hg.trans g,fun i hi=>?_⟩
  rw [D_J a' _ v i (fun e=>hi ?_)]
  ·exact ha i hi
  ·exact List.mem_filterMap.2 ⟨oj,m_G hoj,e⟩
 ·intro listed a' w' ⟨hg,ha⟩ inv' hall
  have hrep:=inv'.end2 hB hnl hspec hall
  have hlisted:listed=Array.replicate n true++Array.replicate (l.length-n) false:=by
   apply Array.ext
   ·simp [inv'.sz];omega
   ·intro i hi1 hi2
    have hd:listed.getD i false=listed[i]:=by simp [hi1]
    rcases Nat.lt_or_ge i n with h | h
    ·rw [<- hd,hall i h,Array.getElem_append_left (by simpa using h)];simp
    ·rw [<- hd,inv'.tail i h,Array.getElem_append_right (by simpa using h)];simp
  have hgo:=lin_go2 (P:=P) hsel hQ ord listed a' w' (by rw [hlisted];exact hS) (h2 a' w' hrep hg ha)
  rw [Nat.eq_of_beq_eq_true hord] at hgo
  exact hgo
def aNew {β:Type} (n:Nat) (φ:β->Prop) (A:β->AV) (Ws:β->List Own):AV where
 holds h O v:=∃y,φ y/\(A y).holds h (fun b=>O b\/Blks (Ws y) b) v/\(∀o∈Ws y,o.holds h (fun b=>O b\/Blks (Ws y) b))/\(Ws y).Pairwise (fun o o'=>∀b,o.has b->¬o'.has b)/\∀o∈Ws y,∀b,o.has b->¬O b/\n<=b
 mono:=by
  rintro h h' O O' v ⟨y,h1,h2,h3,h4,h5⟩ hs hb ho
  refine ⟨y,h1,(A y).mono _ _ _ _ _ h2 hs (fun b hlt hn=>hb b hlt fun hO=>hn (.inl hO)) (fun b hlt hn=>hn.imp (ho b hlt) id),fun o hm=>?_,h4,fun o hm b hob=>?_⟩
  ·refine o.mono _ _ _ _ (h3 o hm) hs (fun b hlt hn=>?_) (fun b hlt hn=>hn.imp (ho b hlt) id)
   rcases hn with hn | hn
   ·exact hb b hlt fun hO=>hn (.inl hO)
   ·exact hb b hlt (h5 o hm b hn).1
  ·have:=h5 o hm b hob
   exact ⟨fun hO=>this.1 (ho b (o.lt _ _ b (h3 o hm) hob) hO),this.2⟩
variable {s : List (Nat × AV)} {own : List Own} {d : Nat} {ty : TypeId} {pos : String} {af : Array Edge} {g : Option (Nat × Bool)}
theorem F_q {β:Type} {dd:Option Tmp} {f:FuncId} {xs:List Operand} {tys:Array TypeId} {As:List AV} {φ:β->Prop} {A:β->AV} {Ws:β->List Own}
  (c:CtrW P f [] As φ A Ws) (hx:ArgsA E s own (OO E own) xs As):OpOK P E s own ⟨dd,.call { callee:=.value (.func f),args:=xs.toArray,argTypes:=tys },ty,pos,af,g⟩ (aNew E.w0.heap.size φ A Ws):=by
 intro a w r K Q hK
 have hrun:(execOp a.eval ⟨dd,.call { callee:=.value (.func f),args:=xs.toArray,argTypes:=tys },ty,pos,af,g⟩).run P w = .ok (.enter f (xs.map a.eval).toArray) w:=by
  simp [execOp,resolve,Act.eval,Deferred.ofValue,invoke,c.1]
 unfold Oper.wp
 rw [hrun,Oper.upon_enter]
 have hno:∀b,¬Blks [] b:=fun b ⟨o,ho,_⟩=>by cases ho
 have hargs:=hx.holds r (fun x hx=>by simp [Op.operands,Call.operands,hx])
 refine (c.2 w (OO E own) _ (fun b hb=>r.lt b hb) ⟨fun o ho=>by (cases ho),List.Pairwise.nil,fun o ho=>by (cases ho)⟩ ⟨hargs.1,fun i B v hB hv=>AV.less (hargs.2 i B v hB hv) fun b _ hb=>hb.resolve_right (hno b)⟩).mono ?_
 rintro e w' ⟨v,y,rfl,hy,hA,hL,hB,hk⟩
 have hg:Grow w w':=⟨hk.os,hk.tape,hk.output,hk.size,fun b hb=>hk.block b hb (hno b)⟩
 refine hK v w' hg ⟨y,hy,hA,hL.own,hL.apart,fun o ho b hob=>⟨hL.off o ho b hob,?_⟩⟩
 rcases hB o ho b hob with h | h
 ·exact absurd h (hno b)
 ·exact Nat.le_trans r.world.keep.size h
theorem ent_drawW1 {st:St} {Q:Exit->Act->World->Prop} {id:Nat} {l:List Oper} {β:Type} {φ:β->Prop} {A:β->AV} {Ws:β->List Own} (n:Nat) (fl ord:List Nat) (d:Nat) (keep old:List (Nat×AV)) (hm:P.follows .mixedOrders=true) (hn:Nat.ble n l.length=true) (hB:drawF l n l.length=true) (hF:flB l n fl=true) (hsel:Region.noSelect l.toArray=true)
  (hord:Nat.beq ord.length (l.length-n)=true) (hS:linB2 l.toArray ord (Array.replicate n true++Array.replicate (l.length-n) false)=true) (hQ:∀c a w (d:Nat) v,Q (.panic c) (a.put (some d) v) w->Q (.panic c) a w)
  (hpl:∀p∈keep,Pl p.2) (hold:SubS old st.slots) (hoff:offB (dstsOf l) old=true)
  (h:∀w:World,DW P (E.re w st.own) st.own l.toArray (l.take n) st.slots (fun s'=>look s' d=some (aNew w.heap.size φ A Ws)/\SubS keep s'))
  (k:∀y,φ y->Ent E ⟨(d,A y)::(keep++old),Ws y++st.own⟩ (wpList P l.toArray Q (pickOps l.toArray ord))) :
  Ent E st ((Code.region id l.toArray true).wp P Q):=by
 refine ent_drawOL n fl ord hm hn hB hF hsel hord hS hQ fun a w r=>?_
 refine DW.mono (h w) ?_
 rintro s' ⟨h1,h2⟩ a' w' r' g ag
 obtain ⟨v,p1,y,hy,hA,hown,hap,hnew⟩:=r'.slots d _ h1
 have hO:∀b,OO E (Ws y++st.own) b->OO (E.re w st.own) st.own b\/Blks (Ws y) b:=by
  rintro b (hb | ⟨o,ho,hob⟩)
  ·exact .inl (.inl hb)
  ·rcases List.mem_append.1 ho with ho | ho
   ·exact .inr ⟨o,ho,hob⟩
   ·exact .inl (.inr ⟨o,ho,hob⟩)
 refine k y hy a' w' (rep_owns (l:=l) (news:=Ws y) (T:=[(d,A y)]) r r' g ag (fun i B hi=>?_) (fun o ho b hob=>⟨(hnew o ho b hob).2,(hnew o ho b hob).1⟩) hap (fun o ho=>Own.less (hown o ho) fun b hb=>hO b hb) h2 hpl hold hoff)
 rw [C_b] at hi
 split at hi
 ·rename_i e
  subst e
  cases hi
  exact ⟨v,p1,AV.less hA fun b _ hb=>hO b hb⟩
 ·cases hi
end
section
variable {P : Program} {E : Env} {s : List (Nat × AV)} {own : List Own}
variable {d : Nat} {ty : TypeId} {pos : String} {af : Array Edge} {g : Option (Nat × Bool)}
end
section draws6
variable {P : Program} {E : Env} {own : List Own}
variable {s : List (Nat × AV)} {D : Nat -> Nat} {A : Nat -> AV} {l : List Oper} {n f f2 : Nat} {listed : Array Bool} {a : Act} {w : World}
theorem draw_go6 {Q:Exit->Act->World->Prop} {g:Nat} {fl:List Nat} (hB:drawF l n f2=true) (hF:flB l n fl=true) (hsel:Region.noSelect l.toArray=true) (hQ:∀c a w (d:Nat) v,Q (.panic c) (a.put (some d) v) w->Q (.panic c) a w)
  (hn:n<=l.length) (hspec:∀k o,k<n->l[k]? = some o->o.dst=some (D k)/\D k<E.n/\Spec P E own l.toArray (stt s D A k) o (A k))
  (J:Nat->Prop) (I:Act->World->Prop) (hI:∀(j:Nat) (oj:Oper) (v:Value) (a:Act) (w w':World),j<n->¬J j->l[j]? = some oj->Grow w w'->I a w->I (a.put oj.dst v) w') (hend:∀listed a w,I a w->DInv E own s D A l n 0 listed a w->(∀i,i<n->listed.getD i false=true)->wpAny P .any l.toArray Q g listed a w) :
  ∀(c:Nat) (listed:Array Bool) (a:Act) (w:World),((List.range n).filter fun i=>!(listed.getD i false)).length=c->I a w->(∀j,J j->listed.getD j false=true)->DInv E own s D A l n 0 listed a w ->
   wpAny P .any l.toArray Q (c+g) listed a w
 | 0,listed,a,w,hc,hgr,hJ,inv=>by
  rw [Nat.zero_add]
  refine hend listed a w hgr inv fun i hi=>?_
  have hnil:=List.eq_nil_of_length_eq_zero hc
  have:=List.filter_eq_nil_iff.1 hnil i (List.mem_range.2 hi)
  simpa using this
 | c+1,listed,a,w,hc,hgr,hJ,inv=>by
  obtain ⟨hord,hlow⟩:=B_z hB
  obtain ⟨hfl1,hfl2⟩:=flB_spec hF
  have hex:∃j,j<n/\listed.getD j false=false:=by
   cases hl:(List.range n).filter fun i=>!(listed.getD i false) with
   | nil=>rw [hl] at hc;simp at hc
   | cons j r =>
    have : j∈(List.range n).filter fun i=>!(listed.getD i false):=by rw [hl];simp
    simp only [List.mem_filter,List.mem_range] at this
    exact ⟨j,this.1,by simpa using this.2⟩
  have hleast:∃k,k<n/\listed.getD k false=false/\∀i,i<k->listed.getD i false=true:=by
   obtain ⟨j,hj1,hj2⟩:=hex
   clear hc
   induction j using Nat.strongRecOn with
   | _ j ih =>
    by_cases h:∀i,i<j->listed.getD i false=true
    ·exact ⟨j,hj1,hj2,h⟩
    ·simp only [Classical.not_forall] at h
     obtain ⟨i,h1,h2⟩:=h
     exact ih i h1 (by omega) (by simpa using h2)
  have hrdy:∀k,k<n->listed.getD k false=false->(∀i,i<k->listed.getD i false=true)->k∈Region.ready .any l.toArray listed:=by
   intro k hk1 hk2 hk3
   have hkl:k<l.length:=by omega
   have hok:l[k]? = some l[k]:=g_E hkl
   exact mem_ready.2 ⟨by rw [C_u (by rw [inv.sz];exact hkl)];exact hk2,l[k],by simp [hok],fun e he hb=>hk3 _ (hlow k _ hok e he hb)⟩
  have hready:Region.ready .any l.toArray listed≠[]:=by
   obtain ⟨k,hk1,hk2,hk3⟩:=hleast
   intro h0
   have:=hrdy k hk1 hk2 hk3
   rw [h0] at this;cases this
  rw [show c+1+g=(c+g)+1 by omega]
  have each:∀j,j∈Region.ready .any l.toArray listed->j<n->∃oj,l[j]? = some oj/\OpR E (stt s D A j) own oj a w /\
    (∀v w',Grow w w'->(A j).holds w'.heap (OO E own) v->wpAny P .any l.toArray Q (c+g) (listed.setIfInBounds j true) (a.put oj.dst v) w')/\listed.getD j false=false /\
    (∀e∈oj.after,Region.binds .any e=true->listed.getD e.on false=true):=by
   intro j hj hjn
   obtain ⟨hun',oj,hoj',hall⟩:=mem_ready.1 hj
   have hoj:l[j]? = some oj:=by simpa using hoj'
   have hjl:j<l.length:=(g_S hoj).1
   have hun:listed.getD j false=false:=by rw [<- C_u (by rw [inv.sz];exact hjl)];exact hun'
   have hcount:((List.range n).filter fun i=>!((listed.setIfInBounds j true).getD i false)).length=c:=by
    have key:∀m,m<=n->((List.range m).filter fun i=>!((listed.setIfInBounds j true).getD i false)).length+(if j<m then 1 else 0)=((List.range m).filter fun i=>!(listed.getD i false)).length:=by
     intro m
     induction m with
     | zero=>intro _;simp
     | succ m ih =>
      intro hm
      have:=ih (by omega)
      rw [List.range_succ,List.filter_append,List.filter_append,l_A,l_A]
      by_cases hmj:m=j
      ·subst hmj
       have h1:(listed.setIfInBounds m true).getD m false=true:=by simp [inv.sz,hjl]
       rw [i_N (by omega)] at this
       simp only [List.filter_cons,h1,hun,List.filter_nil]
       simp at this ⊢
       omega
      ·have e0:(listed.setIfInBounds j true).getD m false=listed.getD m false:=getD_set_ne false (fun h=>hmj h.symm)
       have e1:(if j<m+1 then 1 else 0)=(if j<m then 1 else 0:Nat):=by
        by_cases hjm:j<m
        ·have : j<m+1:=by omega
         simp [hjm,this]
        ·have : ¬j<m+1:=by omega
         simp [hjm,this]
       rw [e1,List.filter_cons,List.filter_cons,e0]
       simp only [List.filter_nil]
       omega
    have:=key n (Nat.le_refl _)
    rw [i_P hjn,hc] at this
    omega
   have hopR:OpR E (stt s D A j) own oj a w:=⟨inv.world,fun x hx B hB'=>by
    cases x with
    | tmp t =>
     have ht:t∈namesOf l.toArray oj:=by
      unfold namesOf
      refine List.mem_append_left _ (List.mem_append_right _ ?_)
      exact List.mem_filterMap.2 ⟨.tmp t,by simpa using hx,rfl⟩
     obtain ⟨v,h1,h2⟩:=inv.slot2 hn hB hspec hoj hjn hun hall ht hB'
     show B.holds _ _ (a.tmps.getD t undef)
     rw [Array.getD_eq_getD_getElem?,h1]
     exact h2
    | const v=>simp only [opd,Option.some.injEq] at hB';subst hB';rfl
    | global g=>simp only [opd,Option.some.injEq] at hB';subst hB';rfl
    | func f=>simp only [opd,Option.some.injEq] at hB';subst hB';rfl⟩
   exact ⟨oj,hoj,hopR,fun v w' gr hv=>draw_go6 hB hF hsel hQ hn hspec J I hI hend c _ _ _ hcount (hI j oj v a w w' hjn (fun hj=>by rw [hJ j hj] at hun;cases hun) hoj gr hgr) (fun j' hj'=>getD_set_true (hJ j' hj')) (inv.step2 hB hn hspec hoj hjn hall gr hv),hun,hall⟩
  by_cases hfl:∃i∈fl,i∈Region.ready .any l.toArray listed
  ·obtain ⟨i,hi1,hi2⟩:=hfl
   obtain ⟨hin,oi,hoi,hpure,hfree⟩:=hfl1 i hi1
   obtain ⟨oj,hoj,hopR,hnext,_,_⟩:=each i hi2 hin
   rw [hoi] at hoj;cases hoj
   obtain ⟨hd1,hd2,hsp⟩:=hspec i oi hin hoi
   have hgd:oi.guard=none:=by
    rcases oi with ⟨dst,op,ty,pos,af,g⟩
    cases dst <;> cases op <;> cases g <;> simp [pureOp] at hpure <;> rfl
   unfold Spec at hsp
   rw [hgd] at hsp
   obtain ⟨v,hy,hv⟩:=E_M (ops:=l.toArray) hd1 hpure hsp hopR (by rw [inv.size];exact hd2)
   exact wpAny_take (by simpa using hoi) hsel (hfree listed inv.sz inv.closed hi2) (by simpa using hi2) (fun c a w h=>by rw [hd1] at h;exact hQ c a w _ _ h) hy (hnext v w (Grow.refl w) hv)
  ·refine ⟨fun h0=>absurd h0 hready,fun j hj=>?_⟩
   have hjn:j<n:=by
    rcases Nat.lt_or_ge j n with h | h
    ·exact h
    ·exfalso
     obtain ⟨hun',oj,hoj',hall⟩:=mem_ready.1 hj
     have hoj:l[j]? = some oj:=by simpa using hoj'
     have hjl:j<l.length:=(g_S hoj).1
     obtain ⟨k,hk1,hk2,hk3⟩:=hleast
     by_cases hkf:k∈fl
     ·exact hfl ⟨k,hkf,hrdy k hk1 hk2 hk3⟩
     ·have hw:=hfl2 j h hjl k hk1 hkf
      have:=B_o inv.closed _ j k hw (fun oj' h'=>by
       have : oj'=oj:=by simp only [List.getElem?_toArray] at h';rw [hoj] at h';exact (Option.some.inj h').symm
       subst this;exact hall)
      rw [hk2] at this;cases this
   obtain ⟨oj,hoj,hopR,hnext,hun,hall⟩:=each j hj hjn
   have hoj':l.toArray[j]? = some oj:=by simpa using hoj
   obtain ⟨hd1,hd2,hsp⟩:=hspec j oj hjn hoj
   unfold wpOp
   rw [hoj']
   dsimp only
   unfold Spec at hsp
   split at hsp
   ·rename_i hgd
    rw [i_P (by simp [Region.wanted,hgd])]
    exact .inl (hsp a w hopR _ _ hnext)
   ·rename_i jg want hgd
    obtain ⟨dj,gg,h1,h2,h3⟩:=hsp
    have hname:dj∈namesOf l.toArray oj:=by
     unfold namesOf
     refine List.mem_append_right _ ?_
     rw [hgd]
     simp only [h1]
     simp
    obtain ⟨v,hv1,hv2⟩:=inv.slot2 hn hB hspec hoj hjn hun hall hname h2
    have hy:yielded l.toArray a.tmps jg=gg:=F_Z h1 hv1 hv2
    rcases h3 with ⟨h4,h5⟩ | ⟨h4,h5⟩
    ·rw [i_P (by simp [Region.wanted,hgd,hy,h4])]
     exact .inl (h5 a w hopR _ _ hnext)
    ·rw [i_N (by simp [Region.wanted,hgd,hy,h4])]
     exact hnext undef w (Grow.refl w) (h5.holds _ _)
end draws6
section
variable {P : Program} {E : Env}
theorem ent_drawOL1 {st:St} {Q:Exit->Act->World->Prop} {id d0 t0:Nat} {ty0:TypeId} {pos0:String} {l rest:List Oper} {A0:AV} (n:Nat) (fl ord:List Nat) (hm:P.follows .mixedOrders=true) (hl:l=⟨some d0,.move (.tmp t0),ty0,pos0,#[],none⟩::rest) (h1n:Nat.ble 1 n=true) (hn:Nat.ble n l.length=true) (hB:drawF l n l.length=true) (hF:flB l n fl=true) (hsel:Region.noSelect l.toArray=true)
  (hfree:Region.free .any l.toArray (Array.replicate l.length false) 0=true) (hrdy:(Region.ready .any l.toArray (Array.replicate l.length false)).contains 0=true)
  (hord:Nat.beq ord.length (l.length-n)=true) (hS:linB2 l.toArray ord (Array.replicate n true++Array.replicate (l.length-n) false)=true) (hQ:∀c a w (d:Nat) v,Q (.panic c) (a.put (some d) v) w->Q (.panic c) a w) (hA0:look st.slots t0=some A0) (hd0:Nat.ble (d0+1) E.n=true)
  (h:∀(a:Act) (w:World),Rep E ⟨(d0,A0)::st.slots,st.own⟩ a w->DW P (E.re w st.own) st.own l.toArray (l.take n) st.slots (fun s'=>∀(a':Act) (w':World),Rep (E.re w st.own) ⟨s',st.own⟩ a' w'->Grow w w'->agreeOff (dstsOf rest) a a'->wpList P l.toArray Q (pickOps l.toArray ord) a' w')) :
  Ent E st ((Code.region id l.toArray true).wp P Q):=by
 intro a w r
 have hnl:n<=l.length:=b_L hn
 have hn1:1<=n:=b_L h1n
 have hdn:d0<E.n:=b_L hd0
 refine wp_region_any hm ?_
 have r1:Rep E st a w.drew:=r.grow (Grow.drew w)
 obtain ⟨v,hv1,hv2⟩:=r1.slots t0 A0 hA0
 have hev:a.eval (.tmp t0)=v:=by show a.tmps.getD t0 undef=v;rw [Array.getD_eq_getD_getElem?,hv1];rfl
 have hl0:l[0]? = some ⟨some d0,.move (.tmp t0),ty0,pos0,#[],none⟩:=by rw [hl];rfl
 have hlt:0<l.length:=by rw [hl];simp
 have hself:(a.put (some d0) v).tmps[d0]? = some v:=by
  simp only [Act.put]
  rw [Array.getElem?_setIfInBounds_self,i_P (by rw [r1.size];exact hdn)]
 have hother:∀t,t≠d0->(a.put (some d0) v).tmps[t]? = a.tmps[t]?:=fun t ht=>D_J a _ v t (fun e=>ht (Option.some.inj e).symm)
 have rep1:Rep E ⟨(d0,A0)::st.slots,st.own⟩ (a.put (some d0) v) w.drew:=by
  refine ⟨by simp [Act.put,r1.size],by simpa [Act.put] using r1.defers,fun i B hi=>?_,r1.own,r1.apart,r1.free,r1.xold,r1.keep⟩
  have hi:look ((d0,A0)::st.slots) i=some B:=hi
  rw [C_b] at hi
  by_cases e:d0=i
  ·rw [i_P e] at hi
   rw [<- Option.some.inj hi,<- e]
   exact ⟨v,hself,hv2⟩
  ·rw [i_N e] at hi
   obtain ⟨u,u1,u2⟩:=r1.slots i B hi
   exact ⟨u,by rw [hother i (Ne.symm e)];exact u1,u2⟩
 have rr:=rep1.re
 have r1e:=r1.re
 obtain ⟨D,A,h1,h2⟩:=dw_fun l.toArray _ _ _ (h _ w.drew rep1)
 have hlen:(l.take n).length=n:=by simp [hnl]
 rw [hlen] at h2
 have hspec:∀k o,k<n->l[k]? = some o->o.dst=some (D k)/\D k<(E.re w.drew st.own).n/\Spec P (E.re w.drew st.own) st.own l.toArray (stt st.slots D A k) o (A k):=fun k o hk ho=>h1 k o (by rw [List.getElem?_take,i_P hk];exact ho)
 obtain ⟨q1,q2,q3⟩:=hspec 0 _ hn1 hl0
 have hD0:D 0=d0:=(Option.some.inj q1).symm
 have hop:OpOK P (E.re w.drew st.own) st.slots st.own ⟨some d0,.move (.tmp t0),ty0,pos0,#[],none⟩ (A 0):=q3
 have hrun:∀w',(execOp a.eval ⟨some d0,.move (.tmp t0),ty0,pos0,#[],none⟩).run P w' = .ok (.value (a.eval (.tmp t0))) w':=fun w'=>by simp [execOp]
 have hv:(A 0).holds w.drew.heap (OO (E.re w.drew st.own) st.own) v:=by
  have hk:=hop a w.drew (r1e.opR _) (fun a' w'=>∃v,a'.tmps[d0]? = some v/\(A 0).holds w'.heap (OO (E.re w.drew st.own) st.own) v) (fun _ _ _=>False) (fun v w' g hh=>⟨v,by
   simp only [Act.put]
   rw [Array.getElem?_setIfInBounds_self,i_P (by rw [r1.size];exact hdn)],hh⟩)
  unfold Oper.wp at hk
  rw [hrun,Oper.upon_value,hev] at hk
  obtain ⟨u,g1,g2⟩:=hk
  rw [hself] at g1
  cases g1
  exact g2
 have hy:Yields P l.toArray ⟨some d0,.move (.tmp t0),ty0,pos0,#[],none⟩ v a:=.inl ⟨by simp [Region.wanted],fun w'=>by rw [hrun,hev]⟩
 have hlg:∀i,((Array.replicate l.length false).setIfInBounds 0 true).getD i false=decide (i=0):=fun i=>by
  by_cases e:i=0
  ·subst e;simp [hlt]
  ·rw [getD_set_ne false (Ne.symm e),Array.getD_eq_getD_getElem?]
   by_cases hi:i<l.length
   ·simp [hi,e]
   ·simp [hi,e]
 have inv:DInv (E.re w.drew st.own) st.own st.slots D A l n 0 ((Array.replicate l.length false).setIfInBounds 0 true) (a.put (some d0) v) w.drew:=by
  refine ⟨by simp,fun i hi=>by omega,?_,fun t ht=>by rw [hlg];simp;omega,r1e.w,by simp [Act.put,r1e.size],by simpa [Act.put] using r1e.defers,?_,?_⟩
  ·intro j oj hj hlj
   rw [hlg] at hlj
   have hj0:j=0:=by simpa using hlj
   subst hj0
   have : oj=⟨some d0,.move (.tmp t0),ty0,pos0,#[],none⟩:=by simp only [List.getElem?_toArray] at hj;rw [hl0] at hj;exact (Option.some.inj hj).symm
   subst this
   intro e he;simp at he
  ·intro i hin hli
   rw [hlg] at hli
   have hi0:i=0:=by simpa using hli
   subst hi0
   exact ⟨v,by rw [hD0];exact hself,hv⟩
  ·intro t B hlk hno
   have ht:d0≠t:=by rw [<- hD0];exact hno 0 hn1 (by rw [hlg];rfl)
   obtain ⟨u,u1,u2⟩:=r1e.slots t B hlk
   exact ⟨u,by rw [hother t (Ne.symm ht)];exact u1,u2⟩
 have hcount:((List.range n).filter fun i=>!(((Array.replicate l.length false).setIfInBounds 0 true).getD i false)).length=n-1:=by
  have h0:((List.range n).filter fun i=>!((Array.replicate l.length false).getD i false)).length=n:=by
   have : ∀i,(Array.replicate l.length false).getD i false=false:=fun i=>by
    rw [Array.getD_eq_getD_getElem?]
    by_cases hi:i<l.length
    ·simp [hi]
    ·simp [hi]
   rw [List.filter_eq_self.2 (fun i _=>by simp [this i])];simp
  have:=F_C (List.range n) (Array.replicate l.length false) 0 List.nodup_range (List.mem_range.2 hn1) (by simpa using hlt) (by simp [hlt])
  omega
 have go:=draw_go6 (P:=P) (Q:=Q) (g:=l.length-n) hB hF hsel hQ hnl hspec (fun j=>j=0) (fun a' w'=>Grow w.drew w'/\agreeOff (dstsOf rest) (a.put (some d0) v) a') ?_ ?_ (n-1) _ _ w.drew hcount ⟨Grow.refl _,fun _ _=>rfl⟩ (fun j hj=>by rw [hlg,hj];rfl) inv
 ·have key:=wpAny_take (fuel:=l.length-1) (w:=w.drew) (i:=0) (show l.toArray[0]? = some _ by simpa using hl0) hsel hfree hrdy (fun c a w hh=>hQ c a w _ _ hh) hy (Q:=Q) (P:=P) (md:=.any)
  rw [Nat.sub_add_cancel hlt] at key
  rw [show l.toArray.size=l.length by simp]
  refine key ?_
  rw [show l.length-1=n-1+(l.length-n) by omega]
  exact go
 ·intro j oj u a' w1 w2 hj hj0 hoj g ⟨hg,ha⟩
  refine ⟨hg.trans g,fun i hi=>?_⟩
  rw [D_J a' _ u i (fun e=>hi ?_)]
  ·exact ha i hi
  ·have hj0:¬j=0:=hj0
   have hor:rest[j-1]? = some oj:=by
    rw [hl] at hoj
    rw [show j=(j-1)+1 by omega,List.getElem?_cons_succ] at hoj
    exact hoj
   exact List.mem_filterMap.2 ⟨oj,m_G hor,e⟩
 ·intro listed a' w' ⟨hg,ha⟩ inv' hall
  have hrep:=inv'.end2 hB hnl hspec hall
  have hlisted:listed=Array.replicate n true++Array.replicate (l.length-n) false:=by
   apply Array.ext
   ·simp [inv'.sz];omega
   ·intro i hi1 hi2
    have hd:listed.getD i false=listed[i]:=by simp [hi1]
    rcases Nat.lt_or_ge i n with h | h
    ·rw [<- hd,hall i h,Array.getElem_append_left (by simpa using h)];simp
    ·rw [<- hd,inv'.tail i h,Array.getElem_append_right (by simpa using h)];simp
  have hgo:=lin_go2 (P:=P) hsel hQ ord listed a' w' (by rw [hlisted];exact hS) (h2 a' w' hrep hg ha)
  rw [Nat.eq_of_beq_eq_true hord] at hgo
  exact hgo
theorem ent_drawW1M {st:St} {Q:Exit->Act->World->Prop} {id d0 t0:Nat} {ty0:TypeId} {pos0:String} {l rest:List Oper} {A0:AV} {β:Type} {φ:β->Prop} {A:β->AV} {Ws:β->List Own} (n:Nat) (fl ord:List Nat) (d:Nat) (keep old:List (Nat×AV)) (hm:P.follows .mixedOrders=true) (hl:l=⟨some d0,.move (.tmp t0),ty0,pos0,#[],none⟩::rest) (h1n:Nat.ble 1 n=true) (hn:Nat.ble n l.length=true) (hB:drawF l n l.length=true) (hF:flB l n fl=true) (hsel:Region.noSelect l.toArray=true)
  (hfree:Region.free .any l.toArray (Array.replicate l.length false) 0=true) (hrdy:(Region.ready .any l.toArray (Array.replicate l.length false)).contains 0=true)
  (hord:Nat.beq ord.length (l.length-n)=true) (hS:linB2 l.toArray ord (Array.replicate n true++Array.replicate (l.length-n) false)=true) (hQ:∀c a w (d:Nat) v,Q (.panic c) (a.put (some d) v) w->Q (.panic c) a w) (hA0:look st.slots t0=some A0) (hd0:Nat.ble (d0+1) E.n=true)
  (hpl:∀p∈keep,Pl p.2) (hold:SubS old ((d0,A0)::st.slots)) (hoff:offB (dstsOf rest) old=true)
  (h:∀w:World,DW P (E.re w st.own) st.own l.toArray (l.take n) st.slots (fun s'=>look s' d=some (aNew w.heap.size φ A Ws)/\SubS keep s'))
  (k:∀y,φ y->Ent E ⟨(d,A y)::(keep++old),Ws y++st.own⟩ (wpList P l.toArray Q (pickOps l.toArray ord))) :
  Ent E st ((Code.region id l.toArray true).wp P Q):=by
 refine ent_drawOL1 n fl ord hm hl h1n hn hB hF hsel hfree hrdy hord hS hQ hA0 hd0 fun a w r=>?_
 refine DW.mono (h w) ?_
 rintro s' ⟨h1,h2⟩ a' w' r' g ag
 obtain ⟨v,p1,y,hy,hA,hown,hap,hnew⟩:=r'.slots d _ h1
 have hO:∀b,OO E (Ws y++st.own) b->OO (E.re w st.own) st.own b\/Blks (Ws y) b:=by
  rintro b (hb | ⟨o,ho,hob⟩)
  ·exact .inl (.inl hb)
  ·rcases List.mem_append.1 ho with ho | ho
   ·exact .inr ⟨o,ho,hob⟩
   ·exact .inl (.inr ⟨o,ho,hob⟩)
 refine k y hy a' w' (rep_owns (l:=rest) (st:=⟨(d0,A0)::st.slots,st.own⟩) (news:=Ws y) (T:=[(d,A y)]) r r' g ag (fun i B hi=>?_) (fun o ho b hob=>⟨(hnew o ho b hob).2,(hnew o ho b hob).1⟩) hap (fun o ho=>Own.less (hown o ho) fun b hb=>hO b hb) h2 hpl hold hoff)
 rw [C_b] at hi
 split at hi
 ·rename_i e
  subst e
  cases hi
  exact ⟨v,p1,AV.less hA fun b _ hb=>hO b hb⟩
 ·cases hi
end
def aNilF (n:Nat) (e:TypeId):AV where
 holds h O v:=∃b:Nat,v = .slice (some ⟨b,0,none⟩) 0 0/\¬O b/\n<=b/\h[b]? = some (.cells #[] e (0,0))
 mono:=by
  rintro h h' O O' v ⟨b,h1,h2,h3,h4⟩ hs hb ho
  have hlt:b<h.size:=(Array.getElem?_eq_some_iff.1 h4).1
  exact ⟨b,h1,fun h=>h2 (ho b hlt h),h3,(hb b hlt h2).trans h4⟩
section nilF
variable {P : Program} {E : Env} {s : List (Nat × AV)} {own : List Own} {d : Nat} {ty : TypeId} {pos : String} {af : Array Edge} {g : Option (Nat × Bool)}
theorem ok_build0F {T e:TypeId} {sz bytes:Nat} {agg:Bool} {z:Value} (ht:VecTy P T e sz bytes agg z):OpOK P E s own ⟨some d,.buildSlice T 0 #[],ty,pos,af,g⟩ (aNilF E.w0.heap.size e):=by
 intro a w r K Q hK
 have hz:Array.map (fun x=>(default:Value)) (Array.range 0) = #[]:=by simp
 have hrun:(execOp a.eval ⟨some d,.buildSlice T 0 #[],ty,pos,af,g⟩).run P w = .ok (.value (.slice (some ⟨w.heap.size,0,none⟩) 0 0)) (w.alloc (.cells #[] e)):=by
  simp [execOp,Instr.buildSlice,run_underlying ht.und,ht.sl.size,newRow,Instr.fill,hz]
 unfold Oper.wp
 rw [hrun,Oper.upon_value]
 exact hK _ _ (Grow.alloc _ _) ⟨w.heap.size,rfl,fun hO=>absurd (r.lt _ hO) (by omega),r.world.keep.size,heap_alloc_new w _⟩
theorem ok_append0F {α:Type} {T e:TypeId} {bytes:Nat} {z:Value} {enc:α->AV} {ys:List α} {x yv:Operand} {B:AV}
  (ht:VecTy P T e 1 bytes false z) (hpl:∀y,Pl (enc y)) (hx:opd s x=some (aNilF E.w0.heap.size e)) (hy:opd s yv=some B) (hc:Cv E own (OO E own) B (aSl 1 false enc ys))
  (hn:ys.length*bytes<=140737488355328) (hn2:ys.length<=140737488355328) (hone:∀y∈ys,One (enc y):=by simp [A_N,E_N,A_j]) :
  OpOK P E s own ⟨some d,.call { callee:=.builtin .append,args:=#[x,yv],argTypes:=#[T,T] },ty,pos,af,g⟩ (aFr E.w0.heap.size (aVec e 1 false enc ys)):=by
 intro a w r K Q hK
 obtain ⟨ii,i1,i2,i3,i4⟩:=ht.info
 obtain ⟨p,c,hv,hle,hmax,_,hel⟩:=hc w _ r.world (r.ev yv (by simp [Op.operands,Call.operands]) B hy)
 obtain ⟨nb,hxe,hnO,hnn,hnh⟩:=r.ev x (by simp [Op.operands,Call.operands]) _ hx
 unfold Oper.wp
 by_cases h0:ys = []
 ·subst h0
  have hrun:(Builtin.append_ #[T,T] ty #[.slice (some ⟨nb,0,none⟩) 0 0,.slice p 0 c]).run P w = .ok (.slice (some ⟨nb,0,none⟩) 0 0) w:=by
   cases p <;> simp [Builtin.append_,run_underlying ht.und,sizeOf,typeInfo,i1,i3,Builtin.lenOf,Builtin.firstCells,loadCells,loadCellsFrom,storeCells]
  have : (execOp a.eval ⟨some d,.call { callee:=.builtin .append,args:=#[x,yv],argTypes:=#[T,T] },ty,pos,af,g⟩).run P w = .ok (.value (.slice (some ⟨nb,0,none⟩) 0 0)) w:=by
   simp only [List.length_nil] at hv
   simp only [execOp,resolve,invoke,builtin,Sem.run_bind,Sem.run_pure,Result.andThen_ok,List.map_toArray,List.map_cons,List.map_nil,hxe,hv,hrun]
  rw [this,Oper.upon_value]
  refine hK _ _ (Grow.refl w) ⟨some nb,0,rfl,⟨by simp,fun _=>rfl,.inr ⟨nb,#[],rfl,hnh,Nat.le_refl _,Nat.zero_le _,by simp,fun i x hx=>by simp at hx⟩⟩,?_⟩
  rintro b hb (hO | hO)
  ·cases hb;exact hnO hO
  ·cases hb;omega
 ·have hpos:0<ys.length:=List.length_pos_iff.2 h0
  obtain ⟨b0,off0,us0,hp,_,_,_⟩:=hel 0 ys[0] (g_E hpos)
  have hcell:∀i,∃u,∀y,ys[i]? = some y->w.cell? ⟨b0,off0+i,none⟩=some u/\(enc y).holds w.heap (OO E own) u:=by
   intro i
   by_cases hi:i<ys.length
   ·obtain ⟨b,off,us,hp',hl,hcc,henc⟩:=hel i ys[i] (g_E hi)
    rw [hp] at hp';cases hp'
    match us,hl with
    | [u],_ =>
     refine ⟨u,fun y hy=>?_⟩
     rw [g_E hi] at hy;cases hy
     have:=hcc.cell (j:=0) (u:=u) rfl
     exact ⟨by simpa using this,henc⟩
   ·exact ⟨undef,fun y hy=>by rw [List.getElem?_eq_none (by omega)] at hy;cases hy⟩
  let f:Nat->Value:=fun i=>Classical.choose (hcell i)
  have hf:∀i y,ys[i]? = some y->w.cell? ⟨b0,off0+i,none⟩=some (f i)/\(enc y).holds w.heap (OO E own) (f i):=fun i=>Classical.choose_spec (hcell i)
  let news:=(List.range ys.length).map f
  have hlen:news.length=ys.length:=by simp [news]
  have hget:∀(j:Nat) u,news[j]? = some u->∃hj:j<ys.length,u=f j:=by
   intro j u hu
   have hj:j<ys.length:=by rw [<- hlen];exact (g_S hu).1
   refine ⟨hj,?_⟩
   have : news[j]? = some (f j):=by simp [news,hj]
   rw [this] at hu;cases hu;rfl
  have hr:=run_append_grow (P:=P) w T ty e ii z ht.und i1 i2 ⟨nb,0,none⟩ 0 0 [] (by simp) (fun j u hu=>by simp at hu) ⟨b0,off0,none⟩ ys.length c news (by rw [i3,hlen,Nat.mul_one])
   (fun j u hu=>by
    obtain ⟨hj,rfl⟩:=hget j u hu
    rw [C_J];exact (hf j _ (g_E hj)).1) (by omega) (by omega) (by rw [i4];exact growslice_fits (by omega) (by rw [Nat.zero_add];exact hn))
  have hge:=grownCap_ge w (0+ys.length) 0 e
  have hle2:=grownCap_le_maxLen w (0+ys.length) 0 e (by simp only [maxLen];omega)
  have hrun:(execOp a.eval ⟨some d,.call { callee:=.builtin .append,args:=#[x,yv],argTypes:=#[T,T] },ty,pos,af,g⟩).run P w =
    .ok (.value (.slice (some ⟨w.heap.size,0,none⟩) (0+ys.length) (grownCap w (0+ys.length) 0 e))) (w.drew.alloc (.cells (([]:List Value).toArray++news.toArray++Builtin.zeroCells z.cells (grownCap w (0+ys.length) 0 e-(0+ys.length))) e)):=by
   simp only [execOp,resolve,invoke,builtin,Sem.run_bind,Sem.run_pure,Result.andThen_ok,List.map_toArray,List.map_cons,List.map_nil,hxe,hv,hp,hr]
  rw [hrun,Oper.upon_value]
  have gr:=(Grow.drew w).trans (Grow.alloc w.drew (.cells (([]:List Value).toArray++news.toArray++Builtin.zeroCells z.cells (grownCap w (0+ys.length) 0 e-(0+ys.length))) e))
  refine hK _ _ gr ⟨some w.heap.size,grownCap w (0+ys.length) 0 e,by rw [Nat.zero_add];rfl,⟨hn2,fun _=>rfl,.inr ⟨w.heap.size,_,rfl,heap_alloc_new w.drew _,by omega,hle2,?_,fun i y hy=>?_⟩⟩,?_⟩
  ·rw [Array.size_append,size_zeroCells,ht.zs]
   simp only [List.size_toArray,List.nil_append,List.append_toArray,hlen]
   omega
  ·have hi:i<ys.length:=(g_S hy).1
   refine ⟨[f i],rfl,fun j u hu=>?_,hpl y _ _ _ _ _ (hf i y hy).2⟩
   match j,hu with
   | 0,hu =>
    simp only [List.getElem?_cons_zero,Option.some.injEq] at hu
    subst hu
    refine ⟨?_,hone y (m_G hy) _ _ _ (hf i y hy).2⟩
    have h5:i<news.length:=by omega
    rw [Array.getElem?_append_left (by simp;omega)]
    simp [news,hi]
   | j+1,hu=>simp at hu
  ·rintro b hb (hO | hO)
   ·cases hb;exact absurd (r.lt _ hO) (by omega)
   ·cases hb;have:=r.world.keep.size;omega
end nilF
section newRows
variable {P : Program} {E : Env} {s : List (Nat × AV)} {own : List Own} {d : Nat} {ty : TypeId} {pos : String} {af : Array Edge} {g : Option (Nat × Bool)}
theorem one_fr {n:Nat} {A:AV} (h:One A):One (aFr n A):=fun h' O v hv=>h h' _ v hv
theorem cvF_fr {A A':AV} (e:A=A'):Cv E own (FrO E) (aFr E.w0.heap.size A) A':=fun w v rp hv=>by
 subst e
 exact AV.less hv fun b _ hb=>.inr hb
theorem E_j {x:Operand} {n i:Nat} {As:List AV} {A:AV} (hx:opd s x=some (aFr n (aTup As))) (hi:As[i]? = some A):OpOK P E s own ⟨some d,.extract x i,ty,pos,af,g⟩ (aFr n A) :=
 B_e (fun a w r=>by
  obtain ⟨cs,h1,h2,h3⟩:=r.ev x (by simp [Op.operands]) _ hx
  have hlt:i<cs.length:=by rw [h2];exact (g_S hi).1
  refine ⟨cs[i],by simp [execOp,h1,Instr.extract,hlt],h3 i A cs[i] hi (g_E hlt)⟩)
end newRows
section
variable {P : Program} {E : Env} {st : St} {Q : Exit -> Act -> World -> Prop} {ops : Array Oper} {rest : List Oper} {s : List (Nat × AV)} {own : List Own}
variable {d : Nat} {ty : TypeId} {pos : String} {af : Array Edge}
theorem app_at {α:Type} {T e:TypeId} {bytes:Nat} {z:Value} {enc:α->AV} {xs ys:List α} {r:Option Nat} {n cap k:Nat} {x yv:Operand} {O':Nat->Prop} {a:Act} {w:World} (hf:Flat enc) (rp:Rep E st a w)
  (hd:Nat.ble (d+1) E.n=true) (ht:VecTy P T e 1 bytes false z)
  (hk:st.own[k]? = some (oVec r cap e 1 false enc xs)) (hx:opd st.slots x=some (aEx (vec r n cap))) (hnn:n=xs.length)
  (hyv:(aSl 1 false enc ys).holds w.heap O' (a.eval yv))
  (hn:(xs.length+ys.length)*bytes<=140737488355328) (hn2:xs.length+ys.length<=140737488355328)
  (kk:∀r' cap',Ent E ⟨(d,aEx (vec r' (xs++ys).length cap'))::st.slots,st.own.set k (oVec r' cap' e 1 false enc (xs++ys))⟩ (wpList P ops Q rest)) (hone:∀y∈ys,One (enc y):=by simp [A_N,E_N,A_j]) :
  wpList P ops Q (⟨some d,.call { callee:=.builtin .append,args:=#[x,yv],argTypes:=#[T,T] },ty,pos,af,none⟩::rest) a w:=by
 subst hnn
 obtain ⟨ii,i1,i2,i3,i4⟩:=ht.info
 obtain ⟨p,c,hv,hle,hmax,_,hel⟩:=hyv
 have hxe:a.eval x=vec r xs.length cap:=rp.evalEx hx
 refine wpList_plain rfl fun K hK=>?_
 unfold Oper.wp
 by_cases h0:ys = []
 ·subst h0
  have hown:=rp.own _ (m_G hk)
  have hcap:xs.length<=cap:=by
   rcases hown.2.2 with ⟨_,h2,_⟩ | ⟨b,cur,_,_,g3,_⟩
   ·rw [h2];exact Nat.zero_le _
   ·exact g3
  have hrun:(Builtin.append_ #[T,T] ty #[vec r xs.length cap,.slice p 0 c]).run P w = .ok (vec r xs.length cap) w:=by
   cases r <;> cases p <;> simp [Builtin.append_,run_underlying ht.und,sizeOf,typeInfo,i1,i3,Builtin.lenOf,Builtin.firstCells,loadCells,loadCellsFrom,hcap,storeCells,vec]
  have : (execOp a.eval ⟨some d,.call { callee:=.builtin .append,args:=#[x,yv],argTypes:=#[T,T] },ty,pos,af,none⟩).run P w = .ok (.value (vec r xs.length cap)) w:=by
   simp only [List.length_nil] at hv
   simp only [execOp,resolve,invoke,builtin,Sem.run_bind,Sem.run_pure,Result.andThen_ok,List.map_toArray,List.map_cons,List.map_nil,hxe,hv,hrun]
  rw [this,Oper.upon_value]
  have k2:=kk r cap
  rw [List.append_nil,F_v hk] at k2
  exact hK _ _ (k2 _ _ (rp.put (b_L hd) (A:=aEx (vec r xs.length cap)) rfl))
 ·have hpos:0<ys.length:=List.length_pos_iff.2 h0
  obtain ⟨b0,off0,us0,hp,_,_,_⟩:=hel 0 ys[0] (g_E hpos)
  have hcell:∀i,∃u,∀y,ys[i]? = some y->w.cell? ⟨b0,off0+i,none⟩=some u/\(enc y).holds w.heap (OO E st.own) u:=by
   intro i
   by_cases hi:i<ys.length
   ·obtain ⟨b,off,us,hp',hl,hcc,henc⟩:=hel i ys[i] (g_E hi)
    rw [hp] at hp';cases hp'
    match us,hl with
    | [u],_ =>
     refine ⟨u,fun y hy=>?_⟩
     rw [g_E hi] at hy;cases hy
     have:=hcc.cell (j:=0) (u:=u) rfl
     exact ⟨by simpa using this,hf _ _ _ _ _ _ henc⟩
   ·exact ⟨undef,fun y hy=>by rw [List.getElem?_eq_none (by omega)] at hy;cases hy⟩
  let g:Nat->Value:=fun i=>Classical.choose (hcell i)
  have hg:∀i y,ys[i]? = some y->w.cell? ⟨b0,off0+i,none⟩=some (g i)/\(enc y).holds w.heap (OO E st.own) (g i):=fun i=>Classical.choose_spec (hcell i)
  have hlen:((List.range ys.length).map g).length=ys.length:=by simp
  have hget:∀j u,((List.range ys.length).map g)[j]? = some u->∃hj:j<ys.length,u=g j:=by
   intro j u hu
   rw [List.getElem?_map] at hu
   cases hr:(List.range ys.length)[j]? with
   | none=>rw [hr] at hu;cases hu
   | some i =>
    rw [hr] at hu
    obtain ⟨h1,h2⟩:=g_S hr
    rw [List.getElem_range] at h2
    subst h2
    exact ⟨by simpa using h1,by simpa using hu.symm⟩
  have hsrc:Src w (OO E st.own) 1 false enc ys ⟨b0,off0,none⟩ ((List.range ys.length).map g):=by
   refine ⟨by simp,fun j u hu=>?_,fun u hu=>?_,fun i y hy=>?_⟩
   ·obtain ⟨hj,rfl⟩:=hget j u hu
    rw [C_J];exact (hg j _ (g_E hj)).1
   ·obtain ⟨j,hj0⟩:=List.mem_iff_getElem?.1 hu
    obtain ⟨hj,rfl⟩:=hget j u hj0
    exact hone _ (List.getElem_mem hj) _ _ _ (hg j _ (g_E hj)).2
   ·have hi:i<ys.length:=(g_S hy).1
    have : ((List.range ys.length).map g)[i]? = some (g i):=by simp [hi]
    rw [Nat.mul_one,F_3 _ _ _ this]
    exact (hg i y hy).2
  obtain ⟨b',cap',w',h1,h2,h3,h4⟩:=F_Y (P:=P) (E:=E) (own:=st.own) (c:=c) ht hk (rp.own _ (m_G hk)) hsrc hn hn2 hpos ty
  have hrun:(execOp a.eval ⟨some d,.call { callee:=.builtin .append,args:=#[x,yv],argTypes:=#[T,T] },ty,pos,af,none⟩).run P w = .ok (.value (vec (some b') (xs.length+ys.length) cap')) w':=by
   simp only [execOp,resolve,invoke,builtin,Sem.run_bind,Sem.run_pure,Result.andThen_ok,List.map_toArray,List.map_cons,List.map_nil,hxe,hv,hp,h1]
  rw [hrun,Oper.upon_value]
  have k2:=kk (some b') cap'
  rw [l_A] at k2
  have r3:=rp.change (o':=oVec (some b') cap' e 1 false enc (xs++ys)) hk h2 (fun b hb=>by cases hb;exact h3) h4
  exact hK _ _ (k2 _ _ (r3.put (b_L hd) (A:=aEx (vec (some b') (xs.length+ys.length) cap')) rfl))
def ReadSl {α:Type} (enc:α->AV) (ys:List α) (B:AV):Prop:=∀h O v,B.holds h O v->∃O',(aSl 1 false enc ys).holds h O' v
theorem read_sl {α:Type} {enc:α->AV} {ys:List α}:ReadSl enc ys (aSl 1 false enc ys):=fun _ O _ h=>⟨O,h⟩
theorem ent_drawV1A {id:Nat} {l:List Oper} {α:Type} {T e:TypeId} {bytes:Nat} {z:Value} {enc:α->AV} {xs ys:List α} {B:AV} {dy d2:Nat} (n:Nat) (fl:List Nat) (d:Nat) (keep old:List (Nat×AV)) (hm:P.follows .mixedOrders=true) (hn:Nat.ble n l.length=true) (hB:drawF l n n=true) (hF:flB l n fl=true) (hsel:Region.noSelect l.toArray=true)
  (hS:Region.seqB .any l.toArray (l.length-n) n (Array.replicate n true++Array.replicate (l.length-n) false)=true) (hQ:∀c a w (d:Nat) v,Q (.panic c) (a.put (some d) v) w->Q (.panic c) a w)
  (hl:l.drop n=⟨some d2,.call { callee:=.builtin .append,args:=#[.tmp d,.tmp dy],argTypes:=#[T,T] },ty,pos,af,none⟩::rest) (hd2:Nat.ble (d2+1) E.n=true) (ht:VecTy P T e 1 bytes false z)
  (hf:Flat enc) (hone:∀y∈ys,One (enc y)) (hpl:∀p∈keep,Pl p.2) (hold:SubS old st.slots) (hoff:offB (dstsOf l) old=true) (hr:ReadSl enc ys B)
  (hz:(xs.length+ys.length)*bytes<=140737488355328) (hz2:xs.length+ys.length<=140737488355328)
  (h:∀w:World,DW P (E.re w st.own) st.own l.toArray (l.take n) st.slots (fun s'=>look s' d=some (aFr w.heap.size (aVec e 1 false enc xs))/\look s' dy=some B/\SubS keep s'))
  (k:∀r c r0 c0,Ent E ⟨(d2,aEx (vec r (xs++ys).length c))::(d,aEx (vec r0 xs.length c0))::(keep++old),oVec r c e 1 false enc (xs++ys)::st.own⟩ (wpList P l.toArray Q rest)) :
  Ent E st ((Code.region id l.toArray true).wp P Q):=by
 refine F_1 n fl hm hn hB hF hsel hS hQ fun a w r=>?_
 refine DW.mono (h w) ?_
 rintro s' ⟨h1,h2,h3⟩ a' w' r' g ag
 obtain ⟨v1,p1,rr1,c1,rfl,q1,n1⟩:=r'.slots d _ h1
 obtain ⟨v2,p2,q2⟩:=r'.slots dy _ h2
 obtain ⟨O',q2'⟩:=hr _ _ _ q2
 have f1:∀b,rr1=some b->w.heap.size<=b/\¬OO E st.own b:=fun b hb=>by
  have:=n1 b hb
  exact ⟨Nat.le_of_not_lt fun hlt=>this (.inr hlt),fun hO=>this (.inl hO)⟩
 have rp:=rep_own (l:=l) (o:=oVec rr1 c1 e 1 false enc xs) r r' g ag p1 f1 (D_L hf q1) h3 hpl hold hoff
 rw [hl]
 refine app_at (k:=0) (n:=xs.length) (O':=O') hf rp hd2 ht rfl (show opd _ (.tmp d)=some _ from ?_) rfl ?_ hz hz2 (fun r2 c2=>k r2 c2 rr1 c1) hone
 ·show (bif Nat.beq d d then some _ else _)=some _
  simp
 ·show (aSl 1 false enc ys).holds w'.heap O' (a'.tmps.getD dy undef)
  rw [Array.getD_eq_getD_getElem?,p2];exact q2'
end
section arrays
variable {P : Program} {E : Env} {st : St} {s : List (Nat × AV)} {own : List Own} {d : Nat} {ty : TypeId} {pos : String} {af : Array Edge} {g : Option (Nat × Bool)}
end arrays
section arrays
open Go.ChangeShapes Go.WideShapes Go.ChangeAt Go.RowKit Go.Deep
variable {H : Type} {encH : TypeId × Value -> H} {P : Program} {W : World}
end arrays
section
variable {P : Program} {E : Env}
theorem flat_hdr:Flat aH:=fun _ _ _ _ _ _ h=>h
theorem ent_drawA1 {st:St} {Q:Exit->Act->World->Prop} {id:Nat} {l:List Oper} {α:Type} {e1 T:TypeId} {enc1:α->AV} {xs1:List α} {A0:AV} {As:List AV} (n:Nat) (fl:List Nat) (d dB:Nat) (keep old:List (Nat×AV)) (hm:P.follows .mixedOrders=true) (hn:Nat.ble n l.length=true) (hB:drawF l n n=true) (hF:flB l n fl=true) (hsel:Region.noSelect l.toArray=true)
  (hS:Region.seqB .any l.toArray (l.length-n) n (Array.replicate n true++Array.replicate (l.length-n) false)=true) (hQ:∀c a w (d:Nat) v,Q (.panic c) (a.put (some d) v) w->Q (.panic c) a w)
  (hf1:Flat enc1) (h1T:e1≠T) (hddB:d≠dB) (hA0:Pl A0) (hA:∀A∈As,Pl A) (hpl:∀p∈keep,Pl p.2) (hold:SubS old st.slots) (hoff:offB (dstsOf l) old=true)
  (h:∀w:World,DW P (E.re w st.own) st.own l.toArray (l.take n) st.slots (fun s'=>(look s' d=some (aAgg [A0,aFr w.heap.size (aVec e1 1 false enc1 xs1)])/\look s' dB=some (aBoxF w.heap.size T As))/\SubS keep s'))
  (k:∀r1 c1 b,Ent E ⟨(d,aAgg [A0,aEx (vec r1 xs1.length c1)])::(dB,aEx (.pointer (some ⟨b,0,none⟩)))::(keep++old),oBox b T As::oVec r1 c1 e1 1 false enc1 xs1::st.own⟩ (wpList P l.toArray Q (l.drop n))) :
  Ent E st ((Code.region id l.toArray true).wp P Q):=by
 refine F_1 n fl hm hn hB hF hsel hS hQ fun a w r=>?_
 refine DW.mono (h w) ?_
 rintro s' ⟨⟨h1,hb⟩,h2⟩ a' w' r' g ag
 obtain ⟨v1,p1,cs,rfl,hcl,hcs⟩:=r'.slots d _ h1
 obtain ⟨vb,pb,b,cur,rfl,q1,q2,q3,q4,q5⟩:=r'.slots dB _ hb
 match cs,hcl with
 | [u0,u1],_ =>
 have g0:=hcs 0 _ _ rfl rfl
 obtain ⟨r1,c1,e1',k1,m1⟩:=hcs 1 _ _ rfl rfl
 subst e1'
 have f1:∀b,r1=some b->w.heap.size<=b/\¬OO E st.own b:=fun b hb=>by
  have:=m1 b hb
  exact ⟨Nat.le_of_not_lt fun hlt=>this (.inr hlt),fun hO=>this (.inl hO)⟩
 have ty:∀ {b:Nat} {cur cur':Array Value} {e e':TypeId},w'.heap[b]? = some (.cells cur e (0,0))->w'.heap[b]? = some (.cells cur' e' (0,0))->e=e':=fun h1 h2=>by
  rw [h1] at h2
  injection h2 with h2
  injection h2 with _ h2
 have hrep:=rep_owns (l:=l) (news:=[oBox b T As,oVec r1 c1 e1 1 false enc1 xs1]) (T:=[(d,aAgg [A0,aEx (vec r1 xs1.length c1)]),(dB,aEx (.pointer (some ⟨b,0,none⟩)))]) r r' g ag
  ?_ ?_ ?_ ?_ h2 hpl hold hoff
 ·exact k r1 c1 b a' w' hrep
 ·intro i A hi
  rw [C_b] at hi
  split at hi
  ·rename_i e
   subst e
   cases hi
   refine ⟨_,p1,_,rfl,rfl,fun i A c hA' hc=>?_⟩
   match i,hA',hc with
   | 0,hA',hc=>cases hA';cases hc;exact hA0 _ _ _ _ _ g0
   | 1,hA',hc=>cases hA';cases hc;rfl
  ·rw [C_b] at hi
   split at hi
   ·rename_i e
    subst e
    cases hi
    exact ⟨_,pb,rfl⟩
   ·cases hi
 ·intro o ho b' hb'
  simp only [List.mem_cons,List.not_mem_nil,or_false] at ho
  rcases ho with rfl | rfl
  ·cases hb';exact ⟨q2,q1⟩
  ·exact f1 b' hb'
 ·refine List.Pairwise.cons (fun o ho b' h1' h2'=>?_) (List.Pairwise.cons (fun o ho=>by cases ho) List.Pairwise.nil)
  simp only [List.mem_cons,List.not_mem_nil,or_false] at ho
  cases h1'
  subst ho
  obtain ⟨cur1,t1⟩:=oVec_ty k1 h2'
  exact h1T (ty t1 q3)
 ·intro o ho
  simp only [List.mem_cons,List.not_mem_nil,or_false] at ho
  rcases ho with rfl | rfl
  ·exact ⟨cur,q3,q4,fun i A u hA' hu=>⟨hA A (m_G hA') _ _ _ _ _ (q5 i A u hA' hu).1,(q5 i A u hA' hu).2⟩⟩
  ·exact D_L hf1 k1
end
section drawsB
variable {P : Program} {E : Env} {own : List Own}
variable {s : List (Nat × AV)} {D : Nat -> Nat} {A : Nat -> AV} {l : List Oper} {n f f2 : Nat} {listed : Array Bool} {a : Act} {w : World}
theorem F_L {ops ops':Array Oper} {p:Nat} (h:∀i:Nat,i≠p->ops[i]? = ops'[i]?) {listed:Array Bool} (hp:listed.getD p false=true) (hs:p<listed.size) (j:Nat):j∈Region.ready .any ops listed↔j∈Region.ready .any ops' listed:=by
 rw [mem_ready,mem_ready]
 by_cases e:j=p
 ·subst e
  rw [C_u hs,hp]
  simp
 ·rw [h j e]
theorem D_g {Q:Exit->Act->World->Prop} {ops ops':Array Oper} {p:Nat} (h:∀i:Nat,i≠p->ops[i]? = ops'[i]?) (hd:∀i:Nat,(ops[i]?).bind (fun o:Oper=>o.dst)=(ops'[i]?).bind (fun o:Oper=>o.dst)) :
  ∀(c:Nat) (listed:Array Bool) (a:Act) (w:World),listed.getD p false=true->p<listed.size->wpAny P .any ops' Q c listed a w->wpAny P .any ops Q c listed a w
 | 0,listed,a,w,hp,hs,hh=>by
  refine ⟨List.eq_nil_iff_forall_not_mem.2 fun j hj=>?_,hh.2⟩
  have:=(F_L h hp hs j).1 hj
  rw [hh.1] at this;cases this
 | c+1,listed,a,w,hp,hs,hh=>by
  refine ⟨fun h0=>hh.1 (List.eq_nil_iff_forall_not_mem.2 fun j hj=>?_),fun j hj=>?_⟩
  ·have:=(F_L h hp hs j).2 hj
   rw [h0] at this;cases this
  ·have hj':=(F_L h hp hs j).1 hj
   have hjp:j≠p:=fun e=>by
    subst e
    have:=(mem_ready.1 hj).1
    rw [C_u hs,hp] at this;cases this
   have h1:=hh.2 j hj'
   have h2:wpOp P ops' Q j (wpAny P .any ops Q c (listed.setIfInBounds j true)) a w:=wpOp_mono (fun a' w' h'=>D_g h hd c _ a' w' (by rw [getD_set_ne false hjp];exact hp) (by simpa using hs) h') h1
   have hy:yielded ops=yielded ops':=by
    funext t q;unfold yielded;rw [hd]
   unfold wpOp at h2 ⊢
   rw [h j hjp,hy]
   exact h2
theorem draw_goB {Q:Exit->Act->World->Prop} {g:Nat} {fl:List Nat} (hB:drawF l n f2=true) (hF:flB l n fl=true) (hsel:Region.noSelect l.toArray=true) (hQ:∀c a w (d:Nat) v,Q (.panic c) (a.put (some d) v) w->Q (.panic c) a w)
  (hn:n<=l.length) (hspec:∀k o,k<n->l[k]? = some o->o.dst=some (D k)/\D k<E.n/\Spec P E own l.toArray (stt s D A k) o (A k))
  (I:Act->World->Prop) (hI:∀(j:Nat) (oj:Oper) (v:Value) (a:Act) (w w':World),j<n->l[j]? = some oj->Grow w w'->I a w->I (a.put oj.dst v) w')
  (p:Nat) (hpn:p<n) (hpfl:p∉fl) (hp2:∀(c:Nat) (listed:Array Bool) (a:Act) (w:World),((List.range n).filter fun i=>!((listed.setIfInBounds p true).getD i false)).length=c->I a w->DInv E own s D A l n 0 listed a w->listed.getD p false=false->(∀op,l[p]? = some op->OpR E (stt s D A p) own op a w/\∀e∈op.after,Region.binds .any e=true->listed.getD e.on false=true) ->
   wpOp P l.toArray Q p (wpAny P .any l.toArray Q (c+g) (listed.setIfInBounds p true)) a w) :
  ∀(c:Nat) (listed:Array Bool) (a:Act) (w:World),((List.range n).filter fun i=>!(listed.getD i false)).length=c->I a w->DInv E own s D A l n 0 listed a w->listed.getD p false=false ->
   wpAny P .any l.toArray Q (c+g) listed a w
 | 0,listed,a,w,hc,hgr,inv,hunp=>by
  have hnil:=List.eq_nil_of_length_eq_zero hc
  have:=List.filter_eq_nil_iff.1 hnil p (List.mem_range.2 hpn)
  simp [hunp] at this
 | c+1,listed,a,w,hc,hgr,inv,hunp=>by
  obtain ⟨hord,hlow⟩:=B_z hB
  obtain ⟨hfl1,hfl2⟩:=flB_spec hF
  have hex:∃j,j<n/\listed.getD j false=false:=by
   cases hl:(List.range n).filter fun i=>!(listed.getD i false) with
   | nil=>rw [hl] at hc;simp at hc
   | cons j r =>
    have : j∈(List.range n).filter fun i=>!(listed.getD i false):=by rw [hl];simp
    simp only [List.mem_filter,List.mem_range] at this
    exact ⟨j,this.1,by simpa using this.2⟩
  have hleast:∃k,k<n/\listed.getD k false=false/\∀i,i<k->listed.getD i false=true:=by
   obtain ⟨j,hj1,hj2⟩:=hex
   clear hc
   induction j using Nat.strongRecOn with
   | _ j ih =>
    by_cases h:∀i,i<j->listed.getD i false=true
    ·exact ⟨j,hj1,hj2,h⟩
    ·simp only [Classical.not_forall] at h
     obtain ⟨i,h1,h2⟩:=h
     exact ih i h1 (by omega) (by simpa using h2)
  have hrdy:∀k,k<n->listed.getD k false=false->(∀i,i<k->listed.getD i false=true)->k∈Region.ready .any l.toArray listed:=by
   intro k hk1 hk2 hk3
   have hkl:k<l.length:=by omega
   have hok:l[k]? = some l[k]:=g_E hkl
   exact mem_ready.2 ⟨by rw [C_u (by rw [inv.sz];exact hkl)];exact hk2,l[k],by simp [hok],fun e he hb=>hk3 _ (hlow k _ hok e he hb)⟩
  have hready:Region.ready .any l.toArray listed≠[]:=by
   obtain ⟨k,hk1,hk2,hk3⟩:=hleast
   intro h0
   have:=hrdy k hk1 hk2 hk3
   rw [h0] at this;cases this
  rw [show c+1+g=(c+g)+1 by omega]
  have hcnt:∀j,j<n->j<l.length->listed.getD j false=false->((List.range n).filter fun i=>!((listed.setIfInBounds j true).getD i false)).length=c:=by
   intro j hjn hjl hun
   have key:∀m,m<=n->((List.range m).filter fun i=>!((listed.setIfInBounds j true).getD i false)).length+(if j<m then 1 else 0)=((List.range m).filter fun i=>!(listed.getD i false)).length:=by
    intro m
    induction m with
    | zero=>intro _;simp
    | succ m ih =>
     intro hm
     have:=ih (by omega)
     rw [List.range_succ,List.filter_append,List.filter_append,l_A,l_A]
     by_cases hmj:m=j
     ·subst hmj
      have h1:(listed.setIfInBounds m true).getD m false=true:=by simp [inv.sz,hjl]
      rw [i_N (by omega)] at this
      simp only [List.filter_cons,h1,hun,List.filter_nil]
      simp at this ⊢
      omega
     ·have e0:(listed.setIfInBounds j true).getD m false=listed.getD m false:=getD_set_ne false (fun h=>hmj h.symm)
      have e1:(if j<m+1 then 1 else 0)=(if j<m then 1 else 0:Nat):=by
       by_cases hjm:j<m
       ·have : j<m+1:=by omega
        simp [hjm,this]
       ·have : ¬j<m+1:=by omega
        simp [hjm,this]
      rw [e1,List.filter_cons,List.filter_cons,e0]
      simp only [List.filter_nil]
      omega
   have:=key n (Nat.le_refl _)
   rw [i_P hjn,hc] at this
   omega
  have each:∀j,j∈Region.ready .any l.toArray listed->j<n->∃oj,l[j]? = some oj/\OpR E (stt s D A j) own oj a w /\
    (j≠p->∀v w',Grow w w'->(A j).holds w'.heap (OO E own) v->wpAny P .any l.toArray Q (c+g) (listed.setIfInBounds j true) (a.put oj.dst v) w')/\listed.getD j false=false /\
    (∀e∈oj.after,Region.binds .any e=true->listed.getD e.on false=true):=by
   intro j hj hjn
   obtain ⟨hun',oj,hoj',hall⟩:=mem_ready.1 hj
   have hoj:l[j]? = some oj:=by simpa using hoj'
   have hjl:j<l.length:=(g_S hoj).1
   have hun:listed.getD j false=false:=by rw [<- C_u (by rw [inv.sz];exact hjl)];exact hun'
   have hcount:=hcnt j hjn hjl hun
   have hopR:OpR E (stt s D A j) own oj a w:=⟨inv.world,fun x hx B hB'=>by
    cases x with
    | tmp t =>
     have ht:t∈namesOf l.toArray oj:=by
      unfold namesOf
      refine List.mem_append_left _ (List.mem_append_right _ ?_)
      exact List.mem_filterMap.2 ⟨.tmp t,by simpa using hx,rfl⟩
     obtain ⟨v,h1,h2⟩:=inv.slot2 hn hB hspec hoj hjn hun hall ht hB'
     show B.holds _ _ (a.tmps.getD t undef)
     rw [Array.getD_eq_getD_getElem?,h1]
     exact h2
    | const v=>simp only [opd,Option.some.injEq] at hB';subst hB';rfl
    | global g=>simp only [opd,Option.some.injEq] at hB';subst hB';rfl
    | func f=>simp only [opd,Option.some.injEq] at hB';subst hB';rfl⟩
   exact ⟨oj,hoj,hopR,fun hjp v w' gr hv=>draw_goB hB hF hsel hQ hn hspec I hI p hpn hpfl hp2 c _ _ _ hcount (hI j oj v a w w' hjn hoj gr hgr) (inv.step2 hB hn hspec hoj hjn hall gr hv) (by rw [getD_set_ne false hjp];exact hunp),hun,hall⟩
  by_cases hfl:∃i∈fl,i∈Region.ready .any l.toArray listed
  ·obtain ⟨i,hi1,hi2⟩:=hfl
   obtain ⟨hin,oi,hoi,hpure,hfree⟩:=hfl1 i hi1
   obtain ⟨oj,hoj,hopR,hnext0,_,_⟩:=each i hi2 hin
   have hnext:=hnext0 (fun e=>hpfl (e ▸ hi1))
   rw [hoi] at hoj;cases hoj
   obtain ⟨hd1,hd2,hsp⟩:=hspec i oi hin hoi
   have hgd:oi.guard=none:=by
    rcases oi with ⟨dst,op,ty,pos,af,g⟩
    cases dst <;> cases op <;> cases g <;> simp [pureOp] at hpure <;> rfl
   unfold Spec at hsp
   rw [hgd] at hsp
   obtain ⟨v,hy,hv⟩:=E_M (ops:=l.toArray) hd1 hpure hsp hopR (by rw [inv.size];exact hd2)
   exact wpAny_take (by simpa using hoi) hsel (hfree listed inv.sz inv.closed hi2) (by simpa using hi2) (fun c a w h=>by rw [hd1] at h;exact hQ c a w _ _ h) hy (hnext v w (Grow.refl w) hv)
  ·refine ⟨fun h0=>absurd h0 hready,fun j hj=>?_⟩
   have hjn:j<n:=by
    rcases Nat.lt_or_ge j n with h | h
    ·exact h
    ·exfalso
     obtain ⟨hun',oj,hoj',hall⟩:=mem_ready.1 hj
     have hoj:l[j]? = some oj:=by simpa using hoj'
     have hjl:j<l.length:=(g_S hoj).1
     obtain ⟨k,hk1,hk2,hk3⟩:=hleast
     by_cases hkf:k∈fl
     ·exact hfl ⟨k,hkf,hrdy k hk1 hk2 hk3⟩
     ·have hw:=hfl2 j h hjl k hk1 hkf
      have:=B_o inv.closed _ j k hw (fun oj' h'=>by
       have : oj'=oj:=by simp only [List.getElem?_toArray] at h';rw [hoj] at h';exact (Option.some.inj h').symm
       subst this;exact hall)
      rw [hk2] at this;cases this
   obtain ⟨oj,hoj,hopR,hnext0,hun,hall⟩:=each j hj hjn
   by_cases hjp:j=p
   ·subst hjp
    exact hp2 c listed a w (hcnt j hjn (by omega) hunp) hgr inv hunp (fun op hop=>by rw [hoj] at hop;cases hop;exact ⟨hopR,hall⟩)
   have hnext:=hnext0 hjp
   have hoj':l.toArray[j]? = some oj:=by simpa using hoj
   obtain ⟨hd1,hd2,hsp⟩:=hspec j oj hjn hoj
   unfold wpOp
   rw [hoj']
   dsimp only
   unfold Spec at hsp
   split at hsp
   ·rename_i hgd
    rw [i_P (by simp [Region.wanted,hgd])]
    exact .inl (hsp a w hopR _ _ hnext)
   ·rename_i jg want hgd
    obtain ⟨dj,gg,h1,h2,h3⟩:=hsp
    have hname:dj∈namesOf l.toArray oj:=by
     unfold namesOf
     refine List.mem_append_right _ ?_
     rw [hgd]
     simp only [h1]
     simp
    obtain ⟨v,hv1,hv2⟩:=inv.slot2 hn hB hspec hoj hjn hun hall hname h2
    have hy:yielded l.toArray a.tmps jg=gg:=F_Z h1 hv1 hv2
    rcases h3 with ⟨h4,h5⟩ | ⟨h4,h5⟩
    ·rw [i_P (by simp [Region.wanted,hgd,hy,h4])]
     exact .inl (h5 a w hopR _ _ hnext)
    ·rw [i_N (by simp [Region.wanted,hgd,hy,h4])]
     exact hnext undef w (Grow.refl w) (h5.holds _ _)
def DLs (Ls:List (Nat×AV)) (k:Nat):Nat:=(Ls.getD k (0,aAny)).1
def ALs (Ls:List (Nat×AV)) (k:Nat):AV:=(Ls.getD k (0,aAny)).2
theorem G_k (s:List (Nat×AV)) {Ls:List (Nat×AV)}:∀k,k<=Ls.length->sttL s Ls k=stt s (DLs Ls) (ALs Ls) k
 | 0,_=>rfl
 | k+1,h=>by
  have hk:Ls[k]? = some Ls[k]:=g_E (by omega)
  show (match Ls[k]? with | some q=>q::sttL s Ls k | none=>sttL s Ls k)=(DLs Ls k,ALs Ls k)::stt s (DLs Ls) (ALs Ls) k
  rw [hk,G_k s k (by omega)]
  simp [DLs,ALs,List.getD,hk]
theorem G_4 {os:List Oper} {Ls s:List (Nat×AV)} {K:List (Nat×AV)->Prop} (ops:Array Oper) (h:DWL P E own os Ls s K) (hE:(Ls.all fun q=>Nat.ble (q.1+1) E.n)=true) :
  os.length=Ls.length/\(∀k o,os[k]? = some o->o.dst=some (DLs Ls k)/\DLs Ls k<E.n/\Spec P E own ops (stt s (DLs Ls) (ALs Ls) k) o (ALs Ls k))/\K (stt s (DLs Ls) (ALs Ls) os.length):=by
 obtain ⟨h1,h2,h3⟩:=dwl_fun os Ls s K h
 refine ⟨h1,fun k o hk=>?_,?_⟩
 ·have hlt:k<os.length:=(g_S hk).1
  have hp:Ls[k]? = some Ls[k]:=g_E (by omega)
  obtain ⟨g1,g2,g3⟩:=h2 k o _ hk hp
  have e1:DLs Ls k=Ls[k].1:=by simp [DLs,List.getD,hp]
  have e2:ALs Ls k=Ls[k].2:=by simp [ALs,List.getD,hp]
  rw [e1,e2]
  refine ⟨g1,b_L (List.all_eq_true.1 hE _ (List.getElem_mem (by omega))),?_⟩
  unfold Spec
  rw [g2]
  rw [G_k s k (by omega)] at g3
  exact g3
 ·rw [G_k s _ (by omega)] at h3;exact h3
theorem A_c {o:Oper} {r:List Oper} {d:Nat} {A:AV} {ls s:List (Nat×AV)} {K:List (Nat×AV)->Prop} (h1:o.dst=some d) (h2:o.guard=none) (h3:OpOK P E s own o A) (h4:DWL P E own r ls ((d,A)::s) K):DWL P E own (o::r) ((d,A)::ls) s K:=⟨h1,h2,h3,h4⟩
theorem C_C {s:List (Nat×AV)} {K:List (Nat×AV)->Prop} (h:K s):DWL P E own [] [] s K:=h
def ptrOp (dB:Nat) (ty:TypeId) (pos:String) (b:Nat):Oper:=⟨some dB,.move (.const (.pointer (some ⟨b,0,none⟩))),ty,pos,#[],none⟩
theorem RepW.new {w w':World} (r:RepW E own w) (g:Grow w w') (o:Own) (hb:∀b,o.has b->w.heap.size<=b) (ho:o.holds w'.heap (OO E (o::own))) (a:Act) (ha:a.tmps.size=E.n) (hd:a.defers=E.ds):RepW E (o::own) w':=by
 have r0:Rep E ⟨[],own⟩ a w:=⟨ha,hd,(fun i A h=>by cases h),r.own,r.apart,r.free,r.xold,r.keep⟩
 have r1:=r0.new g o hb ho
 exact ⟨r1.own,r1.apart,r1.free,r1.xold,r1.keep⟩
theorem C_m {st:St} {Q:Exit->Act->World->Prop} {id:Nat} {l:List Oper} {T:TypeId} {z:Value} {As:List AV} {ty:TypeId} {pos:String} (n:Nat) (fl:List Nat) (p dB:Nat) (Ls:List (Nat×AV)) (hm:P.follows .mixedOrders=true) (hn:Nat.ble n l.length=true) (hB:drawF l n n=true) (hF:flB l n fl=true) (hsel:Region.noSelect l.toArray=true)
  (hS:Region.seqB .any l.toArray (l.length-n) n (Array.replicate n true++Array.replicate (l.length-n) false)=true) (hQ:∀c a w (d:Nat) v,Q (.panic c) (a.put (some d) v) w->Q (.panic c) a w)
  (hp:l[p]? = some ⟨some dB,.alloc T,ty,pos,#[],none⟩) (hpn:Nat.ble (p+1) n=true) (hpfl:fl.contains p=false)
  (hB2:∀b,drawF (l.set p (ptrOp dB ty pos b)) n n=true) (hF2:∀b,flB (l.set p (ptrOp dB ty pos b)) n fl=true) (hsel2:∀b,Region.noSelect (l.set p (ptrOp dB ty pos b)).toArray=true)
  (hz:∀w,(zeroValue T).run P w = .ok z w) (hl:z.cells.size=As.length) (hA:∀h O (i:Nat) (A:AV) (u:Value),As[i]? = some A->z.cells.toList[i]? = some u->A.holds h O u/\u.oneCell'=true)
  (hE:(Ls.all fun q=>Nat.ble (q.1+1) E.n)=true) (h1:DWL P E st.own (l.take n) Ls st.slots (fun _=>True))
  (h2:∀b,DWL P E (oBox b T As::st.own) ((l.set p (ptrOp dB ty pos b)).take n) (Ls.set p (dB,aEx (.pointer (some ⟨b,0,none⟩)))) st.slots (fun s'=>Ent E ⟨s',oBox b T As::st.own⟩ (wpList P l.toArray Q (l.drop n)))) :
  Ent E st ((Code.region id l.toArray true).wp P Q):=by
 intro a w r
 have hnl:n<=l.length:=b_L hn
 have hpn':p<n:=b_L hpn
 obtain ⟨g1,g2,_⟩:=G_4 l.toArray h1 hE
 have hlen:(l.take n).length=n:=by simp [hnl]
 rw [hlen] at g1
 have hspec:∀k o,k<n->l[k]? = some o->o.dst=some (DLs Ls k)/\DLs Ls k<E.n/\Spec P E st.own l.toArray (stt st.slots (DLs Ls) (ALs Ls) k) o (ALs Ls k):=fun k o hk ho=>g2 k o (by rw [List.getElem?_take,i_P hk];exact ho)
 have hDp:DLs Ls p=dB:=by
  have:=(hspec p _ hpn' hp).1
  exact (Option.some.inj this).symm
 refine wp_region_any hm ?_
 have r1:Rep E st a w.drew:=r.grow (Grow.drew w)
 have inv:=D_i (D:=DLs Ls) (A:=ALs Ls) (l:=l) (n:=n) r1
 have h0:(Array.replicate 0 true++Array.replicate (l.length-0) false)=Array.replicate l.length false:=by simp
 rw [h0] at inv
 have hff:∀i,(Array.replicate l.length false).getD i false=false:=fun i=>by
  rw [Array.getD_eq_getD_getElem?]
  by_cases hi:i<l.length
  ·simp [hi]
  ·simp [hi]
 have hcount:((List.range n).filter fun i=>!((Array.replicate l.length false).getD i false)).length=n:=by
  rw [List.filter_eq_self.2 (fun i _=>by simp [hff i])];simp
 have hord:=(B_z hB).1
 have hne:∀i,i<n->i≠p->DLs Ls i≠dB:=fun i hi hip he=>by
  have hil:i<l.length:=by omega
  have hoi:l[i]? = some l[i]:=g_E hil
  rcases Nat.lt_or_gt_of_ne hip with hlt | hgt
  ·have:=(hord i p _ _ hlt hoi hp).2.2 hpn' (DLs Ls i) (hspec i _ hi hoi).1
   exact this (by rw [he])
  ·have:=(hord p i _ _ hgt hp hoi).2.2 hi dB rfl
   rw [(hspec i _ hi hoi).1,he] at this
   exact this rfl
 have hpl:p<l.length:=by omega
 have:=draw_goB (P:=P) (Q:=Q) (g:=l.length-n) hB hF hsel hQ hnl hspec (fun _ _=>True) (fun _ _ _ _ _ _ _ _ _ _=>trivial) p hpn' (fun hm=>by have:=List.contains_iff_mem.2 hm;rw [this] at hpfl;cases hpfl) ?_ n _ a w.drew hcount trivial inv (hff p)
 ·rw [show n+(l.length-n)=l.length by omega] at this
  simpa using this
 ·intro c listed a w hcount _ inv hunp _
  have hop:l.toArray[p]? = some ⟨some dB,.alloc T,ty,pos,#[],none⟩:=by simpa using hp
  have gr:=Grow.alloc w (.cells z.cells T)
  have hrun:(execOp a.eval ⟨some dB,.alloc T,ty,pos,#[],none⟩).run P w = .ok (.value (.pointer (some ⟨w.heap.size,0,none⟩))) (w.alloc (.cells z.cells T)):=by
   simp [execOp,Instr.alloc,hz,newVar,newRow]
  unfold wpOp
  rw [hop]
  dsimp only
  rw [i_P (by simp [Region.wanted])]
  refine .inl ?_
  unfold Oper.wp
  rw [hrun,Oper.upon_value]
  generalize hbb:w.heap.size=b at hrun
  let l2:=l.set p (ptrOp dB ty pos b)
  let L2:=Ls.set p (dB,aEx (.pointer (some ⟨b,0,none⟩)))
  let own2:=oBox b T As::st.own
  have hl2:l2.length=l.length:=l_S
  have hne2:∀i:Nat,i≠p->l.toArray[i]? = l2.toArray[i]?:=fun i hi=>by
   show l.toArray[i]? = (l.set p _).toArray[i]?
   rw [List.getElem?_toArray,List.getElem?_toArray,List.getElem?_set_ne (Ne.symm hi)]
  have hd2:∀i:Nat,(l.toArray[i]?).bind (fun o:Oper=>o.dst)=(l2.toArray[i]?).bind (fun o:Oper=>o.dst):=fun i=>by
   by_cases hi:i=p
   ·subst hi
    show _=((l.set i _).toArray[i]?).bind _
    rw [hop,List.getElem?_toArray,List.getElem?_set_self hpl];rfl
   ·rw [hne2 i hi]
  have hlp:(listed.setIfInBounds p true).getD p false=true:=by
   have : p<listed.size:=by rw [inv.sz];exact hpl
   simp [this]
  have hsz:p<(listed.setIfInBounds p true).size:=by rw [Array.size_setIfInBounds,inv.sz];exact hpl
  refine D_g hne2 hd2 _ _ _ _ hlp hsz ?_
  have hE2:(L2.all fun q=>Nat.ble (q.1+1) E.n)=true:=by
   refine List.all_eq_true.2 fun q hq=>?_
   rcases List.mem_or_eq_of_mem_set hq with h | h
   ·exact List.all_eq_true.1 hE q h
   ·rw [h]
    have:=(hspec p _ hpn' hp).2.1
    rw [hDp] at this
    exact Nat.ble_eq_true_of_le this
  obtain ⟨k1,k2,k3⟩:=G_4 l2.toArray (h2 b) hE2
  have hlen2:(l2.take n).length=n:=by rw [List.length_take,hl2];omega
  rw [hlen2] at k3
  have hspec2:∀k o,k<n->l2[k]? = some o->o.dst=some (DLs L2 k)/\DLs L2 k<E.n/\Spec P E own2 l2.toArray (stt st.slots (DLs L2) (ALs L2) k) o (ALs L2 k):=fun k o hk ho=>k2 k o (by rw [List.getElem?_take,i_P hk];exact ho)
  have hLl:p<Ls.length:=by omega
  have dl:∀i,i≠p->DLs L2 i=DLs Ls i/\ALs L2 i=ALs Ls i:=fun i hi=>by
   constructor
   ·show ((Ls.set p _).getD i (0,aAny)).1=(Ls.getD i (0,aAny)).1
    simp only [List.getD];rw [List.getElem?_set_ne (Ne.symm hi)]
   ·show ((Ls.set p _).getD i (0,aAny)).2=(Ls.getD i (0,aAny)).2
    simp only [List.getD];rw [List.getElem?_set_ne (Ne.symm hi)]
  have dp:DLs L2 p=dB/\ALs L2 p=aEx (.pointer (some ⟨b,0,none⟩)):=by
   constructor
   ·show ((Ls.set p _).getD p (0,aAny)).1=_
    simp only [List.getD];rw [List.getElem?_set_self hLl];rfl
   ·show ((Ls.set p _).getD p (0,aAny)).2=_
    simp only [List.getD];rw [List.getElem?_set_self hLl];rfl
  have hset:∀i,i≠p->(listed.setIfInBounds p true).getD i false=listed.getD i false:=fun i hi=>getD_set_ne false (Ne.symm hi)
  have hdBn:dB<E.n:=by have:=(hspec p _ hpn' hp).2.1;rwa [hDp] at this
  have ho:(oBox b T As).holds (w.alloc (.cells z.cells T)).heap (OO E own2):=by
   refine ⟨z.cells.toList,?_,by simpa using hl,fun i A u h1 h2=>hA _ _ i A u h1 h2⟩
   rw [<- hbb];exact heap_alloc_new w _
  have inv2:DInv E own2 st.slots (DLs L2) (ALs L2) l2 n 0 (listed.setIfInBounds p true) (a.put (some dB) (.pointer (some ⟨b,0,none⟩))) (w.alloc (.cells z.cells T)):=by
   refine ⟨by rw [Array.size_setIfInBounds,inv.sz,hl2],fun i hi=>by omega,?_,fun t ht=>by rw [hset t (by omega)];exact inv.tail t ht,inv.world.new gr _ (fun b' hb'=>by cases hb';omega) ho a inv.size inv.defers,by simp [Act.put,inv.size],by simpa [Act.put] using inv.defers,?_,?_⟩
   ·intro k ok hk hlk e he hb
    by_cases hkp:k=p
    ·subst hkp
     have : ok=ptrOp dB ty pos b:=by
      have h3:(l.set k (ptrOp dB ty pos b)).toArray[k]? = some ok:=hk
      rw [List.getElem?_toArray,List.getElem?_set_self hpl] at h3
      exact (Option.some.inj h3).symm
     rw [this] at he
     exact absurd he (by simp [ptrOp])
    ·have hk':l.toArray[k]? = some ok:=by rw [hne2 k hkp];exact hk
     rw [hset k hkp] at hlk
     exact getD_set_true (inv.closed k ok hk' hlk e he hb)
   ·intro i hin hli
    by_cases hip:i=p
    ·subst hip
     rw [dp.1,dp.2]
     refine ⟨_,?_,rfl⟩
     simp only [Act.put]
     rw [Array.getElem?_setIfInBounds_self,i_P (by rw [inv.size];exact hdBn)]
    ·rw [hset i hip] at hli
     rw [(dl i hip).1,(dl i hip).2]
     obtain ⟨u,e1,e2⟩:=inv.done i hin hli
     refine ⟨u,?_,AV.new (o:=oBox b T As) e2 (fun b' hb'=>by cases hb';omega) gr⟩
     simp only [Act.put]
     rw [Array.getElem?_setIfInBounds_ne (Ne.symm (hne i hin hip))]
     exact e1
   ·intro t B hlook hno
    have htB:dB≠t:=by
     have:=hno p hpn' hlp
     rwa [dp.1] at this
    obtain ⟨u,e1,e2⟩:=inv.base t B hlook fun i hin hli=>by
     have hip:i≠p:=fun e=>by rw [e,hunp] at hli;cases hli
     have:=hno i hin (by rw [hset i hip];exact hli)
     rwa [(dl i hip).1] at this
    refine ⟨u,?_,AV.new (o:=oBox b T As) e2 (fun b' hb'=>by cases hb';omega) gr⟩
    simp only [Act.put]
    rw [Array.getElem?_setIfInBounds_ne htB]
    exact e1
  rw [hbb] at *
  refine E_7 (P:=P) (l:=l2) (Q:=Q) (g:=l.length-n) (hB2 b) (hF2 b) (hsel2 b) hQ (by rw [hl2];exact hnl) hspec2 (fun a' _=>True) (fun _ _ _ _ _ _ _ _ _ _=>trivial) ?_ c _ _ _ hcount trivial inv2
  intro listed' a' w' _ inv' hall
  have hrep:=inv'.end2 (hB2 b) (by rw [hl2];exact hnl) hspec2 hall
  have hlisted:listed'=Array.replicate n true++Array.replicate (l.length-n) false:=by
   apply Array.ext
   ·simp [inv'.sz,hl2];omega
   ·intro i hi1 hi2
    have hd:listed'.getD i false=listed'[i]:=by simp [hi1]
    rcases Nat.lt_or_ge i n with h | h
    ·rw [<- hd,hall i h,Array.getElem_append_left (by simpa using h)];simp
    ·rw [<- hd,inv'.tail i h,Array.getElem_append_right (by simpa using h)];simp
  refine D_g (p:=p) (fun i hi=>(hne2 i hi).symm) (fun i=>(hd2 i).symm) _ _ _ _ (hall p hpn') (by rw [inv'.sz,hl2];exact hpl) ?_
  have hdl:(l.drop n).length=l.length-n:=by simp
  rw [<- hdl]
  refine wpAny_of_seq (l.drop n) n listed' a' w' (fun j=>by simp [g_D]) ?_ (k3 a' w' hrep)
  rw [hdl,hlisted]
  exact hS
end drawsB
section drawsW
variable {P : Program} {E : Env} {own : List Own}
theorem RepW.news {w w':World} {news:List Own} (r:RepW E own w) (g:Grow w w') (hb:∀o∈news,∀b,o.has b->w.heap.size<=b) (ho:∀o∈news,o.holds w'.heap (OO E (news++own))) (hap:news.Pairwise fun o o'=>∀b,o.has b->¬o'.has b) (a:Act) (ha:a.tmps.size=E.n) (hd:a.defers=E.ds) :
  RepW E (news++own) w'/\∀(A:AV) v,A.holds w.heap (OO E own) v->A.holds w'.heap (OO E (news++own)) v:=by
 have r0:Rep E ⟨[],own⟩ a w:=⟨ha,hd,(fun i A h=>by cases h),r.own,r.apart,r.free,r.xold,r.keep⟩
 have hlt:∀b,OO E own b->b<w.heap.size:=St.O_lt r0
 have hO:∀b,b<w.heap.size->OO E (news++own) b->OO E own b:=by
  rintro b hbs (h | ⟨o,hm,hob⟩)
  ·exact .inl h
  ·rcases List.mem_append.1 hm with hm | hm
   ·have:=hb o hm b hob;omega
   ·exact .inr ⟨o,hm,hob⟩
 have hav:∀(A:AV) v,A.holds w.heap (OO E own) v->A.holds w'.heap (OO E (news++own)) v:=fun A v h=>A.mono _ _ _ _ _ h g.size (fun b hbs _=>g.block b hbs) hO
 refine ⟨⟨fun o hm=>?_,?_,fun o hm b hob=>?_,r.xold,?_⟩,hav⟩
 ·rcases List.mem_append.1 hm with hm | hm
  ·exact ho o hm
  ·exact o.mono _ _ _ _ (r.own o hm) g.size (fun b hbs _=>g.block b hbs) hO
 ·rw [List.pairwise_append]
  exact ⟨hap,r.apart,fun o h1 o' h2 b hb1 hb2=>by have:=hb o h1 b hb1;have:=hlt b (.inr ⟨o',h2,hb2⟩);omega⟩
 ·rcases List.mem_append.1 hm with hm | hm
  ·have h1:=hb o hm b hob
   have h2:=r.keep.size
   exact ⟨fun hx=>by have:=r.xold b hx;omega,.inl (by omega)⟩
  ·exact r.free o hm b hob
 ·have hk:=r.keep
  exact ⟨g.os.trans hk.os,g.tape.trans hk.tape,g.output.trans hk.output,Nat.le_trans hk.size g.size,fun b hbs hm=>by rw [g.block b (Nat.lt_of_lt_of_le hbs hk.size),hk.block b hbs hm]⟩
def valOp (d:Nat) (ty:TypeId) (pos:String) (af:Array Edge) (v:Value):Oper:=⟨some d,.move (.const v),ty,pos,af,none⟩
theorem ent_drawW2 {st:St} {Q:Exit->Act->World->Prop} {id:Nat} {l:List Oper} {ty:TypeId} {pos:String} {af:Array Edge} {β:Type} {f:FuncId} {xs:List Operand} {tys:Array TypeId} {As:List AV} {φ:β->Prop} {val:β->Value} {Ws:β->List Own}
  (n:Nat) (fl:List Nat) (p d:Nat) (Ls:List (Nat×AV)) (hm:P.follows .mixedOrders=true) (hn:Nat.ble n l.length=true) (hB:drawF l n n=true) (hF:flB l n fl=true) (hsel:Region.noSelect l.toArray=true)
  (hS:Region.seqB .any l.toArray (l.length-n) n (Array.replicate n true++Array.replicate (l.length-n) false)=true) (hQ:∀c a w (d:Nat) v,Q (.panic c) (a.put (some d) v) w->Q (.panic c) a w)
  (hp:l[p]? = some ⟨some d,.call { callee:=.value (.func f),args:=xs.toArray,argTypes:=tys },ty,pos,af,none⟩) (hpn:Nat.ble (p+1) n=true) (hpfl:fl.contains p=false)
  (hB2:∀v,drawF (l.set p (valOp d ty pos af v)) n n=true) (hF2:∀v,flB (l.set p (valOp d ty pos af v)) n fl=true) (hsel2:∀v,Region.noSelect (l.set p (valOp d ty pos af v)).toArray=true)
  (c:CtrW P f [] As φ (fun y=>aEx (val y)) Ws)
  (hE:(Ls.all fun q=>Nat.ble (q.1+1) E.n)=true) (hx:ArgsA E (sttL st.slots Ls p) st.own (OO E st.own) xs As) (h1:DWL P E st.own (l.take n) Ls st.slots (fun _=>True))
  (h2:∀y,φ y->DWL P E (Ws y++st.own) ((l.set p (valOp d ty pos af (val y))).take n) (Ls.set p (d,aEx (val y))) st.slots (fun s'=>Ent E ⟨s',Ws y++st.own⟩ (wpList P l.toArray Q (l.drop n)))) :
  Ent E st ((Code.region id l.toArray true).wp P Q):=by
 intro a w r
 have hnl:n<=l.length:=b_L hn
 have hpn':p<n:=b_L hpn
 obtain ⟨g1,g2,_⟩:=G_4 l.toArray h1 hE
 have hlen:(l.take n).length=n:=by simp [hnl]
 rw [hlen] at g1
 have hspec:∀k o,k<n->l[k]? = some o->o.dst=some (DLs Ls k)/\DLs Ls k<E.n/\Spec P E st.own l.toArray (stt st.slots (DLs Ls) (ALs Ls) k) o (ALs Ls k):=fun k o hk ho=>g2 k o (by rw [List.getElem?_take,i_P hk];exact ho)
 have hDp:DLs Ls p=d:=by
  have:=(hspec p _ hpn' hp).1
  exact (Option.some.inj this).symm
 refine wp_region_any hm ?_
 have r1:Rep E st a w.drew:=r.grow (Grow.drew w)
 have inv:=D_i (D:=DLs Ls) (A:=ALs Ls) (l:=l) (n:=n) r1
 have h0:(Array.replicate 0 true++Array.replicate (l.length-0) false)=Array.replicate l.length false:=by simp
 rw [h0] at inv
 have hff:∀i,(Array.replicate l.length false).getD i false=false:=fun i=>by
  rw [Array.getD_eq_getD_getElem?]
  by_cases hi:i<l.length
  ·simp [hi]
  ·simp [hi]
 have hcount:((List.range n).filter fun i=>!((Array.replicate l.length false).getD i false)).length=n:=by
  rw [List.filter_eq_self.2 (fun i _=>by simp [hff i])];simp
 have hord:=(B_z hB).1
 have hne:∀i,i<n->i≠p->DLs Ls i≠d:=fun i hi hip he=>by
  have hil:i<l.length:=by omega
  have hoi:l[i]? = some l[i]:=g_E hil
  rcases Nat.lt_or_gt_of_ne hip with hlt | hgt
  ·have:=(hord i p _ _ hlt hoi hp).2.2 hpn' (DLs Ls i) (hspec i _ hi hoi).1
   exact this (by rw [he])
  ·have:=(hord p i _ _ hgt hp hoi).2.2 hi d rfl
   rw [(hspec i _ hi hoi).1,he] at this
   exact this rfl
 have hpl:p<l.length:=by omega
 have:=draw_goB (P:=P) (Q:=Q) (g:=l.length-n) hB hF hsel hQ hnl hspec (fun _ _=>True) (fun _ _ _ _ _ _ _ _ _ _=>trivial) p hpn' (fun hm=>by have:=List.contains_iff_mem.2 hm;rw [this] at hpfl;cases hpfl) ?_ n _ a w.drew hcount trivial inv (hff p)
 ·rw [show n+(l.length-n)=l.length by omega] at this
  simpa using this
 ·intro cc listed a w hcount _ inv hunp hop0
  obtain ⟨hopR,hrdy⟩:=hop0 _ hp
  have hop:l.toArray[p]? = some ⟨some d,.call { callee:=.value (.func f),args:=xs.toArray,argTypes:=tys },ty,pos,af,none⟩:=by simpa using hp
  have hrun:(execOp a.eval ⟨some d,.call { callee:=.value (.func f),args:=xs.toArray,argTypes:=tys },ty,pos,af,none⟩).run P w = .ok (.enter f (xs.map a.eval).toArray) w:=by
   simp [execOp,resolve,Act.eval,Deferred.ofValue,invoke,c.1]
  unfold wpOp
  rw [hop]
  dsimp only
  rw [i_P (by simp [Region.wanted])]
  refine .inl ?_
  unfold Oper.wp
  rw [hrun,Oper.upon_enter]
  have hno:∀b,¬Blks [] b:=fun b ⟨o,ho,_⟩=>by cases ho
  have hpLs:p<=Ls.length:=by omega
  rw [G_k st.slots p hpLs] at hx
  have hargs:=hx.holds hopR (fun x hx=>by simp [Op.operands,Call.operands,hx])
  refine (c.2 w (OO E st.own) _ (fun b hb=>hopR.lt b hb) ⟨fun o ho=>by (cases ho),List.Pairwise.nil,fun o ho=>by (cases ho)⟩ ⟨hargs.1,fun i B v hB hv=>AV.less (hargs.2 i B v hB hv) fun b _ hb=>hb.resolve_right (hno b)⟩).mono ?_
  rintro e w' ⟨v,y,rfl,hy,hA,hL,hBk,hk⟩
  have hA:v=val y:=hA
  subst hA
  have gr:Grow w w':=⟨hk.os,hk.tape,hk.output,hk.size,fun b hb=>hk.block b hb (hno b)⟩
  have hnew:∀o∈Ws y,∀b,o.has b->w.heap.size<=b:=fun o ho b hob=>(hBk o ho b hob).resolve_left (hno b)
  let l2:=l.set p (valOp d ty pos af (val y))
  let L2:=Ls.set p (d,aEx (val y))
  let own2:=Ws y++st.own
  have hl2:l2.length=l.length:=l_S
  have hOn:∀b,OO E own2 b->OO E st.own b\/Blks (Ws y) b:=by
   rintro b (h | ⟨o,ho,hob⟩)
   ·exact .inl (.inl h)
   ·rcases List.mem_append.1 ho with ho | ho
    ·exact .inr ⟨o,ho,hob⟩
    ·exact .inl (.inr ⟨o,ho,hob⟩)
  obtain ⟨hRW,hav⟩:=inv.world.news (news:=Ws y) gr hnew (fun o ho=>Own.less (hL.own o ho) fun b hb=>hOn b hb) hL.apart a inv.size inv.defers
  have hne2:∀i:Nat,i≠p->l.toArray[i]? = l2.toArray[i]?:=fun i hi=>by
   show l.toArray[i]? = (l.set p _).toArray[i]?
   rw [List.getElem?_toArray,List.getElem?_toArray,List.getElem?_set_ne (Ne.symm hi)]
  have hd2:∀i:Nat,(l.toArray[i]?).bind (fun o:Oper=>o.dst)=(l2.toArray[i]?).bind (fun o:Oper=>o.dst):=fun i=>by
   by_cases hi:i=p
   ·subst hi
    show _=((l.set i _).toArray[i]?).bind _
    rw [hop,List.getElem?_toArray,List.getElem?_set_self hpl];rfl
   ·rw [hne2 i hi]
  have hlp:(listed.setIfInBounds p true).getD p false=true:=by
   have : p<listed.size:=by rw [inv.sz];exact hpl
   simp [this]
  have hsz:p<(listed.setIfInBounds p true).size:=by rw [Array.size_setIfInBounds,inv.sz];exact hpl
  refine D_g hne2 hd2 _ _ _ _ hlp hsz ?_
  have hdn:d<E.n:=by have:=(hspec p _ hpn' hp).2.1;rwa [hDp] at this
  have hE2:(L2.all fun q=>Nat.ble (q.1+1) E.n)=true:=by
   refine List.all_eq_true.2 fun q hq=>?_
   rcases List.mem_or_eq_of_mem_set hq with h | h
   ·exact List.all_eq_true.1 hE q h
   ·rw [h];exact Nat.ble_eq_true_of_le hdn
  obtain ⟨k1,k2,k3⟩:=G_4 l2.toArray (h2 y hy) hE2
  have hlen2:(l2.take n).length=n:=by rw [List.length_take,hl2];omega
  rw [hlen2] at k3
  have hspec2:∀k o,k<n->l2[k]? = some o->o.dst=some (DLs L2 k)/\DLs L2 k<E.n/\Spec P E own2 l2.toArray (stt st.slots (DLs L2) (ALs L2) k) o (ALs L2 k):=fun k o hk ho=>k2 k o (by rw [List.getElem?_take,i_P hk];exact ho)
  have hLl:p<Ls.length:=by omega
  have dl:∀i,i≠p->DLs L2 i=DLs Ls i/\ALs L2 i=ALs Ls i:=fun i hi=>by
   constructor
   ·show ((Ls.set p _).getD i (0,aAny)).1=(Ls.getD i (0,aAny)).1
    simp only [List.getD];rw [List.getElem?_set_ne (Ne.symm hi)]
   ·show ((Ls.set p _).getD i (0,aAny)).2=(Ls.getD i (0,aAny)).2
    simp only [List.getD];rw [List.getElem?_set_ne (Ne.symm hi)]
  have dp:DLs L2 p=d/\ALs L2 p=aEx (val y):=by
   constructor
   ·show ((Ls.set p _).getD p (0,aAny)).1=_
    simp only [List.getD];rw [List.getElem?_set_self hLl];rfl
   ·show ((Ls.set p _).getD p (0,aAny)).2=_
    simp only [List.getD];rw [List.getElem?_set_self hLl];rfl
  have hset:∀i,i≠p->(listed.setIfInBounds p true).getD i false=listed.getD i false:=fun i hi=>getD_set_ne false (Ne.symm hi)
  have inv2:DInv E own2 st.slots (DLs L2) (ALs L2) l2 n 0 (listed.setIfInBounds p true) (a.put (some d) (val y)) w':=by
   refine ⟨by rw [Array.size_setIfInBounds,inv.sz,hl2],fun i hi=>by omega,?_,fun t ht=>by rw [hset t (by omega)];exact inv.tail t ht,hRW,by simp [Act.put,inv.size],by simpa [Act.put] using inv.defers,?_,?_⟩
   ·intro k ok hk hlk e he hb
    by_cases hkp:k=p
    ·subst hkp
     have : ok=valOp d ty pos af (val y):=by
      have h3:(l.set k (valOp d ty pos af (val y))).toArray[k]? = some ok:=hk
      rw [List.getElem?_toArray,List.getElem?_set_self hpl] at h3
      exact (Option.some.inj h3).symm
     rw [this] at he
     exact getD_set_true (hrdy e he hb)
    ·have hk':l.toArray[k]? = some ok:=by rw [hne2 k hkp];exact hk
     rw [hset k hkp] at hlk
     exact getD_set_true (inv.closed k ok hk' hlk e he hb)
   ·intro i hin hli
    by_cases hip:i=p
    ·subst hip
     rw [dp.1,dp.2]
     refine ⟨_,?_,rfl⟩
     simp only [Act.put]
     rw [Array.getElem?_setIfInBounds_self,i_P (by rw [inv.size];exact hdn)]
    ·rw [hset i hip] at hli
     rw [(dl i hip).1,(dl i hip).2]
     obtain ⟨u,e1,e2⟩:=inv.done i hin hli
     refine ⟨u,?_,hav _ _ e2⟩
     simp only [Act.put]
     rw [Array.getElem?_setIfInBounds_ne (Ne.symm (hne i hin hip))]
     exact e1
   ·intro t B hlook hno2
    have htB:d≠t:=by
     have:=hno2 p hpn' hlp
     rwa [dp.1] at this
    obtain ⟨u,e1,e2⟩:=inv.base t B hlook fun i hin hli=>by
     have hip:i≠p:=fun e=>by rw [e,hunp] at hli;cases hli
     have:=hno2 i hin (by rw [hset i hip];exact hli)
     rwa [(dl i hip).1] at this
    refine ⟨u,?_,hav _ _ e2⟩
    simp only [Act.put]
    rw [Array.getElem?_setIfInBounds_ne htB]
    exact e1
  refine E_7 (P:=P) (l:=l2) (Q:=Q) (g:=l.length-n) (hB2 _) (hF2 _) (hsel2 _) hQ (by rw [hl2];exact hnl) hspec2 (fun a' _=>True) (fun _ _ _ _ _ _ _ _ _ _=>trivial) ?_ cc _ _ _ hcount trivial inv2
  intro listed' a' w'' _ inv' hall
  have hrep:=inv'.end2 (hB2 _) (by rw [hl2];exact hnl) hspec2 hall
  have hlisted:listed'=Array.replicate n true++Array.replicate (l.length-n) false:=by
   apply Array.ext
   ·simp [inv'.sz,hl2];omega
   ·intro i hi1 hi2
    have hd:listed'.getD i false=listed'[i]:=by simp [hi1]
    rcases Nat.lt_or_ge i n with h | h
    ·rw [<- hd,hall i h,Array.getElem_append_left (by simpa using h)];simp
    ·rw [<- hd,inv'.tail i h,Array.getElem_append_right (by simpa using h)];simp
  refine D_g (p:=p) (fun i hi=>(hne2 i hi).symm) (fun i=>(hd2 i).symm) _ _ _ _ (hall p hpn') (by rw [inv'.sz,hl2];exact hpl) ?_
  have hdl:(l.drop n).length=l.length-n:=by simp
  rw [<- hdl]
  refine wpAny_of_seq (l.drop n) n listed' a' w'' (fun j=>by simp [g_D]) ?_ (k3 a' w'' hrep)
  rw [hdl,hlisted]
  exact hS
end drawsW
end Go.Cw
