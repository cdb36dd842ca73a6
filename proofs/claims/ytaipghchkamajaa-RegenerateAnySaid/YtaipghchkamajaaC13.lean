/-
  Walks of functions of the program and the reference.
-/
import Derived.Test.YtaipghchkamajaaC12
open Go Go.Cw
namespace Go.Proofs.Ytaipghchkamajaa
open Try
set_option maxRecDepth 100000
set_option linter.unusedVariables false
set_option linter.unusedSimpArgs false
set_option maxHeartbeats 4000000 in
theorem eliminate_ok (f:Fld) (r:Option Nat) (cap:Nat) (Hs:List Hdr) (X:List (List Int)) (cols:Int) (r2:Option Nat) (cap2:Nat) (Ks:List Hdr) (Y:List (List Int)) (wx wy:Nat) (hF:FOk f) (hH:Hs.length=X.length) (hK:Ks.length=Y.length) (hy:Y = []\/Y.length=X.length) (hg:good f wx X) (hw:wide wy Y) (hc0:0<=cols) (hc1:cols<=wx) (hwx:wx<=100000) (hwy:wy<=100000) (hx:X.length<=100000):CtrW Try.prog 103 [oVec r cap 29 1 false aH Hs,oRws 3 aInt [] Hs X,oVec r2 cap2 29 1 false aH Ks,oRws 3 aInt [] Ks Y] [aGF f,aEx (vec r Hs.length cap),aInt cols,aEx (vec r2 Ks.length cap2)] (fun (y:List Hdr×List Hdr×Option Nat×Nat)=>match y with | (Hn,Kn,rp,cp)=>Hn.length=X.length/\Kn.length=Y.length) (fun (y:List Hdr×List Hdr×Option Nat×Nat)=>match y with | (Hn,Kn,rp,cp)=>aTup [aEx (vec rp (((elim f X Y cols.toNat).piv).length) cp),aInt ((elim f X Y cols.toNat).det)]) (fun (y:List Hdr×List Hdr×Option Nat×Nat)=>match y with | (Hn,Kn,rp,cp)=>[oVec r cap 29 1 false aH Hn,oRws 3 aInt [] Hn ((elim f X Y cols.toNat).X),oVec r2 cap2 29 1 false aH Kn,oRws 3 aInt [] Kn ((elim f X Y cols.toNat).Y),oVec rp cp 3 1 false aInt ((elim f X Y cols.toNat).piv)]):=by
 refine ctrW_of Try.call103 func103 rfl rfl ?_
 intro w O
 refine A_q 0 4 rfl rfl (fun hlen0_4=>?_)
 refine A_q 0 5 rfl rfl (fun hlen0_5=>?_)
 refine esr rfl fun _ K1=>?_
 refine ent_box1 rfl rfl one_at (fun b4_1=>?_)
 refine ent_box1 rfl rfl (one_ex rfl) (fun b5_2=>?_)
 refine ent_box1 rfl rfl (one_ex rfl) (fun b7_3=>?_)
 refine emm rfl ?_
 refine enk K1 ?_
 refine esk rfl ?_
 refine esr rfl fun _ K3=>?_
 refine A_A rfl (ok_makeFunc (us:=[.pointer (some ⟨b5_2,0,none⟩),.pointer (some ⟨b7_3,0,none⟩)]) rfl) ?_
 refine emm rfl ?_
 refine enk K3 ?_
 refine esk rfl ?_
 refine A_C fun _ K5=>?_
 refine esk rfl ?_
 refine A_K ?_
 refine ent_open 3 1 false aInt (fun _=>rfl) ?_
 refine A_d (fun (ss:Int×List Hdr×List Hdr×Option Nat×Nat)=>match ss with | (c,Hc,Kc,rr5,cc5)=>(⟨[(2,aInt cols),(4,aEx (.pointer (some ⟨b4_1,0,none⟩))),(5,aEx (.pointer (some ⟨b5_2,0,none⟩))),(10,aInt ((elim f X Y c.toNat).det)),(11,aEx (vClo 123 [.pointer (some ⟨b5_2,0,none⟩),.pointer (some ⟨b7_3,0,none⟩)])),(12,aEx (vec rr5 (((elim f X Y c.toNat).piv).length) cc5)),(13,aInt c)],[oVec rr5 cc5 3 1 false aInt ((elim f X Y c.toNat).piv),oBox b7_3 65 [aEx (vec r2 Ks.length cap2)],oBox b5_2 65 [aEx (vec r Hs.length cap)],oBox b4_1 95 [aGF f],oVec r cap 29 1 false aH Hc,oRws 3 aInt [] Hc ((elim f X Y c.toNat).X),oVec r2 cap2 29 1 false aH Kc,oRws 3 aInt [] Kc ((elim f X Y c.toNat).Y)]⟩:St)) (fun (ss:Int×List Hdr×List Hdr×Option Nat×Nat)=>match ss with | (c,Hc,Kc,rr5,cc5)=>(0<=c)/\(c<=cols)/\(Hc.length=X.length)/\(Kc.length=Y.length)) (fun (ss:Int×List Hdr×List Hdr×Option Nat×Nat)=>match ss with | (c,Hc,Kc,rr5,cc5)=>(cols-c).toNat) (0,Hs,Ks,none,0) ⟨(by omega),‹_›,‹_›,‹_›⟩ (A_J ⟨rfl,rfl,rfl,A_V (A_p (show 1=(elim f X Y (0:Int).toNat).det by rfl)),rfl,A_V ((show aEx (vec none ([]:List _).length 0)=aEx (vec none (((elim f X Y (0:Int).toNat).piv).length) 0) from av_vec (congrArg List.length (show (elim f X Y (0:Int).toNat).piv = [] by rfl).symm))),A_V (A_p (show 0=(0:Int) by rfl)),trivial⟩ (A_F (A_s (show (elim f X Y (0:Int).toNat).piv = [] by rfl)) (A_F (rfl) (A_F (rfl) (A_F (rfl) (A_F (rfl) (A_F (own_rws rfl (show (elim f X Y (0:Int).toNat).X=X by rfl)) (A_F (rfl) (A_F (own_rws rfl (show (elim f X Y (0:Int).toNat).Y=Y by rfl)) (rfl)))))))))) ?_
 rintro ⟨c,Hc,Kc,rr5,cc5⟩ ⟨c0,c1,hHc,hKc⟩
 show Ent _ ⟨_,[_,_,_,_,_,_,_,_]⟩ _
 have hS:=hF.1
 have hlX:=length_elim f X Y c.toNat
 have hpl:=piv_le f X Y c.toNat
 have hgX:=good_elim hS (Y:=Y) hg c.toNat
 have hwY:=wide_elim (f:=f) (X:=X) hw hy c.toNat
 refine A_C fun _ K7=>?_
 refine A_C fun _ K8=>?_
 refine ent_cut (⟨[(2,aInt cols),(4,aEx (.pointer (some ⟨b4_1,0,none⟩))),(5,aEx (.pointer (some ⟨b5_2,0,none⟩))),(10,aInt ((elim f X Y c.toNat).det)),(11,aEx (vClo 123 [.pointer (some ⟨b5_2,0,none⟩),.pointer (some ⟨b7_3,0,none⟩)])),(12,aEx (vec rr5 (((elim f X Y c.toNat).piv).length) cc5)),(13,aInt c),(30,aBool (decide ((c<cols)/\((↑(((elim f X Y c.toNat).piv).length):Int)<(↑Hs.length:Int)))))],[oVec rr5 cc5 3 1 false aInt ((elim f X Y c.toNat).piv),oBox b7_3 65 [aEx (vec r2 Ks.length cap2)],oBox b5_2 65 [aEx (vec r Hs.length cap)],oBox b4_1 95 [aGF f],oVec r cap 29 1 false aH Hc,oRws 3 aInt [] Hc ((elim f X Y c.toNat).X),oVec r2 cap2 29 1 false aH Kc,oRws 3 aInt [] Kc ((elim f X Y c.toNat).Y)]⟩) ?_ ?_
 ·refine A_H ?_
  refine emm rfl ?_
  refine A_A rfl (A_r rfl rfl) ?_
  refine emm rfl ?_
  refine ent_guardXDt rfl rfl rfl rfl (fun hg24=>?_) (fun hg24=>?_)
  ·refine emm rfl ?_
   refine A_M rfl rfl rfl rfl (decide_eq_true hg24) ?_
   refine A_A rfl (ok_lenEx rfl runUnderlying29 rfl) ?_
   refine A_M rfl rfl rfl rfl (decide_eq_true hg24) ?_
   refine A_A rfl (A_I (k:=2) isAgg65 rfl rfl rfl) ?_
   refine A_M rfl rfl rfl rfl (decide_eq_true hg24) ?_
   refine A_A rfl (ok_lenEx rfl runUnderlying65 rfl) ?_
   refine A_M rfl rfl rfl rfl (decide_eq_true hg24) ?_
   refine A_A rfl (A_r rfl rfl) ?_
   refine A_A rfl (A_m rfl (decide_eq_true hg24) rfl) ?_
   refine A_O ?_
   exact A_J ⟨rfl,rfl,rfl,rfl,rfl,rfl,rfl,A_X (dq_Q ((and_iff_right hg24).trans Iff.rfl)),trivial⟩ rfl
  refine A_E rfl rfl rfl rfl (decide_eq_false hg24) ?_
  refine A_E rfl rfl rfl rfl (decide_eq_false hg24) ?_
  refine A_E rfl rfl rfl rfl (decide_eq_false hg24) ?_
  refine A_E rfl rfl rfl rfl (decide_eq_false hg24) ?_
  refine A_A rfl (A_1 rfl (decide_eq_false hg24) rfl) ?_
  refine A_O ?_
  exact A_J ⟨rfl,rfl,rfl,rfl,rfl,rfl,rfl,A_X (dq_F rfl (fun h=>hg24 h.1)),trivial⟩ rfl
 refine A_0 K8 ?_
 refine A_G rfl (fun h30=>?_) (fun h30=>?_)
 ·refine esp K7 ?_
  refine A_C fun _ K9=>?_
  refine A_K ?_
  refine esr rfl fun _ K10=>?_
  refine A_A rfl (ok_lenEx rfl runUnderlying29 rfl) ?_
  refine ent_alloc (z:=(.int .i64 0)) [aInt 0] rfl zv3 rfl zc3 (fun b14_6=>?_)
  refine ent_storeB (k:=0) sizeOf3 rfl rfl rfl (A_N _) rfl ?_
  refine enk K10 ?_
  refine esr rfl fun _ K11=>?_
  refine A_A rfl (A_I (k:=0) isAgg3 rfl rfl rfl) ?_
  refine ent_alloc (z:=(.int .i64 0)) [aInt 0] rfl zv3 rfl zc3 (fun b15_7=>?_)
  refine ent_storeB (k:=0) sizeOf3 rfl rfl rfl (A_N _) rfl ?_
  refine enk K11 ?_
  refine A_C fun _ K12=>?_
  refine A_K ?_
  refine A_d (fun (k:Int)=>(⟨[(2,aInt cols),(4,aEx (.pointer (some ⟨b4_1,0,none⟩))),(5,aEx (.pointer (some ⟨b5_2,0,none⟩))),(10,aInt ((elim f X Y c.toNat).det)),(11,aEx (vClo 123 [.pointer (some ⟨b5_2,0,none⟩),.pointer (some ⟨b7_3,0,none⟩)])),(12,aEx (vec rr5 (((elim f X Y c.toNat).piv).length) cc5)),(13,aInt c),(14,aEx (.pointer (some ⟨b14_6,0,none⟩))),(15,aEx (.pointer (some ⟨b15_7,0,none⟩)))],[oBox b15_7 3 [aInt k],oBox b14_6 3 [aInt (↑(((elim f X Y c.toNat).piv).length):Int)],oVec rr5 cc5 3 1 false aInt ((elim f X Y c.toNat).piv),oBox b7_3 65 [aEx (vec r2 Ks.length cap2)],oBox b5_2 65 [aEx (vec r Hs.length cap)],oBox b4_1 95 [aGF f],oVec r cap 29 1 false aH Hc,oRws 3 aInt [] Hc ((elim f X Y c.toNat).X),oVec r2 cap2 29 1 false aH Kc,oRws 3 aInt [] Kc ((elim f X Y c.toNat).Y)]⟩:St)) (fun (k:Int)=>(((elim f X Y c.toNat).piv.length:Int)<=k)/\(k<=X.length)/\(∀z:Int,((elim f X Y c.toNat).piv.length:Int)<=z->z<k->ix 0 (ix [] (elim f X Y c.toNat).X z) c=0)) (fun (k:Int)=>(X.length-k).toNat) ((elim f X Y c.toNat).piv.length:Int) ⟨(by omega),(by omega),(fun z z0 z1=>by omega)⟩ (A_J ⟨rfl,rfl,rfl,rfl,rfl,rfl,rfl,rfl,rfl,trivial⟩ (A_F (own_box (av_cons (A_p (show ((elim f X Y c.toNat).piv.length:Int)=(↑(((elim f X Y c.toNat).piv).length):Int) by rfl)) (rfl))) (rfl))) ?_
  rintro k ⟨k0,k1,kz⟩
  show Ent _ ⟨_,[_,_,_,_,_,_,_,_,_,_]⟩ _
  refine A_C fun _ K13=>?_
  refine A_C fun _ K14=>?_
  refine ent_cut (⟨[(2,aInt cols),(4,aEx (.pointer (some ⟨b4_1,0,none⟩))),(5,aEx (.pointer (some ⟨b5_2,0,none⟩))),(10,aInt ((elim f X Y c.toNat).det)),(11,aEx (vClo 123 [.pointer (some ⟨b5_2,0,none⟩),.pointer (some ⟨b7_3,0,none⟩)])),(12,aEx (vec rr5 (((elim f X Y c.toNat).piv).length) cc5)),(13,aInt c),(14,aEx (.pointer (some ⟨b14_6,0,none⟩))),(15,aEx (.pointer (some ⟨b15_7,0,none⟩))),(49,aBool (decide ((k<(↑Hs.length:Int))/\((ix 0 (ix [] ((elim f X Y c.toNat).X) k) c)=0))))],[oBox b15_7 3 [aInt k],oBox b14_6 3 [aInt (↑(((elim f X Y c.toNat).piv).length):Int)],oVec rr5 cc5 3 1 false aInt ((elim f X Y c.toNat).piv),oBox b7_3 65 [aEx (vec r2 Ks.length cap2)],oBox b5_2 65 [aEx (vec r Hs.length cap)],oBox b4_1 95 [aGF f],oVec r cap 29 1 false aH Hc,oRws 3 aInt [] Hc ((elim f X Y c.toNat).X),oVec r2 cap2 29 1 false aH Kc,oRws 3 aInt [] Kc ((elim f X Y c.toNat).Y)]⟩) ?_ ?_
  ·refine A_H ?_
   refine A_A rfl (A_I (k:=0) isAgg3 rfl rfl rfl) ?_
   refine A_A rfl (A_I (k:=4) isAgg65 rfl rfl rfl) ?_
   refine A_A rfl (ok_lenEx rfl runUnderlying65 rfl) ?_
   refine A_A rfl (A_r rfl rfl) ?_
   refine emm rfl ?_
   refine ent_guardXDt rfl rfl rfl rfl (fun hg40=>?_) (fun hg40=>?_)
   ·have hrk:=wide_ix (good_wide hgX) (i:=k) (by omega) (by omega)
    refine A_A rfl (A_I (k:=4) isAgg65 rfl rfl rfl) ?_
    refine A_M rfl rfl rfl rfl (decide_eq_true hg40) ?_
    refine A_A rfl (A_I (k:=0) isAgg3 rfl rfl rfl) ?_
    refine A_M rfl rfl rfl rfl (decide_eq_true hg40) ?_
    refine A_A rfl (ok_indexV0 (k:=6) sl65 rfl rfl (by simp_all) rfl (by omega) (by omega)) ?_
    refine A_M rfl rfl rfl rfl (decide_eq_true hg40) ?_
    refine A_A rfl (ok_loadV0 (k:=6) Hdr.no ti29 rfl rfl (by omega) (by omega)) ?_
    refine A_M rfl rfl rfl rfl (decide_eq_true hg40) ?_
    refine emm rfl ?_
    refine A_M rfl rfl rfl rfl (decide_eq_true hg40) ?_
    refine A_A rfl (ok_indexH (k:=7) sl29 rfl rfl rfl (by omega) (by omega) (by exact List.not_mem_nil) (by omega) (by omega)) ?_
    refine A_M rfl rfl rfl rfl (decide_eq_true hg40) ?_
    refine A_A rfl (ok_loadH (k:=7) 0 ti3 rfl rfl (by omega) (by omega) (by exact List.not_mem_nil) (by omega) (by omega)) ?_
    refine A_M rfl rfl rfl rfl (decide_eq_true hg40) ?_
    refine A_A rfl (ok_eql rfl rfl) ?_
    refine A_A rfl (A_m rfl (decide_eq_true hg40) rfl) ?_
    refine A_O ?_
    exact A_J ⟨rfl,rfl,rfl,rfl,rfl,rfl,rfl,rfl,rfl,A_X (dq_Q ((and_iff_right hg40).trans Iff.rfl)),trivial⟩ rfl
   refine A_E rfl rfl rfl rfl (decide_eq_false hg40) ?_
   refine A_E rfl rfl rfl rfl (decide_eq_false hg40) ?_
   refine A_E rfl rfl rfl rfl (decide_eq_false hg40) ?_
   refine A_E rfl rfl rfl rfl (decide_eq_false hg40) ?_
   refine A_E rfl rfl rfl rfl (decide_eq_false hg40) ?_
   refine A_E rfl rfl rfl rfl (decide_eq_false hg40) ?_
   refine A_E rfl rfl rfl rfl (decide_eq_false hg40) ?_
   refine A_A rfl (A_1 rfl (decide_eq_false hg40) rfl) ?_
   refine A_O ?_
   exact A_J ⟨rfl,rfl,rfl,rfl,rfl,rfl,rfl,rfl,rfl,A_X (dq_F rfl (fun h=>hg40 h.1)),trivial⟩ rfl
  refine A_0 K14 ?_
  refine A_G rfl (fun h49=>?_) (fun h49=>?_)
  ·refine esp K13 ?_
   refine A_K ?_
   refine A_H ?_
   refine A_A rfl (A_I (k:=0) isAgg3 rfl rfl rfl) ?_
   refine A_A rfl (A_n rfl rfl (by omega) (by omega)) ?_
   refine ent_storeB (k:=0) sizeOf3 rfl rfl rfl (A_N _) rfl ?_
   refine A_O ?_
   refine A_U (s:=(k)) (k+1) ⟨(by omega),(by omega),(fun z z0 z1=>by by_cases hz:z=k;(rw [hz];exact h49.2);exact kz z z0 (by omega))⟩ (by omega) (A_J ⟨rfl,rfl,rfl,rfl,rfl,rfl,rfl,rfl,rfl,trivial⟩ rfl)
  refine A_e ?_
  refine A_0 K12 ?_
  refine A_C fun _ K15=>?_
  refine esr rfl fun _ K16=>?_
  refine A_A rfl (A_I (k:=0) isAgg3 rfl rfl rfl) ?_
  refine A_A rfl (A_I (k:=4) isAgg65 rfl rfl rfl) ?_
  refine A_A rfl (ok_lenEx rfl runUnderlying65 rfl) ?_
  refine A_A rfl (ok_eql rfl rfl) ?_
  refine enk K16 ?_
  refine A_G rfl (fun h55=>?_) (fun h55=>?_)
  ·have hsm:=elim_same (f:=f) (X:=X) (Y:=Y) (k:=k) c0 (pivK_eq (by omega) k0 (by omega) kz (.inl (by omega))) (by omega)
   refine A_e ?_
   refine A_0 K9 ?_
   refine A_H ?_
   refine emm rfl ?_
   refine A_A rfl (A_n rfl rfl (by omega) (by omega)) ?_
   refine emm rfl ?_
   refine A_O ?_
   refine ent_drop 0 ?_
   refine ent_drop 0 ?_
   refine A_U (s:=(c,Hc,Kc,rr5,cc5)) (c+1,Hc,Kc,rr5,cc5) ⟨(by omega),(by omega),‹_›,‹_›⟩ (by dsimp only;omega) (A_J ⟨rfl,rfl,rfl,A_V (A_p (show (elim f X Y c.toNat).det=(elim f X Y (c+1).toNat).det by rw [hsm])),rfl,A_V (av_vec (congrArg List.length (show (elim f X Y (c+1).toNat).piv=(elim f X Y c.toNat).piv by rw [hsm]).symm)),rfl,trivial⟩ (A_F (A_s (show (elim f X Y (c+1).toNat).piv=(elim f X Y c.toNat).piv by rw [hsm])) (A_F (rfl) (A_F (rfl) (A_F (rfl) (A_F (rfl) (A_F (own_rws rfl (show (elim f X Y (c+1).toNat).X=(elim f X Y c.toNat).X by rw [hsm])) (A_F (rfl) (A_F (own_rws rfl (show (elim f X Y (c+1).toNat).Y=(elim f X Y c.toNat).Y by rw [hsm])) (rfl))))))))))
  have hen:ix 0 (ix [] (elim f X Y c.toNat).X k) c≠0:=fun h=>h49 ⟨by omega,h⟩
  have hne:=elim_next (f:=f) (X:=X) (Y:=Y) (k:=k) c0 (by omega) (pivK_eq (by omega) k0 (by omega) kz (.inr hen)) (by omega)
  have hpx:=phx_eq (c:=c) (s:=(elim f X Y c.toNat)) (k:=k) (by omega) (by omega) (by omega)
  have hrg:=good_ixlt hS hgX (i:=k) (by omega) (by omega) c
  refine esp K15 ?_
  refine A_C fun _ K17=>?_
  refine esr rfl fun _ K18=>?_
  refine A_A rfl (A_I (k:=0) isAgg3 rfl rfl rfl) ?_
  refine A_A rfl (A_I (k:=1) isAgg3 rfl rfl rfl) ?_
  refine A_A rfl (ok_neq rfl rfl) ?_
  refine enk K18 ?_
  refine ent_cutE (fun (y:List Hdr×List Hdr)=>match y with | (Hp,Kp)=>(⟨[(2,aInt cols),(4,aEx (.pointer (some ⟨b4_1,0,none⟩))),(5,aEx (.pointer (some ⟨b5_2,0,none⟩))),(10,aInt (if k≠((elim f X Y c.toNat).piv.length:Int) then negF f (elim f X Y c.toNat).det else (elim f X Y c.toNat).det)),(11,aEx (vClo 123 [.pointer (some ⟨b5_2,0,none⟩),.pointer (some ⟨b7_3,0,none⟩)])),(12,aEx (vec rr5 (((elim f X Y c.toNat).piv).length) cc5)),(13,aInt c),(14,aEx (.pointer (some ⟨b14_6,0,none⟩)))],[oBox b15_7 3 [aInt k],oBox b14_6 3 [aInt (↑(((elim f X Y c.toNat).piv).length):Int)],oVec rr5 cc5 3 1 false aInt ((elim f X Y c.toNat).piv),oBox b7_3 65 [aEx (vec r2 Ks.length cap2)],oBox b5_2 65 [aEx (vec r Hs.length cap)],oBox b4_1 95 [aGF f],oVec r cap 29 1 false aH Hp,oRws 3 aInt [] Hp (ph1 (elim f X Y c.toNat) (elim f X Y c.toNat).X k),oVec r2 cap2 29 1 false aH Kp,oRws 3 aInt [] Kp (ph1 (elim f X Y c.toNat) (elim f X Y c.toNat).Y k)]⟩:St)) (fun (y:List Hdr×List Hdr)=>match y with | (Hp,Kp)=>Hp.length=X.length/\Kp.length=Y.length) ?_ ?_
  ·refine A_G rfl (fun h58=>?_) (fun h58=>?_)
   ·refine esr rfl fun _ K19=>?_
    refine A_A rfl (ok_makeFunc (us:=[.pointer (some ⟨b15_7,0,none⟩),.pointer (some ⟨b14_6,0,none⟩)]) rfl) ?_
    refine ent_pm 10 [5,4,3,2,1,0,9,8,7,6] rfl (by decide) rfl ?_
    refine ent_callWC (As:=[aClo 124 [aAt 1 false (aInt k),aAt 1 false (aInt (↑(((elim f X Y c.toNat).piv).length):Int))]]) (Bs:=[aAt 1 false (aEx (vec r Hc.length cap)),aAt 1 false (aEx (vec r2 Kc.length cap2))]) (rs:=[oBox b15_7 3 [aInt k],oBox b14_6 3 [aInt (↑(((elim f X Y c.toNat).piv).length):Int)],oVec rr5 cc5 3 1 false aInt ((elim f X Y c.toNat).piv),oBox b7_3 65 [aEx (vec r2 Ks.length cap2)],oBox b5_2 65 [aEx (vec r Hs.length cap)],oBox b4_1 95 [aGF f]]) [4,5,7,8] rfl (eachSwap_ok r cap Hc ((elim f X Y c.toNat).X) r2 cap2 Kc ((elim f X Y c.toNat).Y) k (↑(((elim f X Y c.toNat).piv).length):Int) (by omega) (by omega) (by grind) (by omega) (by omega) (by omega) (by omega)) rfl rfl (.inr ⟨fun (_:Unit)=>pl_any,fun (_:Unit)=>AllFlat.mem ⟨flatOwn_vec flat_H,flatOwn_rws flat_int,flatOwn_vec flat_H,flatOwn_rws flat_int,trivial⟩⟩) rfl ⟨A_u rfl (cv_clo ⟨cv_box1 (k:=4) (off_lent rfl (by decide)) (A_x (A_l _)),cv_box1 (k:=5) (off_lent rfl (by decide)) (A_x (A_l _)),trivial⟩),trivial⟩ ⟨A_u rfl (cv_box1 (k:=8) (off_lent rfl (by decide)) (cv_ex (congrArg (fun n=>vec r n cap) (show Hs.length=Hc.length by omega)))),A_u rfl (cv_box1 (k:=7) (off_lent rfl (by decide)) (cv_ex (congrArg (fun n=>vec r2 n cap2) (show Ks.length=Kc.length by omega)))),trivial⟩ ?_
    rintro ⟨⟩ -
    show Ent _ ⟨_::_,[_,_,_,_,_,_,_,_,_,_]⟩ _
    refine ent_pm 10 [3,2,1,0,9,8,7,6,5,4] rfl (by decide) rfl ?_
    refine enk K19 ?_
    refine A_H ?_
    refine A_A rfl (A_I (k:=5) isAgg95 rfl rfl rfl) ?_
    refine emm rfl ?_
    refine A_A rfl (A_W (Neg_ok f ((elim f X Y c.toNat).det) ‹_›) rfl) ?_
    refine emm rfl ?_
    refine A_O ?_
    refine ent_repE (List.set (List.set Hc (↑(((elim f X Y c.toNat).piv).length):Int).toNat (ix Hdr.no Hc k)) k.toNat (ix Hdr.no Hc (↑(((elim f X Y c.toNat).piv).length):Int)),List.set (List.set Kc (↑(((elim f X Y c.toNat).piv).length):Int).toNat (ix Hdr.no Kc k)) k.toNat (ix Hdr.no Kc (↑(((elim f X Y c.toNat).piv).length):Int))) (⟨by simp only [List.length_set];exact hHc,by simp only [List.length_set];exact hKc⟩) ?_
    exact A_J ⟨rfl,rfl,rfl,A_V (A_p (show negF f ((elim f X Y c.toNat).det)=if k≠((elim f X Y c.toNat).piv.length:Int) then negF f (elim f X Y c.toNat).det else (elim f X Y c.toNat).det by exact (if_pos h58).symm)),rfl,rfl,rfl,rfl,trivial⟩ (A_F (rfl) (A_F (rfl) (A_F (rfl) (A_F (rfl) (A_F (rfl) (A_F (rfl) (A_F (rfl) (A_F (own_rws (show (List.set (List.set Hc (↑(((elim f X Y c.toNat).piv).length):Int).toNat (ix Hdr.no Hc k)) k.toNat (ix Hdr.no Hc (↑(((elim f X Y c.toNat).piv).length):Int)))=List.set (List.set Hc (↑(((elim f X Y c.toNat).piv).length):Int).toNat (ix Hdr.no Hc k)) k.toNat (ix Hdr.no Hc (↑(((elim f X Y c.toNat).piv).length):Int)) by rfl) (show ph1 (elim f X Y c.toNat) (elim f X Y c.toNat).X k=List.set (List.set ((elim f X Y c.toNat).X) (↑(((elim f X Y c.toNat).piv).length):Int).toNat (ix [] ((elim f X Y c.toNat).X) k)) k.toNat (ix [] ((elim f X Y c.toNat).X) (↑(((elim f X Y c.toNat).piv).length):Int)) by exact if_pos h58)) (A_F (rfl) (A_F (own_rws (show (List.set (List.set Kc (↑(((elim f X Y c.toNat).piv).length):Int).toNat (ix Hdr.no Kc k)) k.toNat (ix Hdr.no Kc (↑(((elim f X Y c.toNat).piv).length):Int)))=List.set (List.set Kc (↑(((elim f X Y c.toNat).piv).length):Int).toNat (ix Hdr.no Kc k)) k.toNat (ix Hdr.no Kc (↑(((elim f X Y c.toNat).piv).length):Int)) by rfl) (show ph1 (elim f X Y c.toNat) (elim f X Y c.toNat).Y k=List.set (List.set ((elim f X Y c.toNat).Y) (↑(((elim f X Y c.toNat).piv).length):Int).toNat (ix [] ((elim f X Y c.toNat).Y) k)) k.toNat (ix [] ((elim f X Y c.toNat).Y) (↑(((elim f X Y c.toNat).piv).length):Int)) by exact if_pos h58)) (rfl)))))))))))
   refine ent_skip ?_
   refine ent_repE (Hc,Kc) (⟨by exact hHc,by exact hKc⟩) ?_
   exact A_J ⟨rfl,rfl,rfl,A_V (A_p (show (elim f X Y c.toNat).det=if k≠((elim f X Y c.toNat).piv.length:Int) then negF f (elim f X Y c.toNat).det else (elim f X Y c.toNat).det by exact (if_neg h58).symm)),rfl,rfl,rfl,rfl,trivial⟩ (A_F (rfl) (A_F (rfl) (A_F (rfl) (A_F (rfl) (A_F (rfl) (A_F (rfl) (A_F (rfl) (A_F (own_rws rfl (show ph1 (elim f X Y c.toNat) (elim f X Y c.toNat).X k=(elim f X Y c.toNat).X by exact if_neg h58)) (A_F (rfl) (A_F (own_rws rfl (show ph1 (elim f X Y c.toNat) (elim f X Y c.toNat).Y k=(elim f X Y c.toNat).Y by exact if_neg h58)) (rfl)))))))))))
  rintro ⟨Hp,Kp⟩ ⟨hHp,hKp⟩
  show Ent _ ⟨_,[_,_,_,_,_,_,_,_,_,_]⟩ _
  refine A_0 K17 ?_
  refine A_C fun _ K20=>?_
  have hg1:=good_ph1 (s:=(elim f X Y c.toNat)) hgX (k:=k) (by omega) (by omega) (by omega)
  have hw1:=wide_ph1 (s:=(elim f X Y c.toNat)) hwY (k:=k) (by omega) (by rcases hy with hy | hy;(have : Y.length=0:=by rw [hy];rfl);omega;omega)
  have hr1:=wide_ix (good_wide hg1) (i:=((elim f X Y c.toNat).piv.length:Int)) (by omega) (by rw [length_ph1];omega)
  have hl1:=length_ph1 (elim f X Y c.toNat) (elim f X Y c.toNat).X k
  have hl2:=length_ph1 (elim f X Y c.toNat) (elim f X Y c.toNat).Y k
  have hxx:ix 0 (ix [] (ph1 (elim f X Y c.toNat) (elim f X Y c.toNat).X k) ((elim f X Y c.toNat).piv.length:Int)) c=ix 0 (ix [] (elim f X Y c.toNat).X k) c:=hpx
  have hE:(if inF f (ix 0 (ix [] (ph1 (elim f X Y c.toNat) (elim f X Y c.toNat).X k) ((elim f X Y c.toNat).piv.length:Int)) c)=0 then (7:Int) else 0)=0:=if_neg (by rw [hxx,inF_id hrg.1 hrg.2];exact hen)
  refine A_w 11 mixed (by kernel_rfl) (by kernel_rfl) (by kernel_rfl) ?_
  refine dw_o rfl (A_I (k:=5) isAgg95 rfl rfl rfl) ?_
  refine dw_o rfl (A_D rfl) ?_
  refine dw_o rfl (A_I (k:=4) isAgg65 rfl rfl rfl) ?_
  refine dw_o rfl (A_I (k:=1) isAgg3 rfl rfl rfl) ?_
  refine dw_o rfl (ok_indexV0 (k:=6) sl65 rfl rfl (by simp_all) rfl (by omega) (by omega)) ?_
  refine dw_o rfl (ok_loadV0 (k:=6) Hdr.no ti29 rfl rfl (by omega) (by omega)) ?_
  refine dw_o rfl (A_D rfl) ?_
  refine dw_o rfl (ok_indexH (k:=7) sl29 rfl rfl rfl (by omega) (by omega) (by exact List.not_mem_nil) (by omega) (by omega)) ?_
  refine dw_o rfl (ok_loadH (k:=7) 0 ti3 rfl rfl (by omega) (by omega) (by exact List.not_mem_nil) (by omega) (by omega)) ?_
  refine dw_o rfl (A_W (Mul_ok f (if k≠((elim f X Y c.toNat).piv.length:Int) then negF f (elim f X Y c.toNat).det else (elim f X Y c.toNat).det) (ix 0 (ix [] (ph1 (elim f X Y c.toNat) (elim f X Y c.toNat).X k) (↑(((elim f X Y c.toNat).piv).length):Int)) c) ‹_›) rfl) ?_
  refine dw_o rfl (ok_assign rfl) ?_
  refine dw_nil ?_
  refine enk K20 ?_
  refine A_C fun _ K21=>?_
  refine A_C fun _ K22=>?_
  refine ent_drawB1 (T:=3) (As:=[aInt 0]) 13 [11] 16 [(85,aInt (invF f (ix 0 (ix [] (ph1 (elim f X Y c.toNat) (elim f X Y c.toNat).X k) (↑(((elim f X Y c.toNat).piv).length):Int)) c))),(86,aInt (if inF f (ix 0 (ix [] (ph1 (elim f X Y c.toNat) (elim f X Y c.toNat).X k) (↑(((elim f X Y c.toNat).piv).length):Int)) c)=0 then 7 else 0))] [(2,aInt cols),(4,aEx (.pointer (some ⟨b4_1,0,none⟩))),(5,aEx (.pointer (some ⟨b5_2,0,none⟩))),(10,aInt (mulF f (if k≠((elim f X Y c.toNat).piv.length:Int) then negF f (elim f X Y c.toNat).det else (elim f X Y c.toNat).det) (ix 0 (ix [] (ph1 (elim f X Y c.toNat) (elim f X Y c.toNat).X k) (↑(((elim f X Y c.toNat).piv).length):Int)) c))),(11,aEx (vClo 123 [.pointer (some ⟨b5_2,0,none⟩),.pointer (some ⟨b7_3,0,none⟩)])),(12,aEx (vec rr5 (((elim f X Y c.toNat).piv).length) cc5)),(13,aInt c),(14,aEx (.pointer (some ⟨b14_6,0,none⟩)))] mixed (by kernel_rfl) (by kernel_rfl) (by kernel_rfl) (by kernel_rfl) (by kernel_rfl) (fun _ _ _ _ _ h=>h) (AllPl.mem ⟨pl_ex,trivial⟩) (AllPlS.mem ⟨pl_ex,pl_ex,trivial⟩) ⟨rfl,rfl,rfl,rfl,rfl,rfl,rfl,rfl,trivial⟩ (by kernel_rfl) (fun w=>?_) (fun b16_9=>?_)
  ·refine dw_o rfl (A_I (k:=5) isAgg95 rfl rfl rfl) ?_
   refine dw_o rfl (A_I (k:=4) isAgg65 rfl rfl rfl) ?_
   refine dw_o rfl (A_I (k:=1) isAgg3 rfl rfl rfl) ?_
   refine dw_o rfl (ok_indexV0 (k:=6) sl65 rfl rfl (by simp_all) rfl (by omega) (by omega)) ?_
   refine dw_o rfl (ok_loadV0 (k:=6) Hdr.no ti29 rfl rfl (by omega) (by omega)) ?_
   refine dw_o rfl (A_D rfl) ?_
   refine dw_o rfl (ok_indexH (k:=7) sl29 rfl rfl rfl (by omega) (by omega) (by exact List.not_mem_nil) (by omega) (by omega)) ?_
   refine dw_o rfl (ok_loadH (k:=7) 0 ti3 rfl rfl (by omega) (by omega) (by exact List.not_mem_nil) (by omega) (by omega)) ?_
   refine dw_o rfl (A_W (Inv_ok f (ix 0 (ix [] (ph1 (elim f X Y c.toNat) (elim f X Y c.toNat).X k) (↑(((elim f X Y c.toNat).piv).length):Int)) c) ‹_›) rfl) ?_
   refine dw_o rfl (A_D rfl) ?_
   refine dw_o rfl (A_T rfl rfl) ?_
   refine dw_o rfl (A_T rfl rfl) ?_
   refine dw_o rfl (ok_allocF (z:=(.int .i64 0)) [aInt 0] zv3 rfl zc3) ?_
   exact ⟨rfl,⟨rfl,rfl,trivial⟩⟩
  refine ent_storeB (k:=0) sizeOf3 rfl rfl rfl (A_N _) rfl ?_
  refine emm rfl ?_
  refine enk K22 ?_
  refine A_C fun _ K23=>?_
  refine ent_cut (⟨[(2,aInt cols),(4,aEx (.pointer (some ⟨b4_1,0,none⟩))),(5,aEx (.pointer (some ⟨b5_2,0,none⟩))),(10,aInt (mulF f (if k≠((elim f X Y c.toNat).piv.length:Int) then negF f (elim f X Y c.toNat).det else (elim f X Y c.toNat).det) (ix 0 (ix [] (ph1 (elim f X Y c.toNat) (elim f X Y c.toNat).X k) (↑(((elim f X Y c.toNat).piv).length):Int)) c))),(11,aEx (vClo 123 [.pointer (some ⟨b5_2,0,none⟩),.pointer (some ⟨b7_3,0,none⟩)])),(12,aEx (vec rr5 (((elim f X Y c.toNat).piv).length) cc5)),(13,aInt c),(14,aEx (.pointer (some ⟨b14_6,0,none⟩))),(16,aEx (.pointer (some ⟨b16_9,0,none⟩))),(92,aBool (decide (((if inF f (ix 0 (ix [] (ph1 (elim f X Y c.toNat) (elim f X Y c.toNat).X k) (↑(((elim f X Y c.toNat).piv).length):Int)) c)=0 then 7 else 0:Int)=0)/\((invF f (ix 0 (ix [] (ph1 (elim f X Y c.toNat) (elim f X Y c.toNat).X k) (↑(((elim f X Y c.toNat).piv).length):Int)) c))≠1))))],[oBox b16_9 3 [aInt (invF f (ix 0 (ix [] (ph1 (elim f X Y c.toNat) (elim f X Y c.toNat).X k) (↑(((elim f X Y c.toNat).piv).length):Int)) c))],oBox b15_7 3 [aInt k],oBox b14_6 3 [aInt (↑(((elim f X Y c.toNat).piv).length):Int)],oVec rr5 cc5 3 1 false aInt ((elim f X Y c.toNat).piv),oBox b7_3 65 [aEx (vec r2 Ks.length cap2)],oBox b5_2 65 [aEx (vec r Hs.length cap)],oBox b4_1 95 [aGF f],oVec r cap 29 1 false aH Hp,oRws 3 aInt [] Hp (ph1 (elim f X Y c.toNat) (elim f X Y c.toNat).X k),oVec r2 cap2 29 1 false aH Kp,oRws 3 aInt [] Kp (ph1 (elim f X Y c.toNat) (elim f X Y c.toNat).Y k)]⟩) ?_ ?_
  ·refine A_H ?_
   refine emm rfl ?_
   refine A_A rfl (ok_eql rfl rfl) ?_
   refine emm rfl ?_
   refine ent_guardXDt rfl rfl rfl rfl (fun hg89=>?_) (fun hg89=>?_)
   ·refine A_A rfl (A_I (k:=0) isAgg3 rfl rfl rfl) ?_
    refine A_M rfl rfl rfl rfl (decide_eq_true hg89) ?_
    refine A_A rfl (ok_neq rfl rfl) ?_
    refine A_A rfl (A_m rfl (decide_eq_true hg89) rfl) ?_
    refine A_O ?_
    exact A_J ⟨rfl,rfl,rfl,rfl,rfl,rfl,rfl,rfl,rfl,A_X (dq_Q ((and_iff_right hg89).trans Iff.rfl)),trivial⟩ rfl
   refine A_E rfl rfl rfl rfl (decide_eq_false hg89) ?_
   refine A_A rfl (A_1 rfl (decide_eq_false hg89) rfl) ?_
   refine A_O ?_
   exact A_J ⟨rfl,rfl,rfl,rfl,rfl,rfl,rfl,rfl,rfl,A_X (dq_F rfl (fun h=>hg89 h.1)),trivial⟩ rfl
  refine A_0 K23 ?_
  refine ent_cutE (fun (y:List Hdr×List Hdr)=>match y with | (Hq,Kq)=>(⟨[(2,aInt cols),(4,aEx (.pointer (some ⟨b4_1,0,none⟩))),(5,aEx (.pointer (some ⟨b5_2,0,none⟩))),(10,aInt (mulF f (if k≠((elim f X Y c.toNat).piv.length:Int) then negF f (elim f X Y c.toNat).det else (elim f X Y c.toNat).det) (ix 0 (ix [] (ph1 (elim f X Y c.toNat) (elim f X Y c.toNat).X k) (↑(((elim f X Y c.toNat).piv).length):Int)) c))),(11,aEx (vClo 123 [.pointer (some ⟨b5_2,0,none⟩),.pointer (some ⟨b7_3,0,none⟩)])),(12,aEx (vec rr5 (((elim f X Y c.toNat).piv).length) cc5)),(13,aInt c),(14,aEx (.pointer (some ⟨b14_6,0,none⟩)))],[oBox b16_9 3 [aInt (invF f (ix 0 (ix [] (ph1 (elim f X Y c.toNat) (elim f X Y c.toNat).X k) (↑(((elim f X Y c.toNat).piv).length):Int)) c))],oBox b15_7 3 [aInt k],oBox b14_6 3 [aInt (↑(((elim f X Y c.toNat).piv).length):Int)],oVec rr5 cc5 3 1 false aInt ((elim f X Y c.toNat).piv),oBox b7_3 65 [aEx (vec r2 Ks.length cap2)],oBox b5_2 65 [aEx (vec r Hs.length cap)],oBox b4_1 95 [aGF f],oVec r cap 29 1 false aH Hq,oRws 3 aInt [] Hq (ph2 f c (elim f X Y c.toNat) (elim f X Y c.toNat).X k),oVec r2 cap2 29 1 false aH Kq,oRws 3 aInt [] Kq (ph2 f c (elim f X Y c.toNat) (elim f X Y c.toNat).Y k)]⟩:St)) (fun (y:List Hdr×List Hdr)=>match y with | (Hq,Kq)=>Hq.length=X.length/\Kq.length=Y.length) ?_ ?_
  ·refine A_G rfl (fun h92=>?_) (fun h92=>?_)
   ·refine A_H ?_
    refine emm rfl ?_
    refine A_A rfl (ok_makeFunc (us:=[.pointer (some ⟨b4_1,0,none⟩),.pointer (some ⟨b16_9,0,none⟩),.pointer (some ⟨b14_6,0,none⟩)]) rfl) ?_
    refine ent_pm 11 [6,5,4,3,2,1,0,10,9,8,7] rfl (by decide) rfl ?_
    refine ent_callWC (As:=[aClo 127 [aAt 1 false (aGF f),aAt 1 false (aInt (invF f (ix 0 (ix [] (ph1 (elim f X Y c.toNat) (elim f X Y c.toNat).X k) (↑(((elim f X Y c.toNat).piv).length):Int)) c))),aAt 1 false (aInt (↑(((elim f X Y c.toNat).piv).length):Int))]]) (Bs:=[aAt 1 false (aEx (vec r Hp.length cap)),aAt 1 false (aEx (vec r2 Kp.length cap2))]) (rs:=[oBox b16_9 3 [aInt (invF f (ix 0 (ix [] (ph1 (elim f X Y c.toNat) (elim f X Y c.toNat).X k) (↑(((elim f X Y c.toNat).piv).length):Int)) c))],oBox b15_7 3 [aInt k],oBox b14_6 3 [aInt (↑(((elim f X Y c.toNat).piv).length):Int)],oVec rr5 cc5 3 1 false aInt ((elim f X Y c.toNat).piv),oBox b7_3 65 [aEx (vec r2 Ks.length cap2)],oBox b5_2 65 [aEx (vec r Hs.length cap)],oBox b4_1 95 [aGF f]]) [4,6,8,9,10] rfl (eachScale_ok f r cap Hp (ph1 (elim f X Y c.toNat) (elim f X Y c.toNat).X k) r2 cap2 Kp (ph1 (elim f X Y c.toNat) (elim f X Y c.toNat).Y k) (invF f (ix 0 (ix [] (ph1 (elim f X Y c.toNat) (elim f X Y c.toNat).X k) (↑(((elim f X Y c.toNat).piv).length):Int)) c)) (↑(((elim f X Y c.toNat).piv).length):Int) ‹_› (by omega) (by omega) (by grind) (by omega) (by omega) (fun i=>len_le hg1 hwx i) (fun i=>wid_le hw1 hwy i)) rfl rfl (.inr ⟨fun (H,K)=>pl_any,fun (H,K)=>AllFlat.mem ⟨flatOwn_vec flat_H,flatOwn_rws flat_int,flatOwn_vec flat_H,flatOwn_rws flat_int,trivial⟩⟩) rfl ⟨A_u rfl (cv_clo ⟨cv_box1 (k:=10) (off_lent rfl (by decide)) (A_x (A_l _)),cv_box1 (k:=4) (off_lent rfl (by decide)) (A_x (A_l _)),cv_box1 (k:=6) (off_lent rfl (by decide)) (A_x (A_l _)),trivial⟩),trivial⟩ ⟨A_u rfl (cv_box1 (k:=9) (off_lent rfl (by decide)) (cv_ex (congrArg (fun n=>vec r n cap) (show Hs.length=Hp.length by omega)))),A_u rfl (cv_box1 (k:=8) (off_lent rfl (by decide)) (cv_ex (congrArg (fun n=>vec r2 n cap2) (show Ks.length=Kp.length by omega)))),trivial⟩ ?_
    rintro ⟨H_10,K_10⟩ -
    show Ent _ ⟨_::_,[_,_,_,_,_,_,_,_,_,_,_]⟩ _
    refine ent_pm 11 [3,2,1,0,10,9,8,7,6,5,4] rfl (by decide) rfl ?_
    refine A_O ?_
    refine ent_repE (List.set Hp (↑(((elim f X Y c.toNat).piv).length):Int).toNat H_10,List.set Kp (↑(((elim f X Y c.toNat).piv).length):Int).toNat K_10) (⟨by simp only [List.length_set];exact hHp,by simp only [List.length_set];exact hKp⟩) ?_
    exact A_J ⟨rfl,rfl,rfl,rfl,rfl,rfl,rfl,rfl,trivial⟩ (A_F (rfl) (A_F (rfl) (A_F (rfl) (A_F (rfl) (A_F (rfl) (A_F (rfl) (A_F (rfl) (A_F (rfl) (A_F (own_rws (show (List.set Hp (↑(((elim f X Y c.toNat).piv).length):Int).toNat H_10)=List.set Hp (↑(((elim f X Y c.toNat).piv).length):Int).toNat H_10 by rfl) (show ph2 f c (elim f X Y c.toNat) (elim f X Y c.toNat).X k=List.set (ph1 (elim f X Y c.toNat) (elim f X Y c.toNat).X k) (↑(((elim f X Y c.toNat).piv).length):Int).toNat (scaleF f (invF f (ix 0 (ix [] (ph1 (elim f X Y c.toNat) (elim f X Y c.toNat).X k) (↑(((elim f X Y c.toNat).piv).length):Int)) c)) (ix [] (ph1 (elim f X Y c.toNat) (elim f X Y c.toNat).X k) (↑(((elim f X Y c.toNat).piv).length):Int))) by exact if_pos h92.2)) (A_F (rfl) (A_F (own_rws (show (List.set Kp (↑(((elim f X Y c.toNat).piv).length):Int).toNat K_10)=List.set Kp (↑(((elim f X Y c.toNat).piv).length):Int).toNat K_10 by rfl) (show ph2 f c (elim f X Y c.toNat) (elim f X Y c.toNat).Y k=List.set (ph1 (elim f X Y c.toNat) (elim f X Y c.toNat).Y k) (↑(((elim f X Y c.toNat).piv).length):Int).toNat (scaleF f (invF f (ix 0 (ix [] (ph1 (elim f X Y c.toNat) (elim f X Y c.toNat).X k) (↑(((elim f X Y c.toNat).piv).length):Int)) c)) (ix [] (ph1 (elim f X Y c.toNat) (elim f X Y c.toNat).Y k) (↑(((elim f X Y c.toNat).piv).length):Int))) by exact if_pos h92.2)) (rfl))))))))))))
   refine ent_skip ?_
   refine ent_repE (Hp,Kp) (⟨by exact hHp,by exact hKp⟩) ?_
   exact A_J ⟨rfl,rfl,rfl,rfl,rfl,rfl,rfl,rfl,trivial⟩ (A_F (rfl) (A_F (rfl) (A_F (rfl) (A_F (rfl) (A_F (rfl) (A_F (rfl) (A_F (rfl) (A_F (rfl) (A_F (own_rws rfl (show ph2 f c (elim f X Y c.toNat) (elim f X Y c.toNat).X k=ph1 (elim f X Y c.toNat) (elim f X Y c.toNat).X k by exact if_neg (fun h=>h92 ⟨hE,h⟩))) (A_F (rfl) (A_F (own_rws rfl (show ph2 f c (elim f X Y c.toNat) (elim f X Y c.toNat).Y k=ph1 (elim f X Y c.toNat) (elim f X Y c.toNat).Y k by exact if_neg (fun h=>h92 ⟨hE,h⟩))) (rfl))))))))))))
  rintro ⟨Hq,Kq⟩ ⟨hHq,hKq⟩
  show Ent _ ⟨_,[_,_,_,_,_,_,_,_,_,_,_]⟩ _
  refine A_0 K21 ?_
  refine A_C fun _ K24=>?_
  refine A_C fun _ K25=>?_
  have hl3:=length_ph2 f c (elim f X Y c.toNat) (elim f X Y c.toNat).X k
  have hl4:=length_ph2 f c (elim f X Y c.toNat) (elim f X Y c.toNat).Y k
  refine A_H ?_
  refine A_A rfl (A_I (k:=5) isAgg65 rfl rfl rfl) ?_
  refine A_A rfl (ok_lenEx rfl runUnderlying65 rfl) ?_
  refine emm rfl ?_
  refine enk K25 ?_
  refine A_K ?_
  refine A_d (fun (ss:Int×List (List Int)×List (List Int))=>match ss with | (i,A,B)=>(⟨[(2,aInt cols),(4,aEx (.pointer (some ⟨b4_1,0,none⟩))),(5,aEx (.pointer (some ⟨b5_2,0,none⟩))),(10,aInt (mulF f (if k≠((elim f X Y c.toNat).piv.length:Int) then negF f (elim f X Y c.toNat).det else (elim f X Y c.toNat).det) (ix 0 (ix [] (ph1 (elim f X Y c.toNat) (elim f X Y c.toNat).X k) (↑(((elim f X Y c.toNat).piv).length):Int)) c))),(11,aEx (vClo 123 [.pointer (some ⟨b5_2,0,none⟩),.pointer (some ⟨b7_3,0,none⟩)])),(12,aEx (vec rr5 (((elim f X Y c.toNat).piv).length) cc5)),(13,aInt c),(14,aEx (.pointer (some ⟨b14_6,0,none⟩))),(97,aInt (↑Hs.length:Int)),(98,aInt i)],[oBox b16_9 3 [aInt (invF f (ix 0 (ix [] (ph1 (elim f X Y c.toNat) (elim f X Y c.toNat).X k) (↑(((elim f X Y c.toNat).piv).length):Int)) c))],oBox b15_7 3 [aInt k],oBox b14_6 3 [aInt (↑(((elim f X Y c.toNat).piv).length):Int)],oVec rr5 cc5 3 1 false aInt ((elim f X Y c.toNat).piv),oBox b7_3 65 [aEx (vec r2 Ks.length cap2)],oBox b5_2 65 [aEx (vec r Hs.length cap)],oBox b4_1 95 [aGF f],oVec r cap 29 1 false aH Hq,oRws 3 aInt [] Hq A,oVec r2 cap2 29 1 false aH Kq,oRws 3 aInt [] Kq B]⟩:St)) (fun (ss:Int×List (List Int)×List (List Int))=>match ss with | (i,A,B)=>(0<=i)/\(i<=X.length)/\(clr f c ((elim f X Y c.toNat).piv.length:Int) (ph2 f c (elim f X Y c.toNat) (elim f X Y c.toNat).X k) (ph2 f c (elim f X Y c.toNat) (elim f X Y c.toNat).Y k) i.toNat=(A,B))) (fun (ss:Int×List (List Int)×List (List Int))=>match ss with | (i,A,B)=>(X.length-i).toNat) (0,ph2 f c (elim f X Y c.toNat) (elim f X Y c.toNat).X k,ph2 f c (elim f X Y c.toNat) (elim f X Y c.toNat).Y k) ⟨(by omega),(by omega),rfl⟩ (A_J ⟨rfl,rfl,rfl,rfl,rfl,rfl,rfl,rfl,rfl,A_V (A_p (show 0=(0:Int) by rfl)),trivial⟩ rfl) ?_
  rintro ⟨i,A,B⟩ ⟨i0,i1,hAB⟩
  show Ent _ ⟨_,[_,_,_,_,_,_,_,_,_,_,_]⟩ _
  have hcl:=length_clr f c ((elim f X Y c.toNat).piv.length:Int) (ph2 f c (elim f X Y c.toNat) (elim f X Y c.toNat).X k) (ph2 f c (elim f X Y c.toNat) (elim f X Y c.toNat).Y k) i.toNat
  rw [hAB,length_ph2,length_ph2] at hcl
  simp only at hcl
  have hgA:good f wx A:=by have:=good_clr hS (c:=c) (p:=((elim f X Y c.toNat).piv.length:Int)) (Y:=ph2 f c (elim f X Y c.toNat) (elim f X Y c.toNat).Y k) (good_ph2 hS (c:=c) (s:=(elim f X Y c.toNat)) hgX (k:=k) (by omega) (by omega) (by omega)) i.toNat (by rw [length_ph2];omega);rw [hAB] at this;exact this
  have hwB:wide wy B:=by have:=wide_clr (f:=f) (c:=c) (p:=((elim f X Y c.toNat).piv.length:Int)) (X:=ph2 f c (elim f X Y c.toNat) (elim f X Y c.toNat).X k) (wide_ph2 (f:=f) (c:=c) (s:=(elim f X Y c.toNat)) hwY (k:=k) (by omega) (by rcases hy with hy | hy;(have : Y.length=0:=by rw [hy];rfl);omega;omega)) i.toNat;rw [hAB] at this;exact this
  refine esr rfl fun _ K26=>?_
  refine A_A rfl (A_r rfl rfl) ?_
  refine enk K26 ?_
  refine A_C fun _ K27=>?_
  refine A_G rfl (fun h99=>?_) (fun h99=>?_)
  ·have hri:=wide_ix (good_wide hgA) (i:=i) (by omega) (by omega)
   have hyB:B.length=0\/B.length=X.length:=by rcases hy with hy | hy;(left;have : Y.length=0:=by rw [hy];rfl);omega;right;omega
   refine esp K27 ?_
   refine A_C fun _ K28=>?_
   refine A_K ?_
   refine esr rfl fun _ K29=>?_
   refine ent_alloc (z:=(.int .i64 0)) [aInt 0] rfl zv3 rfl zc3 (fun b18_11=>?_)
   refine ent_storeB (k:=0) sizeOf3 rfl rfl rfl (A_N _) rfl ?_
   refine enk K29 ?_
   refine esr rfl fun _ K30=>?_
   refine A_A rfl (A_I (k:=6) isAgg65 rfl rfl rfl) ?_
   refine A_A rfl (A_I (k:=0) isAgg3 rfl rfl rfl) ?_
   refine A_A rfl (ok_indexV0 (k:=8) sl65 rfl rfl (by simp_all) rfl (by omega) (by omega)) ?_
   refine A_A rfl (ok_loadV0 (k:=8) Hdr.no ti29 rfl rfl (by omega) (by omega)) ?_
   refine emm rfl ?_
   refine A_A rfl (ok_indexH (k:=9) sl29 rfl rfl rfl (by omega) (by omega) (by exact List.not_mem_nil) (by omega) (by omega)) ?_
   refine A_A rfl (ok_loadH (k:=9) 0 ti3 rfl rfl (by omega) (by omega) (by exact List.not_mem_nil) (by omega) (by omega)) ?_
   refine ent_alloc (z:=(.int .i64 0)) [aInt 0] rfl zv3 rfl zc3 (fun b19_12=>?_)
   refine ent_storeB (k:=0) sizeOf3 rfl rfl rfl (A_N _) rfl ?_
   refine enk K30 ?_
   refine A_C fun _ K31=>?_
   refine ent_cut (⟨[(2,aInt cols),(4,aEx (.pointer (some ⟨b4_1,0,none⟩))),(5,aEx (.pointer (some ⟨b5_2,0,none⟩))),(10,aInt (mulF f (if k≠((elim f X Y c.toNat).piv.length:Int) then negF f (elim f X Y c.toNat).det else (elim f X Y c.toNat).det) (ix 0 (ix [] (ph1 (elim f X Y c.toNat) (elim f X Y c.toNat).X k) (↑(((elim f X Y c.toNat).piv).length):Int)) c))),(11,aEx (vClo 123 [.pointer (some ⟨b5_2,0,none⟩),.pointer (some ⟨b7_3,0,none⟩)])),(12,aEx (vec rr5 (((elim f X Y c.toNat).piv).length) cc5)),(13,aInt c),(14,aEx (.pointer (some ⟨b14_6,0,none⟩))),(18,aEx (.pointer (some ⟨b18_11,0,none⟩))),(19,aEx (.pointer (some ⟨b19_12,0,none⟩))),(97,aInt (↑Hs.length:Int)),(98,aInt i),(114,aBool (decide ((i≠(↑(((elim f X Y c.toNat).piv).length):Int))/\((ix 0 (ix [] A i) c)≠0))))],[oBox b19_12 3 [aInt (ix 0 (ix [] A i) c)],oBox b18_11 3 [aInt i],oBox b16_9 3 [aInt (invF f (ix 0 (ix [] (ph1 (elim f X Y c.toNat) (elim f X Y c.toNat).X k) (↑(((elim f X Y c.toNat).piv).length):Int)) c))],oBox b15_7 3 [aInt k],oBox b14_6 3 [aInt (↑(((elim f X Y c.toNat).piv).length):Int)],oVec rr5 cc5 3 1 false aInt ((elim f X Y c.toNat).piv),oBox b7_3 65 [aEx (vec r2 Ks.length cap2)],oBox b5_2 65 [aEx (vec r Hs.length cap)],oBox b4_1 95 [aGF f],oVec r cap 29 1 false aH Hq,oRws 3 aInt [] Hq A,oVec r2 cap2 29 1 false aH Kq,oRws 3 aInt [] Kq B]⟩) ?_ ?_
   ·refine A_H ?_
    refine A_A rfl (A_I (k:=1) isAgg3 rfl rfl rfl) ?_
    refine A_A rfl (A_I (k:=4) isAgg3 rfl rfl rfl) ?_
    refine A_A rfl (ok_neq rfl rfl) ?_
    refine emm rfl ?_
    refine ent_guardXDt rfl rfl rfl rfl (fun hg111=>?_) (fun hg111=>?_)
    ·refine A_A rfl (A_I (k:=0) isAgg3 rfl rfl rfl) ?_
     refine A_M rfl rfl rfl rfl (decide_eq_true hg111) ?_
     refine A_A rfl (ok_neq rfl rfl) ?_
     refine A_A rfl (A_m rfl (decide_eq_true hg111) rfl) ?_
     refine A_O ?_
     exact A_J ⟨rfl,rfl,rfl,rfl,rfl,rfl,rfl,rfl,rfl,rfl,rfl,rfl,A_X (dq_Q ((and_iff_right hg111).trans Iff.rfl)),trivial⟩ rfl
    refine A_E rfl rfl rfl rfl (decide_eq_false hg111) ?_
    refine A_A rfl (A_1 rfl (decide_eq_false hg111) rfl) ?_
    refine A_O ?_
    exact A_J ⟨rfl,rfl,rfl,rfl,rfl,rfl,rfl,rfl,rfl,rfl,rfl,rfl,A_X (dq_F rfl (fun h=>hg111 h.1)),trivial⟩ rfl
   refine A_0 K31 ?_
   refine A_G rfl (fun h114=>?_) (fun h114=>?_)
   ·refine A_H ?_
    refine emm rfl ?_
    refine A_A rfl (ok_makeFunc (us:=[.pointer (some ⟨b4_1,0,none⟩),.pointer (some ⟨b18_11,0,none⟩),.pointer (some ⟨b19_12,0,none⟩),.pointer (some ⟨b14_6,0,none⟩)]) rfl) ?_
    refine ent_pm 13 [8,7,6,5,4,3,2,1,0,12,11,10,9] rfl (by decide) rfl ?_
    refine ent_callWC (As:=[aClo 128 [aAt 1 false (aGF f),aAt 1 false (aInt i),aAt 1 false (aInt (ix 0 (ix [] A i) c)),aAt 1 false (aInt (↑(((elim f X Y c.toNat).piv).length):Int))]]) (Bs:=[aAt 1 false (aEx (vec r Hq.length cap)),aAt 1 false (aEx (vec r2 Kq.length cap2))]) (rs:=[oBox b19_12 3 [aInt (ix 0 (ix [] A i) c)],oBox b18_11 3 [aInt i],oBox b16_9 3 [aInt (invF f (ix 0 (ix [] (ph1 (elim f X Y c.toNat) (elim f X Y c.toNat).X k) (↑(((elim f X Y c.toNat).piv).length):Int)) c))],oBox b15_7 3 [aInt k],oBox b14_6 3 [aInt (↑(((elim f X Y c.toNat).piv).length):Int)],oVec rr5 cc5 3 1 false aInt ((elim f X Y c.toNat).piv),oBox b7_3 65 [aEx (vec r2 Ks.length cap2)],oBox b5_2 65 [aEx (vec r Hs.length cap)],oBox b4_1 95 [aGF f]]) [4,5,8,10,11,12] rfl (eachAdd_ok f r cap Hq A r2 cap2 Kq B i (ix 0 (ix [] A i) c) (↑(((elim f X Y c.toNat).piv).length):Int) ‹_› (by omega) (by omega) (by grind) (by omega) (by omega) ‹_› (by omega) (by omega) (by rw [wide_ix (good_wide hgA) (by omega) (by omega),hri]) (wid_eq hwB hyB (by omega) (by omega) (by omega) (by omega))) rfl rfl (.inr ⟨fun (_:Unit)=>pl_any,fun (_:Unit)=>AllFlat.mem ⟨flatOwn_vec flat_H,flatOwn_rws flat_int,flatOwn_vec flat_H,flatOwn_rws flat_int,trivial⟩⟩) rfl ⟨A_u rfl (cv_clo ⟨cv_box1 (k:=12) (off_lent rfl (by decide)) (A_x (A_l _)),cv_box1 (k:=5) (off_lent rfl (by decide)) (A_x (A_l _)),cv_box1 (k:=4) (off_lent rfl (by decide)) (A_x (A_l _)),cv_box1 (k:=8) (off_lent rfl (by decide)) (A_x (A_l _)),trivial⟩),trivial⟩ ⟨A_u rfl (cv_box1 (k:=11) (off_lent rfl (by decide)) (cv_ex (congrArg (fun n=>vec r n cap) (show Hs.length=Hq.length by omega)))),A_u rfl (cv_box1 (k:=10) (off_lent rfl (by decide)) (cv_ex (congrArg (fun n=>vec r2 n cap2) (show Ks.length=Kq.length by omega)))),trivial⟩ ?_
    rintro ⟨⟩ -
    show Ent _ ⟨_::_,[_,_,_,_,_,_,_,_,_,_,_,_,_]⟩ _
    refine ent_pm 13 [3,2,1,0,12,11,10,9,8,7,6,5,4] rfl (by decide) rfl ?_
    refine enk K28 ?_
    refine A_H ?_
    refine A_A rfl (A_n rfl rfl (by omega) (by omega)) ?_
    refine emm rfl ?_
    refine A_O ?_
    refine ent_drop 0 ?_
    refine ent_drop 0 ?_
    refine A_U (s:=(i,A,B)) (i+1,List.set A i.toNat (addTo f (ix [] A i) (negF f (ix 0 (ix [] A i) c)) (ix [] A (↑(((elim f X Y c.toNat).piv).length):Int))),List.set B i.toNat (addTo f (ix [] B i) (negF f (ix 0 (ix [] A i) c)) (ix [] B (↑(((elim f X Y c.toNat).piv).length):Int)))) ⟨(by omega),(by omega),(by exact clr_go i0 hAB h114)⟩ (by dsimp only;omega) (A_J ⟨rfl,rfl,rfl,rfl,rfl,rfl,rfl,rfl,rfl,rfl,trivial⟩ rfl)
   refine esp K28 ?_
   refine A_H ?_
   refine A_A rfl (A_n rfl rfl (by omega) (by omega)) ?_
   refine emm rfl ?_
   refine A_O ?_
   refine ent_drop 0 ?_
   refine ent_drop 0 ?_
   refine A_U (s:=(i,A,B)) (i+1,A,B) ⟨(by omega),(by omega),(by exact clr_stay i0 hAB h114)⟩ (by dsimp only;omega) (A_J ⟨rfl,rfl,rfl,rfl,rfl,rfl,rfl,rfl,rfl,rfl,trivial⟩ rfl)
  have hie:i.toNat=(elim f X Y c.toNat).X.length:=by omega
  rw [hie] at hAB
  refine A_e ?_
  refine A_0 K24 ?_
  refine A_H ?_
  refine emm rfl ?_
  refine ent_appendL (k:=3) (enc:=aInt) (y:=c) rfl rfl vt29 rfl rfl rfl rfl ((A_z (A_N _))) (by omega) (by omega) (by decide) (fun b122_14 c122_14=>?_)
  refine emm rfl ?_
  refine enk K9 ?_
  refine A_H ?_
  refine emm rfl ?_
  refine A_A rfl (A_n rfl rfl (by omega) (by omega)) ?_
  refine emm rfl ?_
  refine A_O ?_
  refine ent_drop 0 ?_
  refine ent_drop 0 ?_
  refine ent_drop 0 ?_
  refine A_U (s:=(c,Hc,Kc,rr5,cc5)) (c+1,Hq,Kq,(some b122_14),c122_14) ⟨(by omega),(by omega),‹_›,‹_›⟩ (by dsimp only;omega) (A_J ⟨rfl,rfl,rfl,A_V (A_p (show mulF f (if k≠((elim f X Y c.toNat).piv.length:Int) then negF f (elim f X Y c.toNat).det else (elim f X Y c.toNat).det) (ix 0 (ix [] (ph1 (elim f X Y c.toNat) (elim f X Y c.toNat).X k) (↑(((elim f X Y c.toNat).piv).length):Int)) c)=(elim f X Y (c+1).toNat).det by rw [hne];rfl)),rfl,A_V (av_vec (congrArg List.length (show (elim f X Y (c+1).toNat).piv=((elim f X Y c.toNat).piv)++[c] by rw [hne];rfl).symm)),rfl,trivial⟩ (A_F (A_s (show (elim f X Y (c+1).toNat).piv=((elim f X Y c.toNat).piv)++[c] by rw [hne];rfl)) (A_F (rfl) (A_F (rfl) (A_F (rfl) (A_F (rfl) (A_F (own_rws rfl (show (elim f X Y (c+1).toNat).X=A by rw [hne];exact congrArg Prod.fst hAB)) (A_F (rfl) (A_F (own_rws rfl (show (elim f X Y (c+1).toNat).Y=B by rw [hne];exact congrArg Prod.snd hAB)) (rfl))))))))))
 have hfin:=elim_end (f:=f) (X:=X) (Y:=Y) c0 c1 (fun h=>h30 ⟨h.1,by omega⟩)
 refine A_e ?_
 refine A_0 K5 ?_
 refine esk rfl ?_
 refine A_Q ?_
 refine ent_drop 1 ?_
 refine ent_drop 1 ?_
 refine ent_drop 1 ?_
 refine ent_pm 5 [0,4,3,2,1] rfl (by decide) rfl ?_
 exact retW (.inr rfl) (Hc,Kc,rr5,cc5) (⟨hHc,hKc⟩) ((show ([oVec r cap 29 1 false aH Hc,oRws 3 aInt [] Hc ((elim f X Y cols.toNat).X),oVec r2 cap2 29 1 false aH Kc,oRws 3 aInt [] Kc ((elim f X Y cols.toNat).Y),oVec rr5 cc5 3 1 false aInt ((elim f X Y cols.toNat).piv)]:List Own) = [oVec r cap 29 1 false aH Hc,oRws 3 aInt [] Hc ((elim f X Y c.toNat).X),oVec r2 cap2 29 1 false aH Kc,oRws 3 aInt [] Kc ((elim f X Y c.toNat).Y),oVec rr5 cc5 3 1 false aInt ((elim f X Y c.toNat).piv)] from (A_F (rfl) (A_F (own_rws rfl (show (elim f X Y cols.toNat).X=(elim f X Y c.toNat).X by rw [hfin])) (A_F (rfl) (A_F (own_rws rfl (show (elim f X Y cols.toNat).Y=(elim f X Y c.toNat).Y by rw [hfin])) (A_F (A_s (show (elim f X Y cols.toNat).piv=(elim f X Y c.toNat).piv by rw [hfin])) (rfl))))))).symm) (resW2 results103 (A_L (A_S rfl (cv_ex (show vec rr5 (((elim f X Y c.toNat).piv).length) cc5=vec rr5 (((elim f X Y cols.toNat).piv).length) cc5 by rw [hfin])))) (A_L (A_S rfl (A_Z (by rw [hfin])))))
end Go.Proofs.Ytaipghchkamajaa

