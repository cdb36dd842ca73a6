/-
  Walks.
-/
import Derived.Test.YtaipghchkamajaaTab
import Derived.Test.YtaipghchkamajaaPlainJ1
open Go Go.Cw
namespace Go.Proofs.Ytaipghchkamajaa
open Try
set_option maxRecDepth 100000
set_option linter.unusedVariables false
set_option linter.unusedSimpArgs false

noncomputable abbrev aGF (f:Fld):AV:=aAt 6 true (aAgg [aInt f.P,aInt f.M,aAny,aInt f.q,aInts f.exps,aInts f.logs])
abbrev aFld (f:Fld):AV:=aAgg [aInt f.P,aInt f.M,aInts f.mod]

theorem order_ok (p m:Int)  : Ctr Try.prog 89 [aInt p,aInt m] (aInt (ordS p m)):=by
 refine B_E Try.call89 func89 rfl rfl ?_
 intro w O
 refine esk rfl <|A_C fun _ K2=>A_C fun _ K3=>?_
 refine B_N (⟨[(0,aInt p),(1,aInt m),(19,aBool (decide ((((p<2)\/(256<p))\/(m<1))\/(8<m))))],[]⟩) ?_ ?_
 ·refine A_F <|emm rfl <|A_A rfl (A_m rfl rfl) <|emm rfl ?_
  refine A_6 rfl rfl rfl rfl (fun hg8=>?_) (fun hg8=>?_)
  ·refine emm rfl <|A_M rfl rfl rfl rfl (d_F hg8) <|A_A rfl (C_M rfl rfl) <|A_A rfl (A_3 rfl (d_F hg8) rfl) <|emm rfl ?_
   refine A_6 rfl rfl rfl rfl (fun hg12=>?_) (fun hg12=>?_)
   ·refine emm rfl <|A_M rfl rfl rfl rfl (d_F hg12) <|A_A rfl (A_m rfl rfl) <|A_A rfl (A_3 rfl (d_F hg12) rfl) <|emm rfl ?_
    refine A_6 rfl rfl rfl rfl (fun hg16=>?_) (fun hg16=>?_)
    ·refine emm rfl <|A_M rfl rfl rfl rfl (d_F hg16) <|A_A rfl (C_M rfl rfl) <|A_A rfl (A_3 rfl (d_F hg16) rfl) <|A_O ?_
     exact A_J ⟨rfl,rfl,A_a (dq_Q ((or_iff_right (fun h=>h.elim (fun h=>h.elim hg8 hg12) hg16)).trans Iff.rfl)),trivial⟩ rfl
    refine A_E rfl rfl rfl rfl (d_T hg16) <|A_A rfl (A_q rfl (d_T hg16) rfl) <|A_O ?_
    exact A_J ⟨rfl,rfl,A_a (dq_T rfl (Or.inl (Or.inr hg16))),trivial⟩ rfl
   refine A_E rfl rfl rfl rfl (d_T hg12) <|A_A rfl (A_q rfl (d_T hg12) rfl) <|emm rfl <|A_E rfl rfl rfl rfl rfl <|A_E rfl rfl rfl rfl rfl <|A_A rfl (A_q rfl rfl rfl) <|A_O ?_
   exact A_J ⟨rfl,rfl,A_a (dq_T rfl (Or.inl (Or.inl (Or.inr hg12)))),trivial⟩ rfl
  refine A_E rfl rfl rfl rfl (d_T hg8) <|A_A rfl (A_q rfl (d_T hg8) rfl) <|emm rfl <|A_E rfl rfl rfl rfl rfl <|A_E rfl rfl rfl rfl rfl <|A_A rfl (A_q rfl rfl rfl) <|emm rfl <|A_E rfl rfl rfl rfl rfl <|A_E rfl rfl rfl rfl rfl <|A_A rfl (A_q rfl rfl rfl) <|A_O ?_
  exact A_J ⟨rfl,rfl,A_a (dq_T rfl (Or.inl (Or.inl (Or.inl hg8)))),trivial⟩ rfl
 refine A_1 K3 ?_
 refine A_H rfl (fun h19=>?_) (fun h19=>?_)
 ·refine esk rfl <|A_R ?_
  exact retR1 (.inr rfl) results89 (A_L (A_U rfl (A_b (by exact (ordS_bad p m (by omega)).symm))))
 refine esp K2 <|esk rfl <|A_C fun _ K6=>esk rfl <|A_I <|A_Y (fun (i:Int)=>(⟨[(0,aInt p),(5,aInt (p^i.toNat)),(20,aInt m),(21,aInt i)],[]⟩:St)) (fun (i:Int)=>(0<=i)/\(i<=m)/\(1<=p^i.toNat)/\(p^i.toNat<=256)) (fun (i:Int)=>(m-i).toNat) 0 ⟨(by omega),(by omega),(by simp),(by simp)⟩ (A_J ⟨rfl,A_Q (A_k (show 1=p^(0:Int).toNat by simp)),rfl,A_Q (A_k (show 0=(0:Int) by rfl)),trivial⟩ rfl) ?_
 rintro i ⟨h0,h1,h2,h3⟩
 show Ent _ ⟨_,[]⟩ _
 refine esr rfl fun _ K8=>A_A rfl (A_m rfl rfl) <|enk K8 <|A_C fun _ K9=>?_
 refine A_H rfl (fun h22=>?_) (fun h22=>?_)
 ·have hs:=D_2 p i h0
  have hm:=B_5 (show 0<=p^i.toNat by omega) h3 (show 0<=p by omega) (show p<=256 by omega)
  have hq:=C_V p (by omega) (i+1).toNat
  refine esp K9 <|A_C fun _ K10=>A_I <|esr rfl fun _ K11=>A_A rfl (B_2 rfl rfl) <|emm rfl <|enk K11 <|esr rfl fun _ K12=>A_A rfl (C_M rfl rfl) <|enk K12 ?_
  refine A_H rfl (fun h27=>?_) (fun h27=>?_)
  ·refine esk rfl <|A_R ?_
   exact retR1 (.inr rfl) results89 (A_L (A_U rfl (A_b (by exact (ordS_big p m i (by omega) h0 h22 (by rw [hs];omega)).symm))))
  refine esp K10 <|A_F <|A_A rfl (A_g rfl rfl) <|emm rfl <|A_O ?_
  refine A_T (s:=(i)) (i+1) ⟨(by omega),‹_›,(by rw [hs];omega),(by rw [hs];omega)⟩ (by omega) (A_J ⟨rfl,A_Q (A_k (show (p^i.toNat)*p=p^(i+1).toNat by rw [hs])),rfl,rfl,trivial⟩ rfl)
 refine A_Z <|A_1 K6 <|esk rfl <|A_R ?_
 exact retR1 (.inr rfl) results89 (A_L (A_U rfl (A_b (by rw [show i=m by omega] at h3 ⊢;exact (ordS_ok p m (by omega) (by omega) (by omega) h3).symm))))

theorem isPrime_ok (n:Int) (hn:n<=1000000):Ctr Try.prog 116 [aInt n] (aBool (isPr n)):=by
 refine B_E Try.call116 func116 rfl rfl ?_
 intro w O
 refine esk rfl <|A_C fun _ K2=>esk rfl <|A_I <|A_Y (fun (d:Int)=>(⟨[(0,aInt n),(3,aInt d)],[]⟩:St)) (fun (d:Int)=>(2<=d)/\(∀e:Int,2<=e->e<d->n%e≠0)/\(d=2\/(d-1)*(d-1)<=n)) (fun (d:Int)=>(1002001-d).toNat) 2 ⟨(by omega),(fun e h1 h2=>by omega),(.inl rfl)⟩ (A_J ⟨rfl,A_Q (A_k (show 2=(2:Int) by rfl)),trivial⟩ rfl) ?_
 rintro d ⟨hd2,hd,hr⟩
 show Ent _ ⟨_,[]⟩ _
 have hb:d<=1001/\0<=d*d/\d*d<=1002001:=by
    rcases hr with h | h
    ·rw [h];decide
    exact dd_le hd2 h hn
 refine A_C fun _ K4=>esr rfl fun _ K5=>A_A rfl (B_2 rfl rfl) <|emm rfl <|A_A rfl (ok_leq rfl rfl) <|enk K5 ?_
 refine A_H rfl (fun h8=>?_) (fun h8=>?_)
 ·have hn2:2<=n:=by have:=Int.mul_le_mul hd2 hd2 (by omega) (by omega);omega
  refine esp K4 <|A_C fun _ K6=>A_I <|esr rfl fun _ K7=>A_A rfl (C_0 rfl rfl) <|A_A rfl (B_W rfl rfl) <|enk K7 ?_
  refine A_H rfl (fun h14=>?_) (fun h14=>?_)
  ·have hf:isPr n=false:=d_F (fun h=>h.2 d hd2 (by have:=Int.mul_le_mul_of_nonneg_left hd2 (show 0<=d by omega);omega) h14)
   refine esk rfl <|A_R ?_
   exact retR1 (.inr rfl) results116 (A_L (A_U rfl (B_r (by exact hf.symm))))
  refine esp K6 <|A_F <|emm rfl <|A_A rfl (A_g rfl rfl) <|emm rfl <|A_O ?_
  refine A_T (s:=(d)) (d+1) ⟨(by omega),(fun e h1 h2=>by by_cases he:e=d;(rw [he];exact h14);exact hd e h1 (by omega)),(.inr (by rw [show d+1-1=d by omega];exact h8))⟩ (by omega) (A_J ⟨rfl,rfl,trivial⟩ rfl)
 refine A_Z <|A_1 K2 <|esr rfl fun _ K9=>A_A rfl (E_E rfl rfl) <|emm rfl <|enk K9 <|A_R ?_
 exact retR1 (.inr rfl) results116 (A_L (A_U rfl (B_r (by exact decide_eq_decide.2 ⟨fun h=>⟨h,noDiv_of_root n d h hd2 hd (by omega)⟩,fun h=>h.1⟩))))

theorem digitsOf_ok (x p m:Int) (hx:0<=x) (hx2:x<=9223372036854775807:=by omega) (hp:2<=p:=by omega) (hm:0<=m:=by omega) (hm2:m<=1000000:=by omega):CtrF Try.prog 135 [aInt x,aInt p,aInt m] (aVec 3 1 false aInt (digS p m.toNat x)):=by
 refine C_x Try.call135 func135 rfl rfl ?_
 intro w O
 refine esk rfl <|esr rfl fun _ K2=>B_1 aInt 0 rfl vt29 rfl rfl (by omega) (by omega) (by omega) (fun _ _=>rfl) (AllV.mem ⟨rfl,trivial⟩) fun b10_1=>emm rfl <|enk K2 <|A_C fun _ K3=>esr rfl fun _ K4=>A_A rfl (B_T rfl runUnderlying29 rfl) <|emm rfl <|enk K4 <|A_I <|A_Y (fun (ss:Int×Int×List Int)=>match ss with | (i,y,ys)=>(⟨[(0,aInt y),(1,aInt p),(7,aEx (vec (some b10_1) ((m).toNat) ((m).toNat))),(12,aInt (↑((m).toNat):Int)),(13,aInt i)],[oVec (some b10_1) ((m).toNat) 3 1 false aInt (ys++List.replicate (m-i).toNat 0)]⟩:St)) (fun (ss:Int×Int×List Int)=>match ss with | (i,y,ys)=>(0<=i)/\(i<=m)/\(0<=y)/\(y<=9223372036854775807)/\(ys.length=i.toNat)/\(digS p m.toNat x=ys++digS p (m-i).toNat y)) (fun (ss:Int×Int×List Int)=>match ss with | (i,y,ys)=>(m-i).toNat) (0,x,[]) ⟨(by omega),‹_›,‹_›,‹_›,(by simp),(by simp)⟩ (A_J ⟨rfl,rfl,rfl,rfl,A_Q (A_k (show 0=(0:Int) by rfl)),trivial⟩ (A_G (A_e (show []++List.replicate (m-(0:Int)).toNat 0=List.replicate ((m).toNat) 0 by simp)) (rfl))) ?_
 rintro ⟨i,y,ys⟩ ⟨h0,h1,hy,hy2,hl,hd⟩
 show Ent _ ⟨_,[_]⟩ _
 have hdv:0<=y/p/\y/p<=y:=⟨Int.ediv_nonneg hy (by omega),Int.ediv_le_self _ hy⟩
 have hll:(ys++List.replicate (m-i).toNat (0:Int)).length=m.toNat:=by simp [hl];omega
 refine esr rfl fun _ K5=>A_A rfl (A_m rfl rfl) <|enk K5 <|A_C fun _ K6=>?_
 refine A_H rfl (fun h14=>?_) (fun h14=>?_)
 ·refine esp K6 <|A_C fun _ K7=>A_I <|esk rfl <|esr rfl fun _ K9=>A_A rfl (C_0 rfl rfl) <|A_A rfl (A_s sl29 rfl rfl) <|B_C (k:=0) (z:=y%p) ti3 rfl rfl rfl (A_n (A_N _)) (by omega) (by omega) <|enk K9 <|A_F <|emm rfl <|A_A rfl (E_i rfl rfl) <|emm rfl <|enk K7 <|A_F <|A_A rfl (A_g rfl rfl) <|emm rfl <|A_O ?_
  refine A_T (s:=(i,y,ys)) (i+1,y/p,ys++[y%p]) ⟨(by omega),(by omega),(by omega),(by omega),(by rw [l_A,hl];simp;omega),(by rw [hd,digS_step p y (by omega),List.append_assoc];rfl)⟩ (by dsimp only;omega) (A_J ⟨rfl,rfl,rfl,rfl,rfl,trivial⟩ (A_G (A_e (show (ys++[y%p])++List.replicate (m-(i+1)).toNat 0=List.set (ys++List.replicate (m-i).toNat 0) (i).toNat (y%p) by exact (F_E 0 _ hl h0 (by omega)).symm)) (rfl)))
 refine A_Z <|A_1 K3 <|esk rfl <|A_R ?_
 exact retR1 (.inr rfl) results135 (A_L (A_U rfl (C_7 (k:=0) B_j rfl rfl (by simp_all) (by rw [hd,show (m-i).toNat=0 by omega];simp [digS]))))

theorem valueOf_ok (d:List Int) (p:Int) (hp:2<=p) (hd:∀c∈d,0<=c/\c<p) (hq:p^d.length<=256):Ctr Try.prog 136 [aSl 1 false aInt d,aInt p] (aInt (valS p d)):=by
 refine B_E Try.call136 func136 rfl rfl ?_
 intro w O
 refine B_D 0 rfl fun hlen0=>esk rfl <|esk rfl <|A_C fun _ K3=>esr rfl fun _ K4=>A_A rfl (A_5 rfl runUnderlying29 rfl) <|A_A rfl (B_L rfl rfl) <|emm rfl <|enk K4 <|A_I <|A_Y (fun (i:Int)=>(⟨[(0,aSl 1 false aInt d),(1,aInt p),(5,aInt (valS p (d.drop (i+1).toNat))),(6,aInt i)],[]⟩:St)) (fun (i:Int)=>(-1<=i)/\(i<d.length)) (fun (i:Int)=>(i+1).toNat) ((↑d.length:Int)-1) ⟨(by omega),(by omega)⟩ (A_J ⟨rfl,rfl,A_Q (A_k (show 0=valS p (d.drop (((↑d.length:Int)-1)+1).toNat) by rw [List.drop_of_length_le (by omega)];rfl)),rfl,trivial⟩ rfl) ?_
 rintro i ⟨h0,h1⟩
 show Ent _ ⟨_,[]⟩ _
 have hb:=G_U hp hd hq (i+1).toNat
 refine A_C fun _ K5=>esr rfl fun _ K6=>A_A rfl (E_E rfl rfl) <|enk K6 ?_
 refine A_H rfl (fun h11=>?_) (fun h11=>?_)
 ·have hpb:=base_bd hp hq (by omega)
  have hmb:=B_5 hb.1 hb.2 (show 0<=p by omega) hpb
  have hix:=hd _ (B_i 0 d (i:=i) (by omega) h1)
  refine esp K5 <|A_C fun _ K7=>A_I <|A_F <|emm rfl <|A_A rfl (B_2 rfl rfl) <|emm rfl <|A_A rfl (A_W 0 sl29 rfl rfl) <|A_A rfl (A_P ti3 rfl) <|A_A rfl (A_g rfl rfl) <|emm rfl <|enk K7 <|A_F <|emm rfl <|A_A rfl (B_L rfl rfl) <|emm rfl <|A_O ?_
  refine A_T (s:=(i)) (i-1) ⟨(by omega),(by omega)⟩ (by omega) (A_J ⟨rfl,rfl,A_Q (A_k (show ((valS p (d.drop (i+1).toNat))*p)+(ix 0 d i)=valS p (d.drop ((i-1)+1).toNat) by rw [show i-1+1=i by omega];exact (valS_drop p d (by omega) h1).symm)),rfl,trivial⟩ rfl)
 refine A_Z <|A_1 K3 <|esk rfl <|A_R ?_
 exact retR1 (.inr rfl) results136 (A_L (A_U rfl (A_b (by rw [show i = -1 by omega];rfl))))

theorem F_Q (f:Fld) (x y:Int) (hS:Shape f) (hx:0<=x:=by omega) (hx2:x<=1000000:=by omega) (hy:0<=y:=by omega) (hy2:y<=1000000:=by omega):Ctr Try.prog 118 [aFld f,aInt x,aInt y] (aInt (f.R.mulc x y)):=by
 have hb:=hS.bd
 have hP:=hS.pI
 have hM:=hS.mI
 have hMN:=hS.mN
 have lx:=B_Y f.P f.M.toNat x
 have ly:=B_Y f.P f.M.toNat y
 refine B_E Try.call118 func118 rfl rfl ?_
 intro w O
 refine A_l 0 2 rfl rfl fun hlen0_2=>esr rfl fun _ K1=>A_w rfl rfl (AllOne.mem ⟨(A_N _),(A_N _),A_j,trivial⟩) fun b3_1=>emm rfl <|enk K1 <|A_C fun _ K2=>A_u 14 mixed (by kernel_rfl) (by kernel_rfl) (by kernel_rfl) <|dw_o rfl (A_D rfl) <|dw_o rfl (A_B runUnderlying51 rfl sizeOf3 (by decide) rfl) <|dw_o rfl (A_K (k:=0) isAgg3 rfl rfl rfl) <|dw_o rfl (A_B runUnderlying51 rfl sizeOf3 (by decide) rfl) <|dw_o rfl (A_K (k:=0) isAgg3 rfl rfl rfl) <|dw_o rfl (A_X (CtrF.ctr (CtrF.sl (digitsOf_ok x f.P f.M ‹_›))) rfl) <|dw_o rfl (A_D rfl) <|dw_o rfl (A_B runUnderlying51 rfl sizeOf3 (by decide) rfl) <|dw_o rfl (A_K (k:=0) isAgg3 rfl rfl rfl) <|dw_o rfl (A_B runUnderlying51 rfl sizeOf3 (by decide) rfl) <|dw_o rfl (A_K (k:=0) isAgg3 rfl rfl rfl) <|dw_o rfl (A_X (CtrF.ctr (CtrF.sl (digitsOf_ok y f.P f.M ‹_›))) rfl) <|dw_o rfl (B_H rfl) <|dw_o rfl (B_H rfl) <|A_9 <|enk K2 <|esr rfl fun _ K3=>A_A rfl (A_B runUnderlying51 rfl sizeOf3 (by decide) rfl) <|A_A rfl (A_K (k:=0) isAgg3 rfl rfl rfl) <|B_1 aInt 0 rfl vt29 rfl rfl (by omega) (by omega) (by omega) (fun _ _=>rfl) (AllV.mem ⟨rfl,trivial⟩) fun b28_2=>emm rfl <|enk K3 <|A_C fun _ K4=>?_
 refine esr rfl fun _ K5=>A_A rfl (A_B runUnderlying51 rfl sizeOf3 (by decide) rfl) <|A_A rfl (A_K (k:=1) isAgg3 rfl rfl rfl) <|A_A rfl (B_L rfl rfl) <|emm rfl <|enk K5 <|A_I <|A_Y (fun (ss:Int×f.R.V)=>match ss with | (i,H)=>(⟨[(3,aEx (.pointer (some ⟨b3_1,0,none⟩))),(7,aSl 1 false aInt (digS f.P f.M.toNat x)),(8,aSl 1 false aInt (digS f.P f.M.toNat y)),(9,aEx (vec (some b28_2) ((f.M).toNat) ((f.M).toNat))),(10,aInt i)],[oVec (some b28_2) ((f.M).toNat) 3 1 false aInt (dl f.R.m H),oBox b3_1 51 [aInt f.P,aInt f.M,aSl 1 false aInt f.mod]]⟩:St)) (fun (ss:Int×f.R.V)=>match ss with | (i,H)=>(-1<=i)/\(i<=f.M-1)/\(H=f.R.hor (f.R.elt y) (f.R.elt x) (f.M-1-i).toNat)) (fun (ss:Int×f.R.V)=>match ss with | (i,H)=>(i+1).toNat) (f.M-1,f.R.vzero) ⟨(by omega),(by omega),(by rw [show (f.M-1-(f.M-1)).toNat=0 by omega];rfl)⟩ (A_J ⟨rfl,rfl,rfl,rfl,rfl,trivial⟩ (A_G (A_e (show dl f.R.m f.R.vzero=List.replicate ((f.M).toNat) 0 by rw [<- hMN];exact dl_zero f.R.m)) (rfl))) ?_
 rintro ⟨i,H⟩ ⟨h0,h1,hH⟩
 show Ent _ ⟨_,[_,_]⟩ _
 have hHe:f.R.El H:=by rw [hH];exact Rg.hor_el f.R _ _ (Rg.elt_el f.R x) _
 have lH:=C_G f.R.m H
 refine A_C fun _ K6=>esr rfl fun _ K7=>A_A rfl (E_E rfl rfl) <|enk K7 ?_
 refine A_H rfl (fun h33=>?_) (fun h33=>?_)
 ·refine esp K6 <|A_C fun _ K8=>A_I <|esr rfl fun _ K9=>A_A rfl (A_B runUnderlying51 rfl sizeOf3 (by decide) rfl) <|A_A rfl (A_K (k:=1) isAgg3 rfl rfl rfl) <|A_A rfl (B_L rfl rfl) <|A_A rfl (A_s sl29 rfl rfl) <|A_A rfl (B_f (k:=0) 0 ti3 rfl rfl) <|emm rfl <|enk K9 <|A_C fun _ K10=>A_u 7 mixed (by kernel_rfl) (by kernel_rfl) (by kernel_rfl) <|dw_o rfl (A_D rfl) <|dw_o rfl (ok_subFrom sl29 rfl rfl (by omega) (by omega) (by omega)) <|dw_o rfl (A_D rfl) <|dw_o rfl (A_B runUnderlying51 rfl sizeOf3 (by decide) rfl) <|dw_o rfl (A_K (k:=1) isAgg3 rfl rfl rfl) <|dw_o rfl (B_L rfl rfl) <|dw_o rfl (ok_subTo sl29 rfl rfl (by omega) (by omega)) <|A_9 <|ent_copyV (k:=0) ((f.M-1).toNat) vt29 rfl rfl rfl rfl (by omega) (by omega) (by omega) (by omega) (by simp only [Nat.min_def];split <;> omega) <|enk K10 <|esr rfl fun _ K11=>A_A rfl (A_s sl29 rfl rfl) <|B_C (k:=0) (z:=0) ti3 rfl rfl rfl (A_n (A_N _)) (by omega) (by simp;omega) <|enk K11 <|esr rfl fun _ K12=>A_A rfl (B_T rfl runUnderlying29 rfl) <|emm rfl ?_
  refine enk K12 <|A_I <|A_Y (fun (j:Int)=>(⟨[(3,aEx (.pointer (some ⟨b3_1,0,none⟩))),(7,aSl 1 false aInt (digS f.P f.M.toNat x)),(8,aSl 1 false aInt (digS f.P f.M.toNat y)),(9,aEx (vec (some b28_2) ((f.M).toNat) ((f.M).toNat))),(10,aInt i),(11,aInt (ix 0 (dl f.R.m H) (f.M-1))),(53,aInt (↑((f.M).toNat):Int)),(54,aInt j)],[oVec (some b28_2) ((f.M).toNat) 3 1 false aInt (dl f.R.m (f.R.hstep H (f.R.elt x) (f.R.elt y i.toNat) j.toNat)),oBox b3_1 51 [aInt f.P,aInt f.M,aSl 1 false aInt f.mod]]⟩:St)) (fun (j:Int)=>(0<=j)/\(j<=f.M)) (fun (j:Int)=>(f.M-j).toNat) 0 ⟨(by omega),(by omega)⟩ (A_J ⟨rfl,rfl,rfl,rfl,rfl,rfl,rfl,A_Q (A_k (show 0=(0:Int) by rfl)),trivial⟩ (A_G (A_e (show dl f.R.m (f.R.hstep H (f.R.elt x) (f.R.elt y i.toNat) (0:Int).toNat)=List.set ((List.take 1 (dl f.R.m H)++List.take ((f.M-1).toNat) (List.drop 0 (dl f.R.m H)))++List.drop (1+((f.M-1).toNat)) (dl f.R.m H)) 0 0 by rw [show ((0:Int)).toNat=0 from rfl,Rg.hstep_zero,<- dl_shift _ (by omega),List.drop_zero,show 1+(f.M-1).toNat=f.R.m by omega,show (f.M-1).toNat=f.R.m-1 by omega])) (rfl))) ?_
  rintro j ⟨j0,j1⟩
  show Ent _ ⟨_,[_,_]⟩ _
  have lV:=C_G f.R.m (f.R.hstep H (f.R.elt x) (f.R.elt y i.toNat) j.toNat)
  refine esr rfl fun _ K13=>A_A rfl (A_m rfl rfl) <|enk K13 <|A_C fun _ K14=>?_
  refine A_H rfl (fun h55=>?_) (fun h55=>?_)
  ·have hmod:1<f.M->j<f.mod.length:=fun h=>by have:=(hS.mod_len h).1;omega
   have hjm:j<f.M:=by omega
   have him:i<f.M:=by omega
   have hst:=hS.step x y H hHe h33 him j0 hjm
   have hbd:=hS.step_bd H (f.R.hstep H (f.R.elt x) (f.R.elt y i.toNat) j.toNat) x y h33 him j0 hjm
   refine esp K14 <|A_C fun _ K15=>A_I <|esk rfl <|esk rfl <|A_C fun _ K18=>esr rfl fun _ K19=>A_A rfl (A_B runUnderlying51 rfl sizeOf3 (by decide) rfl) <|A_A rfl (A_K (k:=1) isAgg3 rfl rfl rfl) <|A_A rfl (C_M rfl rfl) <|enk K19 ?_
   refine B_N (⟨[(3,aEx (.pointer (some ⟨b3_1,0,none⟩))),(7,aSl 1 false aInt (digS f.P f.M.toNat x)),(8,aSl 1 false aInt (digS f.P f.M.toNat y)),(9,aEx (vec (some b28_2) ((f.M).toNat) ((f.M).toNat))),(10,aInt i),(11,aInt (ix 0 (dl f.R.m H) (f.M-1))),(12,aInt j),(13,aInt (lowF f j)),(53,aInt (↑((f.M).toNat):Int)),(54,aInt j)],[oVec (some b28_2) ((f.M).toNat) 3 1 false aInt (dl f.R.m (f.R.hstep H (f.R.elt x) (f.R.elt y i.toNat) j.toNat)),oBox b3_1 51 [aInt f.P,aInt f.M,aSl 1 false aInt f.mod]]⟩) ?_ ?_
   ·refine A_H rfl (fun h59=>?_) (fun h59=>?_)
    ·refine A_F <|A_A rfl (A_B runUnderlying51 rfl sizeOf29 (by decide) rfl) <|A_A rfl (A_K (k:=1) isAgg29 rfl rfl rfl) <|emm rfl <|A_A rfl (A_W 0 sl29 rfl rfl) <|A_A rfl (A_P ti3 rfl) <|emm rfl <|A_O ?_
     exact A_J ⟨rfl,rfl,rfl,rfl,rfl,rfl,rfl,A_Q (A_k (show ix 0 f.mod j=lowF f j by unfold lowF;first | (rw [i_P h59]) | (rw [i_N h59]))),rfl,rfl,trivial⟩ rfl
    refine D_x ?_
    exact A_J ⟨rfl,rfl,rfl,rfl,rfl,rfl,rfl,A_Q (A_k (show 0=lowF f j by unfold lowF;first | (rw [i_P h59]) | (rw [i_N h59]))),rfl,rfl,trivial⟩ rfl
   refine A_1 K18 <|A_u 27 mixed (by kernel_rfl) (E_b (by kernel_rfl)) (by kernel_rfl) <|dw_o rfl (A_D rfl) <|dw_o rfl (A_D rfl) <|dw_o rfl (A_D rfl) <|dw_o rfl (A_D rfl) <|dw_o rfl (A_s sl29 rfl rfl) <|dw_o rfl (B_f (k:=0) 0 ti3 rfl rfl) <|dw_o rfl (A_B runUnderlying51 rfl sizeOf3 (by decide) rfl) <|dw_o rfl (A_K (k:=1) isAgg3 rfl rfl rfl) <|dw_o rfl (A_D rfl) <|dw_o rfl (B_L rfl rfl) <|dw_o rfl (A_D rfl) <|dw_o rfl (B_2 rfl rfl) <|dw_o rfl (A_g rfl rfl) <|dw_o rfl (A_D rfl) <|dw_o rfl (A_D rfl) <|dw_o rfl (A_W 0 sl29 rfl rfl) <|dw_o rfl (A_P ti3 rfl) <|dw_o rfl (A_D rfl) <|dw_o rfl (A_D rfl) <|dw_o rfl (A_W 0 sl29 rfl rfl) <|dw_o rfl (A_P ti3 rfl) <|dw_o rfl (B_2 rfl rfl) <|dw_o rfl (A_g rfl rfl) <|dw_o rfl (A_B runUnderlying51 rfl sizeOf3 (by decide) rfl) <|dw_o rfl (A_K (k:=1) isAgg3 rfl rfl rfl) <|dw_o rfl (C_0 rfl rfl) <|dw_o rfl (A_s sl29 rfl rfl) <|A_9 ?_
   refine B_C (k:=0) (z:=(((ix 0 (dl f.R.m (f.R.hstep H (f.R.elt x) (f.R.elt y i.toNat) j.toNat)) j)+((f.P-(ix 0 (dl f.R.m H) (f.M-1)))*(lowF f j)))+((ix 0 (digS f.P f.M.toNat y) i)*(ix 0 (digS f.P f.M.toNat x) j)))%f.P) ti3 rfl rfl rfl (A_n (A_N _)) (by omega) (by omega) <|enk K15 <|A_F <|A_A rfl (A_g rfl rfl) <|emm rfl <|A_O ?_
   refine A_T (s:=(j)) (j+1) ⟨(by omega),‹_›⟩ (by omega) (A_J ⟨rfl,rfl,rfl,rfl,rfl,rfl,rfl,rfl,trivial⟩ (A_G (A_e (show dl f.R.m (f.R.hstep H (f.R.elt x) (f.R.elt y i.toNat) (j+1).toNat)=List.set (dl f.R.m (f.R.hstep H (f.R.elt x) (f.R.elt y i.toNat) j.toNat)) (j).toNat ((((ix 0 (dl f.R.m (f.R.hstep H (f.R.elt x) (f.R.elt y i.toNat) j.toNat)) j)+((f.P-(ix 0 (dl f.R.m H) (f.M-1)))*(lowF f j)))+((ix 0 (digS f.P f.M.toNat y) i)*(ix 0 (digS f.P f.M.toNat x) j)))%f.P) by exact hst.2.symm)) (rfl)))
  refine A_Z <|A_1 K8 <|A_F <|emm rfl <|A_A rfl (B_L rfl rfl) <|emm rfl <|A_O ?_
  refine A_T (s:=(i,H)) (i-1,f.R.vadd (f.R.T H) (f.R.smul (f.R.elt y i.toNat) (f.R.elt x))) ⟨(by omega),(by omega),(by rw [show (f.M-1-(i-1)).toNat=(f.M-1-i).toNat+1 by omega,hH];show _=f.R.vadd _ (f.R.smul (f.R.elt y (f.R.m-1-(f.M-1-i).toNat)) _);rw [show f.R.m-1-(f.M-1-i).toNat=i.toNat by omega])⟩ (by dsimp only;omega) (A_J ⟨rfl,rfl,rfl,rfl,rfl,trivial⟩ (A_G (A_e (show dl f.R.m (f.R.vadd (f.R.T H) (f.R.smul (f.R.elt y i.toNat) (f.R.elt x)))=dl f.R.m (f.R.hstep H (f.R.elt x) (f.R.elt y i.toNat) j.toNat) by rw [show j=f.M by omega,<- hMN,Rg.hstep_all])) (rfl)))
 have hmem:∀c∈dl f.R.m H,0<=c/\c<f.P:=by rw [<- hP];exact Rg.dl_mem f.R.m H
 have hpq:f.P^(dl f.R.m H).length<=256:=by rw [lH,hMN];omega
 refine A_Z <|A_1 K4 <|esr rfl fun _ K20=>A_A rfl (A_B runUnderlying51 rfl sizeOf3 (by decide) rfl) <|A_A rfl (A_K (k:=1) isAgg3 rfl rfl rfl) <|A_A rfl (G_p [0] (by exact D_U) (valueOf_ok (dl f.R.m H) f.P (by omega) ‹_› ‹_›) ⟨A_z rfl (B_g (k:=0) (B_s rfl) (by simp_all) rfl),A_z rfl (A_y (A_p _)),trivial⟩) <|emm rfl <|enk K20 <|A_R ?_
 exact retR1 (.inr rfl) results118 (A_L (A_U rfl (A_b (by show _=valS (f.p:Int) (dl f.R.m (f.R.mul (f.R.elt y) (f.R.elt x)));rw [<- Rg.hor_m,hH,hP,show (f.M-1-i).toNat=f.R.m by omega]))))

theorem powers_ok (f:Fld) (x:Int) (hS:Shape f) (hx:1<=x) (hx2:x<f.q):CtrF Try.prog 117 [aFld f,aInt f.q,aInt x] (aVec 3 1 false aInt (f.R.pl x (f.R.stopK x))):=by
 have hb:=hS.bd
 have hC:=hS.card
 refine C_x Try.call117 func117 rfl rfl ?_
 intro w O
 refine A_l 0 2 rfl rfl fun hlen0_2=>esr rfl fun _ K1=>A_w rfl rfl (AllOne.mem ⟨(A_N _),(A_N _),A_j,trivial⟩) fun b3_1=>emm rfl <|enk K1 <|esr rfl fun _ K2=>E_6 aInt [1] rfl vt29 (by decide) (⟨0,1,rfl,.inl ⟨rfl,_,rfl,(A_N _),rfl,rfl⟩⟩) rfl fun b10_2=>emm rfl <|enk K2 <|esr rfl fun _ K3=>B_1 aBool false rfl vt42 rfl rfl (by omega) (by omega) (by omega) (fun _ _=>rfl) (AllV.mem ⟨rfl,trivial⟩) fun b12_3=>emm rfl <|enk K3 <|esr rfl fun _ K4=>A_A rfl (A_s sl42 rfl rfl) <|B_C (k:=0) (z:=true) ti4 rfl rfl rfl (A_n (E_N _)) (by omega) (by simp;omega) <|enk K4 <|A_C fun _ K5=>esk rfl <|A_I <|A_Y (fun (ss:Nat×Option Nat×Nat)=>match ss with | (k,rr4,cc4)=>(⟨[(2,aInt x),(3,aEx (.pointer (some ⟨b3_1,0,none⟩))),(7,aEx (vec rr4 ((f.R.pl x k).length) cc4)),(8,aEx (vec (some b12_3) ((f.q).toNat) ((f.q).toNat))),(9,aInt (f.R.powc x k))],[oVec (some b12_3) ((f.q).toNat) 4 1 false aBool (mapR (fun c=>decide (c∈f.R.pl x k)) f.q),oVec rr4 cc4 3 1 false aInt (f.R.pl x k),oBox b3_1 51 [aInt f.P,aInt f.M,aSl 1 false aInt f.mod]]⟩:St)) (fun (ss:Nat×Option Nat×Nat)=>match ss with | (k,rr4,cc4)=>(1<=k)/\(∀j,1<=j->j<k->¬f.R.Halt x j)) (fun (ss:Nat×Option Nat×Nat)=>match ss with | (k,rr4,cc4)=>f.q.toNat-k) (1,(some b10_2),1) ⟨(by omega),(fun j h1 h2=>by omega)⟩ (A_J ⟨rfl,rfl,A_Q (B_J rfl),rfl,A_Q (A_k (show x=f.R.powc x 1 by exact (Rg.powc_one f.R (by omega) (by omega)).symm)),trivial⟩ (A_G (A_e (show mapR (fun c=>decide (c∈f.R.pl x 1)) f.q=List.set (List.replicate ((f.q).toNat) false) 1 true by exact Rg.seen_zero f.R _ _)) (A_G (A_e (show f.R.pl x 1 = [1] by unfold Rg.pl;simp [Rg.powc_zero,Rg.powc,Rg.num_e0])) (rfl)))) ?_
 rintro ⟨k,rr4,cc4⟩ ⟨k1,hm⟩
 show Ent _ ⟨_,[_,_,_]⟩ _
 have hy:=Rg.powc_lt f.R x k
 rw [hC] at hy
 have hsh:=Rg.pl_short f.R hm
 have lp:=Rg.length_pl f.R x k
 have lsn:=A_x (fun c=>decide (c∈f.R.pl x k)) f.q
 refine A_C fun _ K7=>A_C fun _ K8=>?_
 refine B_N (⟨[(2,aInt x),(3,aEx (.pointer (some ⟨b3_1,0,none⟩))),(7,aEx (vec rr4 ((f.R.pl x k).length) cc4)),(8,aEx (vec (some b12_3) ((f.q).toNat) ((f.q).toNat))),(9,aInt (f.R.powc x k)),(24,aBool (decide (((f.R.powc x k)≠0)/\((!(ix false (mapR (fun c=>decide (c∈f.R.pl x k)) f.q) (f.R.powc x k)))=true))))],[oVec (some b12_3) ((f.q).toNat) 4 1 false aBool (mapR (fun c=>decide (c∈f.R.pl x k)) f.q),oVec rr4 cc4 3 1 false aInt (f.R.pl x k),oBox b3_1 51 [aInt f.P,aInt f.M,aSl 1 false aInt f.mod]]⟩) ?_ ?_
 ·refine A_F <|emm rfl <|A_A rfl (B_B rfl rfl) <|emm rfl ?_
  refine B_I rfl rfl rfl rfl (fun hg18=>?_) (fun hg18=>?_)
  ·refine emm rfl <|A_M rfl rfl rfl rfl (d_T hg18) <|emm rfl <|A_M rfl rfl rfl rfl (d_T hg18) <|A_A rfl (A_s sl42 rfl rfl) <|A_M rfl rfl rfl rfl (d_T hg18) <|A_A rfl (B_f (k:=0) false ti4 rfl rfl) <|A_M rfl rfl rfl rfl (d_T hg18) <|A_A rfl (ok_not rfl) <|A_A rfl (A_q rfl (d_T hg18) rfl) <|A_O ?_
   exact A_J ⟨rfl,rfl,rfl,rfl,rfl,A_a (dq_B ((and_iff_right hg18).trans Iff.rfl)),trivial⟩ rfl
  refine A_E rfl rfl rfl rfl (d_F hg18) <|A_E rfl rfl rfl rfl (d_F hg18) <|A_E rfl rfl rfl rfl (d_F hg18) <|A_E rfl rfl rfl rfl (d_F hg18) <|A_A rfl (A_3 rfl (d_F hg18) rfl) <|A_O ?_
  exact A_J ⟨rfl,rfl,rfl,rfl,rfl,A_a (dq_F rfl (fun h=>hg18 h.1)),trivial⟩ rfl
 refine A_1 K8 ?_
 refine A_H rfl (fun h24=>?_) (fun h24=>?_)
 ·have hix:ix false (mapR (fun c=>decide (c∈f.R.pl x k)) f.q) (f.R.powc x k)=decide (f.R.powc x k∈f.R.pl x k):=B_d false _ hy.1 hy.2
  have hnh:¬f.R.Halt x k:=by rintro (h | h);exact h24.1 h;rw [hix,d_T h] at h24;exact absurd h24.2 (by decide)
  refine esp K7 <|A_C fun _ K9=>A_I <|esr rfl fun _ K10=>A_A rfl (A_s sl42 rfl rfl) <|B_C (k:=0) (z:=true) ti4 rfl rfl rfl (A_n (E_N _)) (by omega) (by omega) <|enk K10 <|A_F <|emm rfl <|B_Q (k:=1) (enc:=aInt) (y:=f.R.powc x k) rfl rfl vt29 rfl rfl rfl rfl ((A_n (A_N _))) (by omega) (by omega) (by decide) fun b35_5 c35_5=>emm rfl <|enk K9 <|A_F <|A_A rfl (A_S (k:=2) ti51 rfl rfl rfl) <|emm rfl <|A_A rfl (A_X (F_Q f (f.R.powc x k) x ‹_›) rfl) <|emm rfl <|A_O ?_
  refine A_T (s:=(k,rr4,cc4)) (k+1,(some b35_5),c35_5) ⟨(by omega),(fun j h1 h2=>by by_cases hj:j=k;(rw [hj];exact hnh);exact hm j h1 (by omega))⟩ (by dsimp only;omega) (A_J ⟨rfl,rfl,A_Q (B_J (congrArg List.length (show f.R.pl x (k+1)=(f.R.pl x k)++[f.R.powc x k] by exact Rg.pl_succ f.R x k).symm)),rfl,A_Q (A_k (show f.R.mulc (f.R.powc x k) x=f.R.powc x (k+1) by rfl)),trivial⟩ (A_G (A_e (show mapR (fun c=>decide (c∈f.R.pl x (k+1))) f.q=List.set (mapR (fun c=>decide (c∈f.R.pl x k)) f.q) (f.R.powc x k).toNat true by exact (Rg.seen_succ f.R _ _ _).symm)) (A_G (A_e (show f.R.pl x (k+1)=(f.R.pl x k)++[f.R.powc x k] by exact Rg.pl_succ f.R x k)) (rfl))))
 have hix:ix false (mapR (fun c=>decide (c∈f.R.pl x k)) f.q) (f.R.powc x k)=decide (f.R.powc x k∈f.R.pl x k):=B_d false _ hy.1 hy.2
 have hst:f.R.StopAt x k:=⟨k1,by by_cases hz:f.R.powc x k=0;exact .inl hz;exact .inr (by by_cases hp:f.R.powc x k∈f.R.pl x k;exact hp;exact absurd ⟨hz,by rw [hix,d_F hp];rfl⟩ h24),hm⟩
 refine A_Z <|A_1 K5 <|esk rfl <|A_R ?_
 exact retR1 (.inr rfl) results117 (A_L (A_U rfl (C_7 (k:=1) B_j rfl rfl rfl (by rw [Rg.stopK_eq f.R hst]))))

theorem generator_ok (f:Fld) (hS:Shape f) (hG:f.R.HasGen):CtrF Try.prog 90 [aFld f,aInt f.q] (aVec 3 1 false aInt f.exps):=by
 have hb:=hS.bd
 have hC:=hS.card
 refine C_x Try.call90 func90 rfl rfl ?_
 intro w O
 refine A_l 0 2 rfl rfl fun hlen0_2=>esr rfl fun _ K1=>A_w rfl rfl (AllOne.mem ⟨(A_N _),(A_N _),A_j,trivial⟩) fun b2_1=>emm rfl <|enk K1 <|A_C fun _ K2=>esk rfl <|A_I <|A_Y (fun (x:Int)=>(⟨[(1,aInt f.q),(2,aEx (.pointer (some ⟨b2_1,0,none⟩))),(5,aInt x)],[oBox b2_1 51 [aInt f.P,aInt f.M,aSl 1 false aInt f.mod]]⟩:St)) (fun (x:Int)=>(1<=x)/\(x<=f.q)/\(∀y,1<=y->y<x->¬f.R.Good y)) (fun (x:Int)=>(f.q-x).toNat) 1 ⟨(by omega),(by omega),(fun y h1 h2=>by omega)⟩ (A_J ⟨rfl,rfl,A_Q (A_k (show 1=(1:Int) by rfl)),trivial⟩ rfl) ?_
 rintro x ⟨x1,x2,hno⟩
 show Ent _ ⟨_,[_]⟩ _
 have hsp:=Rg.stopK_spec f.R x
 have lp:=Rg.length_pl f.R x (f.R.stopK x)
 have hk1:=hsp.pos
 refine A_C fun _ K4=>esr rfl fun _ K5=>A_A rfl (A_m rfl rfl) <|enk K5 ?_
 refine A_H rfl (fun h9=>?_) (fun h9=>?_)
 ·refine esp K4 <|A_C fun _ K6=>A_I <|esr rfl fun _ K7=>A_A rfl (A_S (k:=0) ti51 rfl rfl rfl) <|emm rfl <|E_K [] rfl (powers_ok f x ‹_› ‹_› ‹_›) (ArgsA.ok ⟨A_z rfl (A_y (A_p _)),A_z rfl (A_y (A_p _)),A_z rfl (A_y (A_p _)),trivial⟩) fun r15 c15=>D_P 0 rfl (by omega) fun b15_2 hb15_2=>?_
  subst hb15_2
  refine emm rfl <|enk K7 <|A_C fun _ K8=>?_
  refine B_N (⟨[(1,aInt f.q),(2,aEx (.pointer (some ⟨b2_1,0,none⟩))),(5,aInt x),(6,aEx (vec (some b15_2) ((f.R.pl x (f.R.stopK x)).length) c15)),(31,aBool (decide (((↑((f.R.pl x (f.R.stopK x)).length):Int)=(f.q-1))/\((f.R.mulc (ix 0 (f.R.pl x (f.R.stopK x)) (f.q-2)) x)=1))))],[oVec (some b15_2) c15 3 1 false aInt (f.R.pl x (f.R.stopK x)),oBox b2_1 51 [aInt f.P,aInt f.M,aSl 1 false aInt f.mod]]⟩) ?_ ?_
  ·refine A_u 16 mixed (by kernel_rfl) (by kernel_rfl) (by kernel_rfl) <|dw_o rfl (A_D rfl) <|dw_o rfl (B_T rfl runUnderlying29 rfl) <|dw_o rfl (A_D rfl) <|dw_o rfl (B_L rfl rfl) <|dw_o rfl (B_W rfl rfl) <|dw_o rfl (A_D rfl) ?_
   refine G_P rfl rfl rfl rfl (fun hg21=>?_) (fun hg21=>?_)
   ·refine dw_o rfl (A_S (k:=1) ti51 rfl rfl rfl) <|A_r rfl rfl rfl rfl (d_T hg21) <|dw_o rfl (A_D rfl) <|A_r rfl rfl rfl rfl (d_T hg21) <|dw_o rfl (A_D rfl) <|A_r rfl rfl rfl rfl (d_T hg21) <|dw_o rfl (B_L rfl rfl) <|A_r rfl rfl rfl rfl (d_T hg21) ?_
    have hpl:=Rg.ix_pl f.R x (n:=f.R.stopK x) (k:=f.q-2) (by omega) (by omega)
    have hpb:=Rg.powc_lt f.R x (f.q-2).toNat
    rw [hC] at hpb
    refine dw_o rfl (A_s sl29 rfl rfl) <|A_r rfl rfl rfl rfl (d_T hg21) <|dw_o rfl (B_f (k:=0) 0 ti3 rfl rfl) <|A_r rfl rfl rfl rfl (d_T hg21) <|dw_o rfl (A_D rfl) <|A_r rfl rfl rfl rfl (d_T hg21) <|dw_o rfl (A_X (F_Q f (ix 0 (f.R.pl x (f.R.stopK x)) (f.q-2)) x ‹_›) rfl) <|A_r rfl rfl rfl rfl (d_T hg21) <|dw_o rfl (B_W rfl rfl) <|dw_o rfl (A_q rfl (d_T hg21) rfl) <|A_9 <|A_O ?_
    exact A_J ⟨rfl,rfl,rfl,rfl,A_a (dq_Q ((and_iff_right hg21).trans Iff.rfl)),trivial⟩ rfl
   refine A_o rfl rfl rfl rfl (d_F hg21) <|A_o rfl rfl rfl rfl (d_F hg21) <|A_o rfl rfl rfl rfl (d_F hg21) <|A_o rfl rfl rfl rfl (d_F hg21) <|A_o rfl rfl rfl rfl (d_F hg21) <|A_o rfl rfl rfl rfl (d_F hg21) <|A_o rfl rfl rfl rfl (d_F hg21) <|A_o rfl rfl rfl rfl (d_F hg21) <|dw_o rfl (A_3 rfl (d_F hg21) rfl) <|A_9 <|A_O ?_
   exact A_J ⟨rfl,rfl,rfl,rfl,A_a (dq_F rfl (fun h=>hg21 h.1)),trivial⟩ rfl
  refine A_1 K8 ?_
  refine A_H rfl (fun h31=>?_) (fun h31=>?_)
  ·have hgood:f.R.Good x:=⟨by rw [hC];omega,by have:=h31.2;rw [Rg.ix_pl f.R x (by omega) (by omega)] at this;rw [hC,show (f.q-1).toNat=(f.q-2).toNat+1 by omega];exact this⟩
   refine esk rfl <|A_R ?_
   exact retR1 (.inr rfl) results90 (A_L (A_U rfl (C_7 (k:=0) B_j rfl rfl rfl (by have hgx:=Rg.gen_eq f.R (x:=x) ⟨x1,by omega,hgood,hno⟩;have hg1:=hgood.1;rw [hC] at hg1;unfold Fld.exps;rw [hgx,show (f.q-1).toNat=f.R.stopK x by omega]))))
  have hbad:¬f.R.Good x:=by
     rintro ⟨g1,g2⟩
     rw [hC] at g1 g2
     refine h31 ⟨by omega,?_⟩
     rw [Rg.ix_pl f.R x (by omega) (by omega)]
     rw [show (f.q-1).toNat=(f.q-2).toNat+1 by omega] at g2;exact g2
  refine esp K6 <|A_F <|emm rfl <|A_A rfl (A_g rfl rfl) <|emm rfl <|A_O <|C_B 0 ?_
  refine A_T (s:=(x)) (x+1) ⟨(by omega),‹_›,(fun y h1 h2=>by by_cases hy:y=x;(rw [hy];exact hbad);exact hno y h1 (by omega))⟩ (by omega) (A_J ⟨rfl,rfl,rfl,trivial⟩ rfl)
 obtain ⟨y,y1,y2,y3⟩:=hG;exact absurd y3 (hno y y1 (by omega))

theorem generator_no (f:Fld) (hS:Shape f) (hG:¬f.R.HasGen):Ctr Try.prog 90 [aFld f,aInt f.q] (aEx (.slice none 0 0)):=by
 have hb:=hS.bd
 have hC:=hS.card
 refine B_E Try.call90 func90 rfl rfl ?_
 intro w O
 refine A_l 0 2 rfl rfl fun hlen0_2=>esr rfl fun _ K1=>A_w rfl rfl (AllOne.mem ⟨(A_N _),(A_N _),A_j,trivial⟩) fun b2_1=>emm rfl <|enk K1 <|A_C fun _ K2=>esk rfl <|A_I <|A_Y (fun (x:Int)=>(⟨[(1,aInt f.q),(2,aEx (.pointer (some ⟨b2_1,0,none⟩))),(5,aInt x)],[oBox b2_1 51 [aInt f.P,aInt f.M,aSl 1 false aInt f.mod]]⟩:St)) (fun (x:Int)=>(1<=x)/\(x<=f.q)/\(∀y,1<=y->y<x->¬f.R.Good y)) (fun (x:Int)=>(f.q-x).toNat) 1 ⟨(by omega),(by omega),(fun y h1 h2=>by omega)⟩ (A_J ⟨rfl,rfl,A_Q (A_k (show 1=(1:Int) by rfl)),trivial⟩ rfl) ?_
 rintro x ⟨x1,x2,hno⟩
 show Ent _ ⟨_,[_]⟩ _
 have hsp:=Rg.stopK_spec f.R x
 have lp:=Rg.length_pl f.R x (f.R.stopK x)
 have hk1:=hsp.pos
 refine A_C fun _ K4=>esr rfl fun _ K5=>A_A rfl (A_m rfl rfl) <|enk K5 ?_
 refine A_H rfl (fun h9=>?_) (fun h9=>?_)
 ·refine esp K4 <|A_C fun _ K6=>A_I <|esr rfl fun _ K7=>A_A rfl (A_S (k:=0) ti51 rfl rfl rfl) <|emm rfl <|E_K [] rfl (powers_ok f x ‹_› ‹_› ‹_›) (ArgsA.ok ⟨A_z rfl (A_y (A_p _)),A_z rfl (A_y (A_p _)),A_z rfl (A_y (A_p _)),trivial⟩) fun r15 c15=>D_P 0 rfl (by omega) fun b15_2 hb15_2=>?_
  subst hb15_2
  refine emm rfl <|enk K7 <|A_C fun _ K8=>?_
  refine B_N (⟨[(1,aInt f.q),(2,aEx (.pointer (some ⟨b2_1,0,none⟩))),(5,aInt x),(6,aEx (vec (some b15_2) ((f.R.pl x (f.R.stopK x)).length) c15)),(31,aBool (decide (((↑((f.R.pl x (f.R.stopK x)).length):Int)=(f.q-1))/\((f.R.mulc (ix 0 (f.R.pl x (f.R.stopK x)) (f.q-2)) x)=1))))],[oVec (some b15_2) c15 3 1 false aInt (f.R.pl x (f.R.stopK x)),oBox b2_1 51 [aInt f.P,aInt f.M,aSl 1 false aInt f.mod]]⟩) ?_ ?_
  ·refine A_u 16 mixed (by kernel_rfl) (by kernel_rfl) (by kernel_rfl) <|dw_o rfl (A_D rfl) <|dw_o rfl (B_T rfl runUnderlying29 rfl) <|dw_o rfl (A_D rfl) <|dw_o rfl (B_L rfl rfl) <|dw_o rfl (B_W rfl rfl) <|dw_o rfl (A_D rfl) ?_
   refine G_P rfl rfl rfl rfl (fun hg21=>?_) (fun hg21=>?_)
   ·refine dw_o rfl (A_S (k:=1) ti51 rfl rfl rfl) <|A_r rfl rfl rfl rfl (d_T hg21) <|dw_o rfl (A_D rfl) <|A_r rfl rfl rfl rfl (d_T hg21) <|dw_o rfl (A_D rfl) <|A_r rfl rfl rfl rfl (d_T hg21) <|dw_o rfl (B_L rfl rfl) <|A_r rfl rfl rfl rfl (d_T hg21) ?_
    have hpl:=Rg.ix_pl f.R x (n:=f.R.stopK x) (k:=f.q-2) (by omega) (by omega)
    have hpb:=Rg.powc_lt f.R x (f.q-2).toNat
    rw [hC] at hpb
    refine dw_o rfl (A_s sl29 rfl rfl) <|A_r rfl rfl rfl rfl (d_T hg21) <|dw_o rfl (B_f (k:=0) 0 ti3 rfl rfl) <|A_r rfl rfl rfl rfl (d_T hg21) <|dw_o rfl (A_D rfl) <|A_r rfl rfl rfl rfl (d_T hg21) <|dw_o rfl (A_X (F_Q f (ix 0 (f.R.pl x (f.R.stopK x)) (f.q-2)) x ‹_›) rfl) <|A_r rfl rfl rfl rfl (d_T hg21) <|dw_o rfl (B_W rfl rfl) <|dw_o rfl (A_q rfl (d_T hg21) rfl) <|A_9 <|A_O ?_
    exact A_J ⟨rfl,rfl,rfl,rfl,A_a (dq_Q ((and_iff_right hg21).trans Iff.rfl)),trivial⟩ rfl
   refine A_o rfl rfl rfl rfl (d_F hg21) <|A_o rfl rfl rfl rfl (d_F hg21) <|A_o rfl rfl rfl rfl (d_F hg21) <|A_o rfl rfl rfl rfl (d_F hg21) <|A_o rfl rfl rfl rfl (d_F hg21) <|A_o rfl rfl rfl rfl (d_F hg21) <|A_o rfl rfl rfl rfl (d_F hg21) <|A_o rfl rfl rfl rfl (d_F hg21) <|dw_o rfl (A_3 rfl (d_F hg21) rfl) <|A_9 <|A_O ?_
   exact A_J ⟨rfl,rfl,rfl,rfl,A_a (dq_F rfl (fun h=>hg21 h.1)),trivial⟩ rfl
  refine A_1 K8 ?_
  refine A_H rfl (fun h31=>?_) (fun h31=>?_)
  ·have hgood:f.R.Good x:=⟨by rw [hC];omega,by have:=h31.2;rw [Rg.ix_pl f.R x (by omega) (by omega)] at this;rw [hC,show (f.q-1).toNat=(f.q-2).toNat+1 by omega];exact this⟩
   exact absurd ⟨x,x1,by omega,hgood⟩ hG
  have hbad:¬f.R.Good x:=by
     rintro ⟨g1,g2⟩
     rw [hC] at g1 g2
     refine h31 ⟨by omega,?_⟩
     rw [Rg.ix_pl f.R x (by omega) (by omega)]
     rw [show (f.q-1).toNat=(f.q-2).toNat+1 by omega] at g2;exact g2
  refine esp K6 <|A_F <|emm rfl <|A_A rfl (A_g rfl rfl) <|emm rfl <|A_O <|C_B 0 ?_
  refine A_T (s:=(x)) (x+1) ⟨(by omega),‹_›,(fun y h1 h2=>by by_cases hy:y=x;(rw [hy];exact hbad);exact hno y h1 (by omega))⟩ (by omega) (A_J ⟨rfl,rfl,rfl,trivial⟩ rfl)
 refine A_Z <|A_1 K2 <|esk rfl <|A_R ?_
 exact retR1 (.inr rfl) results90 (A_L (A_U rfl (A_y F_G)))

theorem shape_ok (f:Fld)  : Ctr Try.prog 88 [aFld f] (aBool (decide (Shape f))):=by
 refine B_E Try.call88 func88 rfl rfl ?_
 intro w O
 refine A_l 0 2 rfl rfl fun hlen0_2=>esr rfl fun _ K1=>A_w rfl rfl (AllOne.mem ⟨(A_N _),(A_N _),A_j,trivial⟩) fun b1_1=>emm rfl <|enk K1 <|A_C fun _ K2=>A_C fun _ K3=>?_
 refine B_N (⟨[(1,aEx (.pointer (some ⟨b1_1,0,none⟩))),(16,aBool (decide (((ordS f.P f.M)=0)\/((!(isPr f.P))=true))))],[oBox b1_1 51 [aInt f.P,aInt f.M,aSl 1 false aInt f.mod]]⟩) ?_ ?_
 ·refine A_F <|A_A rfl (A_B runUnderlying51 rfl sizeOf3 (by decide) rfl) <|A_A rfl (A_K (k:=0) isAgg3 rfl rfl rfl) <|A_A rfl (A_B runUnderlying51 rfl sizeOf3 (by decide) rfl) <|A_A rfl (A_K (k:=0) isAgg3 rfl rfl rfl) <|A_A rfl (A_X (order_ok f.P f.M) rfl) <|A_A rfl (B_W rfl rfl) <|emm rfl ?_
  refine A_6 rfl rfl rfl rfl (fun hg11=>?_) (fun hg11=>?_)
  ·refine A_A rfl (A_B runUnderlying51 rfl sizeOf3 (by decide) rfl) <|A_M rfl rfl rfl rfl (d_F hg11) <|A_A rfl (A_K (k:=0) isAgg3 rfl rfl rfl) <|A_M rfl rfl rfl rfl (d_F hg11) <|A_A rfl (A_X (isPrime_ok f.P (by have:=F_m hg11;omega)) rfl) <|A_M rfl rfl rfl rfl (d_F hg11) <|A_A rfl (ok_not rfl) <|A_A rfl (A_3 rfl (d_F hg11) rfl) <|A_O ?_
   exact A_J ⟨rfl,A_a (dq_B ((or_iff_right hg11).trans Iff.rfl)),trivial⟩ rfl
  refine A_E rfl rfl rfl rfl (d_T hg11) <|A_E rfl rfl rfl rfl (d_T hg11) <|A_E rfl rfl rfl rfl (d_T hg11) <|A_A rfl (A_q rfl (d_T hg11) rfl) <|A_O ?_
  exact A_J ⟨rfl,A_a (dq_T rfl (Or.inl hg11)),trivial⟩ rfl
 refine A_1 K3 ?_
 refine A_H rfl (fun h16=>?_) (fun h16=>?_)
 ·refine esk rfl <|A_R ?_
  exact retR1 (.inr rfl) results88 (A_L (A_U rfl (B_r (by exact (d_F (fun h=>h16.elim (fun h2=>h.1 h2) (fun h2=>by rw [h.2.1] at h2;exact absurd h2 (by decide)))).symm))))
 have hq:f.q≠0:=fun h=>h16 (.inl h)
 have hpr:isPr f.P=true:=by by_cases h:isPr f.P=true;exact h;exact absurd (.inr (by rw [nt_to h];rfl)) h16
 refine esp K2 <|A_C fun _ K5=>esr rfl fun _ K6=>A_A rfl (A_B runUnderlying51 rfl sizeOf3 (by decide) rfl) <|A_A rfl (A_K (k:=0) isAgg3 rfl rfl rfl) <|A_A rfl (B_W rfl rfl) <|enk K6 ?_
 refine A_H rfl (fun h19=>?_) (fun h19=>?_)
 ·refine esr rfl fun _ K7=>A_A rfl (A_B runUnderlying51 rfl sizeOf29 (by decide) rfl) <|A_A rfl (A_K (k:=0) isAgg29 rfl rfl rfl) <|A_A rfl (A_5 rfl runUnderlying29 rfl) <|A_A rfl (B_W rfl rfl) <|emm rfl <|enk K7 <|A_R ?_
  exact retR1 (.inr rfl) results88 (A_L (A_U rfl (B_r (by exact decide_eq_decide.2 ⟨fun h=>⟨hq,hpr,by unfold modOk;rw [i_P h19];exact h⟩,fun h=>by have:=h.2.2;unfold modOk at this;rw [i_P h19] at this;exact this⟩))))
 refine esp K5 <|A_C fun _ K8=>esr rfl fun _ K9=>A_A rfl (A_B runUnderlying51 rfl sizeOf29 (by decide) rfl) <|A_A rfl (A_K (k:=0) isAgg29 rfl rfl rfl) <|A_A rfl (A_5 rfl runUnderlying29 rfl) <|A_A rfl (A_B runUnderlying51 rfl sizeOf3 (by decide) rfl) <|A_A rfl (A_K (k:=0) isAgg3 rfl rfl rfl) <|A_A rfl (B_B rfl rfl) <|enk K9 ?_
 refine A_H rfl (fun h29=>?_) (fun h29=>?_)
 ·refine esk rfl <|A_R ?_
  exact retR1 (.inr rfl) results88 (A_L (A_U rfl (B_r (by exact (d_F (fun h=>by have:=h.2.2;unfold modOk at this;rw [i_N h19] at this;exact h29 this.1)).symm))))
 refine esp K8 <|A_C fun _ K11=>esr rfl fun _ K12=>A_A rfl (A_B runUnderlying51 rfl sizeOf29 (by decide) rfl) <|A_A rfl (A_K (k:=0) isAgg29 rfl rfl rfl) <|A_A rfl (A_5 rfl runUnderlying29 rfl) <|emm rfl <|enk K12 <|A_I <|A_Y (fun (i:Int)=>(⟨[(1,aEx (.pointer (some ⟨b1_1,0,none⟩))),(31,aSl 1 false aInt f.mod),(32,aInt (↑f.mod.length:Int)),(33,aInt i)],[oBox b1_1 51 [aInt f.P,aInt f.M,aSl 1 false aInt f.mod]]⟩:St)) (fun (i:Int)=>(0<=i)/\(i<=f.mod.length)/\(∀c∈f.mod.take i.toNat,0<=c/\c<f.P)) (fun (i:Int)=>(f.mod.length-i).toNat) 0 ⟨(by omega),(by omega),(by simp)⟩ (A_J ⟨rfl,rfl,rfl,A_Q (A_k (show 0=(0:Int) by rfl)),trivial⟩ rfl) ?_
 rintro i ⟨h0,h1,hm⟩
 show Ent _ ⟨_,[_]⟩ _
 refine esr rfl fun _ K13=>A_A rfl (A_m rfl rfl) <|enk K13 <|A_C fun _ K14=>?_
 refine A_H rfl (fun h34=>?_) (fun h34=>?_)
 ·refine esp K14 <|A_C fun _ K15=>A_I <|esr rfl fun _ K16=>A_A rfl (A_W 0 sl29 rfl rfl) <|A_A rfl (A_P ti3 rfl) <|emm rfl <|enk K16 <|A_C fun _ K17=>?_
  refine B_N (⟨[(1,aEx (.pointer (some ⟨b1_1,0,none⟩))),(31,aSl 1 false aInt f.mod),(32,aInt (↑f.mod.length:Int)),(33,aInt i),(44,aBool (decide (((ix 0 f.mod i)<0)\/(f.P<=(ix 0 f.mod i)))))],[oBox b1_1 51 [aInt f.P,aInt f.M,aSl 1 false aInt f.mod]]⟩) ?_ ?_
  ·refine A_F <|emm rfl <|A_A rfl (A_m rfl rfl) <|emm rfl ?_
   refine A_6 rfl rfl rfl rfl (fun hg39=>?_) (fun hg39=>?_)
   ·refine emm rfl <|A_M rfl rfl rfl rfl (d_F hg39) <|A_A rfl (A_B runUnderlying51 rfl sizeOf3 (by decide) rfl) <|A_M rfl rfl rfl rfl (d_F hg39) <|A_A rfl (A_K (k:=0) isAgg3 rfl rfl rfl) <|A_M rfl rfl rfl rfl (d_F hg39) <|A_A rfl (E_E rfl rfl) <|A_A rfl (A_3 rfl (d_F hg39) rfl) <|A_O ?_
    exact A_J ⟨rfl,rfl,rfl,rfl,A_a (dq_Q ((or_iff_right hg39).trans Iff.rfl)),trivial⟩ rfl
   refine A_E rfl rfl rfl rfl (d_T hg39) <|A_E rfl rfl rfl rfl (d_T hg39) <|A_E rfl rfl rfl rfl (d_T hg39) <|A_A rfl (A_q rfl (d_T hg39) rfl) <|A_O ?_
   exact A_J ⟨rfl,rfl,rfl,rfl,A_a (dq_T rfl (Or.inl hg39)),trivial⟩ rfl
  refine A_1 K17 ?_
  refine A_H rfl (fun h44=>?_) (fun h44=>?_)
  ·refine esk rfl <|A_R ?_
   exact retR1 (.inr rfl) results88 (A_L (A_U rfl (B_r (by exact (d_F (fun h=>by have:=h.2.2;unfold modOk at this;rw [i_N h19] at this;have:=this.2 _ (B_i 0 f.mod h0 h34);omega)).symm))))
  refine esp K15 <|A_F <|A_A rfl (A_g rfl rfl) <|emm rfl <|A_O ?_
  refine A_T (s:=(i)) (i+1) ⟨(by omega),‹_›,(fun c hc=>by rw [B_A 0 f.mod h0 h34] at hc;rcases List.mem_append.1 hc with hc | hc;exact hm c hc;rw [List.mem_singleton] at hc;omega)⟩ (by omega) (A_J ⟨rfl,rfl,rfl,rfl,trivial⟩ rfl)
 refine A_Z <|A_1 K11 <|esk rfl <|A_R ?_
 exact retR1 (.inr rfl) results88 (A_L (A_U rfl (B_r (by exact (d_T ⟨hq,hpr,by unfold modOk;rw [i_N h19];rw [t_L (by omega)] at hm;exact ⟨n_N h29,hm⟩⟩).symm))))

theorem New_ok (f:Fld) (hF:FOk f):CtrF Try.prog 56 [aFld f] (aTup [aGF f,aInt 0]):=by
 have hb:=hF.1.bd
 have hE:=hF.exp_good
 have hq:ordS f.P f.M=f.q:=rfl
 have hml:=hF.1.mod_le
 refine C_x Try.call56 func56 rfl rfl ?_
 intro w O
 refine A_l 0 2 rfl rfl fun hlen0_2=>esr rfl fun _ K1=>A_w rfl rfl (AllOne.mem ⟨(A_N _),(A_N _),A_j,trivial⟩) fun b1_1=>emm rfl <|enk K1 <|A_C fun _ K2=>esr rfl fun _ K3=>A_A rfl (A_S (k:=0) ti51 rfl rfl rfl) <|A_A rfl (A_X (shape_ok f) rfl) <|A_A rfl (E_O rfl) <|enk K3 ?_
 refine A_H rfl (fun h11=>?_) (fun h11=>?_)
 ·exact absurd hF.1 h11
 refine esp K2 <|esr rfl fun _ K4=>A_A rfl (A_B runUnderlying51 rfl sizeOf3 (by decide) rfl) <|A_A rfl (A_K (k:=0) isAgg3 rfl rfl rfl) <|A_A rfl (A_B runUnderlying51 rfl sizeOf3 (by decide) rfl) <|A_A rfl (A_K (k:=0) isAgg3 rfl rfl rfl) <|A_A rfl (A_X (order_ok f.P f.M) rfl) <|emm rfl <|enk K4 <|esr rfl fun _ K5=>A_A rfl (A_S (k:=0) ti51 rfl rfl rfl) <|emm rfl <|E_K [] rfl (generator_ok f hF.1 hF.2) (ArgsA.ok ⟨A_z rfl (A_y (A_p _)),A_z rfl (A_b rfl),trivial⟩) fun r19 c19=>D_P 0 rfl (by omega) fun b19_2 hb19_2=>?_
 subst hb19_2
 refine emm rfl <|enk K5 <|A_C fun _ K6=>esr rfl fun _ K7=>A_A rfl (ok_eqlNil_vec underlying29 rfl) <|enk K7 <|ent_condF rfl <|esp K6 <|A_C fun _ K8=>A_u 16 mixed (by kernel_rfl) (by kernel_rfl) (by kernel_rfl) <|dw_o rfl (A_B runUnderlying51 rfl sizeOf3 (by decide) rfl) <|dw_o rfl (A_K (k:=1) isAgg3 rfl rfl rfl) <|dw_o rfl (A_B runUnderlying51 rfl sizeOf3 (by decide) rfl) <|dw_o rfl (A_K (k:=1) isAgg3 rfl rfl rfl) <|dw_o rfl (ok_build0 vt29) <|dw_o rfl (A_B runUnderlying51 rfl sizeOf29 (by decide) rfl) <|dw_o rfl (A_K (k:=1) isAgg29 rfl rfl rfl) <|dw_o rfl (ok_append0 vt29 rfl rfl (A_y A_h) (by omega) (by omega)) <|dw_o rfl (B_y st51 (As:=[aInt 0,aInt 0,aEx (.slice none 0 0)]) z51 (⟨0,1,rfl,.inl ⟨rfl,_,rfl,(A_N _),rfl,⟨1,1,rfl,.inl ⟨rfl,_,rfl,(A_N _),rfl,⟨2,1,rfl,.inl ⟨rfl,_,rfl,A_j,rfl,rfl⟩⟩⟩⟩⟩⟩)) <|dw_o rfl (A_D rfl) <|dw_o rfl (A_D rfl) <|dw_o rfl (A_D rfl) <|dw_o rfl (ok_makeA aInt 0 vt29 rfl rfl (by omega) (by omega) (by omega) (fun _ _=>rfl) (AllV.mem ⟨rfl,trivial⟩)) <|dw_o rfl (B_y st130 (As:=[aInt 0,aInt 0,aEx (.slice none 0 0),aInt 0,aEx (.slice none 0 0),aEx (.slice none 0 0)]) z130 (⟨0,3,rfl,.inr ⟨_,rfl,rfl,rfl,⟨3,1,rfl,.inl ⟨rfl,_,rfl,(A_N _),rfl,⟨4,1,rfl,.inl ⟨rfl,_,rfl,(B_b rfl),rfl,⟨5,1,rfl,.inl ⟨rfl,_,rfl,E_h,rfl,rfl⟩⟩⟩⟩⟩⟩⟩⟩)) <|dw_o rfl (ok_boxF rfl (AllOne.mem ⟨(A_N _),(A_N _),A_j,(A_N _),(B_b rfl),E_h,trivial⟩)) <|dw_o rfl (B_H rfl) <|A_9 <|A_O <|C_B 1 <|ent_own 6 5 [(5,aEx (vec (some b19_2) ((f.exps).length) c19))] [aInt f.P,aInt f.M,aAny,aInt (ordS f.P f.M),aEx (vec (some b19_2) ((f.exps).length) c19),aAny] rfl rfl (by decide) B_j ⟨.inr (plTo_pl D_U),.inr (plTo_pl D_U),.inr plTo_any,.inr (plTo_pl D_U),.inr (plTo_pl D_U),.inl rfl,trivial⟩ ⟨rfl,trivial⟩ ⟨D_U,trivial⟩ ⟨C_f B_j,trivial⟩ fun b6_3 rb6_3 cb6_3=>?_
 refine A_1 K8 <|A_C fun _ K9=>esr rfl fun _ K10=>A_A rfl (B_T rfl runUnderlying29 rfl) <|emm rfl <|enk K10 <|A_I <|A_Y (fun (n:Int)=>(⟨[(6,aEx (.pointer (some ⟨b6_3,0,none⟩))),(37,aEx (vec (some b19_2) ((f.exps).length) c19)),(38,aInt (↑((f.exps).length):Int)),(39,aInt n)],[oBox b6_3 130 [aInt f.P,aInt f.M,aAny,aInt (ordS f.P f.M),aEx (vec (some b19_2) ((f.exps).length) c19),aEx (vec rb6_3 ((List.replicate (ordS f.P f.M).toNat 0).length) cb6_3)],oVec rb6_3 cb6_3 3 1 false aInt (f.logsTo n),oVec (some b19_2) c19 3 1 false aInt f.exps]⟩:St)) (fun (n:Int)=>(0<=n)/\(n<=f.exps.length)) (fun (n:Int)=>(f.exps.length-n).toNat) 0 ⟨(by omega),(by omega)⟩ (A_J ⟨rfl,rfl,rfl,A_Q (A_k (show 0=(0:Int) by rfl)),trivial⟩ (A_G (rfl) (A_G (A_e (show f.logsTo (0:Int)=List.replicate (ordS f.P f.M).toNat 0 by exact logsTo_zero f)) (rfl)))) ?_
 rintro n ⟨h0,h1⟩
 show Ent _ ⟨_,[_,_,_]⟩ _
 have hll:=D_Y f n
 have hrl:(List.replicate (ordS f.P f.M).toNat (0:Int)).length=f.q.toNat:=l_R
 refine esr rfl fun _ K11=>A_A rfl (A_m rfl rfl) <|enk K11 <|A_C fun _ K12=>?_
 refine A_H rfl (fun h40=>?_) (fun h40=>?_)
 ·refine esp K12 <|A_C fun _ K13=>A_I <|esr rfl fun _ K14=>A_A rfl (A_s sl29 rfl rfl) <|A_A rfl (B_f (k:=2) 0 ti3 rfl rfl) <|emm rfl <|enk K14 <|A_F ?_
  have hx:=hF.exp_ix h0 (show n<f.q-1 by omega)
  refine emm rfl <|A_A rfl (ok_nilCheckEx rfl) <|A_A rfl (A_B runUnderlying130 rfl sizeOf29 (by decide) rfl) <|A_A rfl (A_K (k:=0) isAgg29 rfl rfl rfl) <|emm rfl <|D_P 1 rfl (by omega) fun b50_4 hb50_4=>?_
  subst hb50_4
  refine A_A rfl (A_s sl29 rfl rfl) <|B_C (k:=1) (z:=n) ti3 rfl rfl rfl (A_n (A_N _)) (by omega) (by omega) <|enk K13 <|A_F <|A_A rfl (A_g rfl rfl) <|emm rfl <|A_O ?_
  refine A_T (s:=(n)) (n+1) ⟨(by omega),‹_›⟩ (by omega) (A_J ⟨rfl,rfl,rfl,rfl,trivial⟩ (A_G (C_Y (B_S rfl (B_S rfl (B_S rfl (B_S rfl (B_S rfl (B_S (B_J rfl) (rfl)))))))) (A_G (A_e (show f.logsTo (n+1)=List.set (f.logsTo n) (ix 0 f.exps n).toNat n by exact (hF.logsTo_succ h0 (show n<f.q-1 by omega)).symm)) (rfl))))
 refine A_Z <|A_1 K9 <|esk rfl <|A_R ?_
 exact retR2 (.inr rfl) results56 (A_L (A_U rfl (cvF_box (k:=0) rfl rfl ⟨A_b rfl,A_b rfl,cv_any,A_b rfl,cvF_vec (k:=2) B_j rfl rfl rfl rfl,cvF_vec (k:=1) B_j rfl rfl (by simp_all) (by rw [show n=f.q-1 by omega];rfl),trivial⟩ rfl))) (A_L (A_U rfl (A_b rfl)))

theorem New_no (f:Fld) (hF:¬FOk f):Ctr Try.prog 56 [aFld f] (aTup [aEx (.pointer none),aInt 1]):=by
 refine B_E Try.call56 func56 rfl rfl ?_
 intro w O
 refine A_l 0 2 rfl rfl fun hlen0_2=>esr rfl fun _ K1=>A_w rfl rfl (AllOne.mem ⟨(A_N _),(A_N _),A_j,trivial⟩) fun b1_1=>emm rfl <|enk K1 <|A_C fun _ K2=>esr rfl fun _ K3=>A_A rfl (A_S (k:=0) ti51 rfl rfl rfl) <|A_A rfl (A_X (shape_ok f) rfl) <|A_A rfl (E_O rfl) <|enk K3 ?_
 refine A_H rfl (fun h11=>?_) (fun h11=>?_)
 ·refine esk rfl <|A_R ?_
  exact retR2 (.inr rfl) results56 (A_L (A_U rfl (A_y F_G))) (A_L (A_U rfl (A_b rfl)))
 refine esp K2 <|esr rfl fun _ K5=>A_A rfl (A_B runUnderlying51 rfl sizeOf3 (by decide) rfl) <|A_A rfl (A_K (k:=0) isAgg3 rfl rfl rfl) <|A_A rfl (A_B runUnderlying51 rfl sizeOf3 (by decide) rfl) <|A_A rfl (A_K (k:=0) isAgg3 rfl rfl rfl) <|A_A rfl (A_X (order_ok f.P f.M) rfl) <|emm rfl <|enk K5 <|esr rfl fun _ K6=>A_A rfl (A_S (k:=0) ti51 rfl rfl rfl) <|emm rfl <|A_A rfl (B_x (generator_no f (n_N h11) (fun h=>hF ⟨n_N h11,h⟩)) ⟨A_z rfl (A_y A_h),A_z rfl (A_b rfl),trivial⟩) <|emm rfl <|enk K6 <|A_C fun _ K7=>esr rfl fun _ K8=>A_A rfl (ok_eqlNil_true underlying29 rfl) <|enk K8 <|ent_condT rfl <|esk rfl <|A_R ?_
 exact retR2 (.inr rfl) results56 (A_L (A_U rfl (A_y F_G))) (A_L (A_U rfl (A_b rfl)))
end Go.Proofs.Ytaipghchkamajaa

