/-
  Walks.
-/
import Derived.Test.YtaipghchkamajaaA4
set_option linter.unnecessarySimpa false
open Go Go.Cw
namespace Go.Proofs.Ytaipghchkamajaa
open Try
set_option maxRecDepth 100000
set_option linter.unusedVariables false
set_option linter.unusedSimpArgs false
theorem F_i (f:Fld)  : Ctr Try.prog 84 [aFld f] (aInt f.q):=by
 refine B_E Try.call84 func84 rfl rfl ?_
 intro w O
 refine A_l 0 2 rfl rfl fun hlen0_2=>esr rfl fun _ K1=>A_w rfl rfl (AllOne.mem ⟨(A_N _),(A_N _),A_j,trivial⟩) fun b1_1=>emm rfl <|enk K1 <|A_C fun _ K2=>A_C fun _ K3=>?_
 refine B_N (⟨[(1,aEx (.pointer (some ⟨b1_1,0,none⟩))),(17,aBool (decide (((f.P<2)\/(f.M<1))\/(8<f.M))))],[oBox b1_1 51 [aInt f.P,aInt f.M,aSl 1 false aInt f.mod]]⟩) ?_ ?_
 ·refine A_F <|A_A rfl (A_B runUnderlying51 rfl sizeOf3 (by decide) rfl) <|A_A rfl (A_K (k:=0) isAgg3 rfl rfl rfl) <|A_A rfl (A_m rfl rfl) <|emm rfl ?_
  refine A_6 rfl rfl rfl rfl (fun hg8=>?_) (fun hg8=>?_)
  ·refine A_A rfl (A_B runUnderlying51 rfl sizeOf3 (by decide) rfl) <|A_M rfl rfl rfl rfl (d_F hg8) <|A_A rfl (A_K (k:=0) isAgg3 rfl rfl rfl) <|A_M rfl rfl rfl rfl (d_F hg8) <|A_A rfl (A_m rfl rfl) <|A_A rfl (A_3 rfl (d_F hg8) rfl) <|emm rfl ?_
   refine A_6 rfl rfl rfl rfl (fun hg13=>?_) (fun hg13=>?_)
   ·refine A_A rfl (A_B runUnderlying51 rfl sizeOf3 (by decide) rfl) <|A_M rfl rfl rfl rfl (d_F hg13) <|A_A rfl (A_K (k:=0) isAgg3 rfl rfl rfl) <|A_M rfl rfl rfl rfl (d_F hg13) <|A_A rfl (C_M rfl rfl) <|A_A rfl (A_3 rfl (d_F hg13) rfl) <|A_O ?_
    exact A_J ⟨rfl,A_a (dq_Q ((or_iff_right (fun h=>h.elim hg8 hg13)).trans Iff.rfl)),trivial⟩ rfl
   refine A_E rfl rfl rfl rfl (d_T hg13) <|A_E rfl rfl rfl rfl (d_T hg13) <|A_A rfl (A_q rfl (d_T hg13) rfl) <|A_O ?_
   exact A_J ⟨rfl,A_a (dq_T rfl (Or.inl (Or.inr hg13))),trivial⟩ rfl
  refine A_E rfl rfl rfl rfl (d_T hg8) <|A_E rfl rfl rfl rfl (d_T hg8) <|A_A rfl (A_q rfl (d_T hg8) rfl) <|emm rfl <|A_E rfl rfl rfl rfl rfl <|A_E rfl rfl rfl rfl rfl <|A_E rfl rfl rfl rfl rfl <|A_A rfl (A_q rfl rfl rfl) <|A_O ?_
  exact A_J ⟨rfl,A_a (dq_T rfl (Or.inl (Or.inl hg8))),trivial⟩ rfl
 refine A_1 K3 ?_
 refine A_H rfl (fun h17=>?_) (fun h17=>?_)
 ·refine esk rfl <|A_R ?_
  exact retR1 (.inr rfl) results84 (A_L (A_U rfl (A_b (by exact (ordS_bad f.P f.M (by omega)).symm))))
 refine esp K2 <|esk rfl <|A_C fun _ K6=>esk rfl <|A_I <|A_Y (fun (i:Int)=>(⟨[(1,aEx (.pointer (some ⟨b1_1,0,none⟩))),(3,aInt (f.P^i.toNat)),(4,aInt i)],[oBox b1_1 51 [aInt f.P,aInt f.M,aSl 1 false aInt f.mod]]⟩:St)) (fun (i:Int)=>(0<=i)/\(i<=f.M)/\(1<=f.P^i.toNat)/\(f.P^i.toNat<=256)) (fun (i:Int)=>(f.M-i).toNat) 0 ⟨(by omega),(by omega),(by simp),(by simp)⟩ (A_J ⟨rfl,A_Q (A_k (show 1=f.P^(0:Int).toNat by simp)),A_Q (A_k (show 0=(0:Int) by rfl)),trivial⟩ rfl) ?_
 rintro i ⟨h0,h1,h2,h3⟩
 show Ent _ ⟨_,[_]⟩ _
 refine A_C fun _ K8=>esr rfl fun _ K9=>A_A rfl (A_B runUnderlying51 rfl sizeOf3 (by decide) rfl) <|A_A rfl (A_K (k:=0) isAgg3 rfl rfl rfl) <|A_A rfl (A_m rfl rfl) <|enk K9 ?_
 refine A_H rfl (fun h21=>?_) (fun h21=>?_)
 ·have hs:=D_2 f.P i h0
  have hq:=C_V f.P (by omega) (i+1).toNat
  have hqq:256/f.P<f.P^i.toNat↔256<f.P^i.toNat*f.P:=Int.ediv_lt_iff_lt_mul (by omega)
  refine esp K8 <|A_C fun _ K10=>A_I <|A_C fun _ K11=>esr rfl fun _ K12=>A_A rfl (A_B runUnderlying51 rfl sizeOf3 (by decide) rfl) <|A_A rfl (A_K (k:=0) isAgg3 rfl rfl rfl) <|A_A rfl (E_i rfl rfl) <|A_A rfl (C_M rfl rfl) <|enk K12 ?_
  refine A_H rfl (fun h28=>?_) (fun h28=>?_)
  ·refine esk rfl <|A_R ?_
   exact retR1 (.inr rfl) results84 (A_L (A_U rfl (A_b (by exact (ordS_big f.P f.M i (by omega) h0 h21 (by rw [hs];exact hqq.1 h28)).symm))))
  refine esp K11 <|A_F <|emm rfl <|A_A rfl (A_B runUnderlying51 rfl sizeOf3 (by decide) rfl) <|A_A rfl (A_K (k:=0) isAgg3 rfl rfl rfl) <|A_A rfl (B_2 rfl rfl) <|emm rfl <|enk K10 <|A_F <|emm rfl <|A_A rfl (A_g rfl rfl) <|emm rfl <|A_O ?_
  refine A_T (s:=(i)) (i+1) ⟨(by omega),‹_›,(by rw [hs];omega),(by rw [hs];omega)⟩ (by omega) (A_J ⟨rfl,A_Q (A_k (show (f.P^i.toNat)*f.P=f.P^(i+1).toNat by rw [hs])),rfl,trivial⟩ rfl)
 refine A_Z <|A_1 K6 <|esk rfl <|A_R ?_
 exact retR1 (.inr rfl) results84 (A_L (A_U rfl (A_b (by rw [show i=f.M by omega] at h3 ⊢;exact (ordS_ok f.P f.M (by omega) (by omega) (by omega) h3).symm))))

theorem prime_ok (n:Int) (hn:2<=n) (hn2:n<=256):Ctr Try.prog 85 [aInt n] (aBool (isPr n)):=by
 refine B_E Try.call85 func85 rfl rfl ?_
 intro w O
 refine esk rfl <|A_C fun _ K2=>esk rfl <|A_I <|A_Y (fun (d:Int)=>(⟨[(0,aInt n),(3,aInt d)],[]⟩:St)) (fun (d:Int)=>(2<=d)/\(d<=n)/\(∀e:Int,2<=e->e<d->n%e≠0)) (fun (d:Int)=>(n-d).toNat) 2 ⟨(by omega),‹_›,(fun e h1 h2=>by omega)⟩ (A_J ⟨rfl,A_Q (A_k (show 2=(2:Int) by rfl)),trivial⟩ rfl) ?_
 rintro d ⟨hd2,hdn,hd⟩
 show Ent _ ⟨_,[]⟩ _
 refine A_C fun _ K4=>esr rfl fun _ K5=>A_A rfl (A_m rfl rfl) <|enk K5 ?_
 refine A_H rfl (fun h6=>?_) (fun h6=>?_)
 ·refine esp K4 <|A_C fun _ K6=>A_I <|esr rfl fun _ K7=>A_A rfl (C_0 rfl rfl) <|A_A rfl (B_W rfl rfl) <|enk K7 ?_
  refine A_H rfl (fun h12=>?_) (fun h12=>?_)
  ·refine esk rfl <|A_R ?_
   exact retR1 (.inr rfl) results85 (A_L (A_U rfl (B_r (by exact (d_F (fun h=>h.2 d hd2 h6 h12)).symm))))
  refine esp K6 <|A_F <|emm rfl <|A_A rfl (A_g rfl rfl) <|emm rfl <|A_O ?_
  refine A_T (s:=(d)) (d+1) ⟨(by omega),‹_›,(fun e h1 h2=>by by_cases he:e=d;(rw [he];exact h12);exact hd e h1 (by omega))⟩ (by omega) (A_J ⟨rfl,rfl,trivial⟩ rfl)
 refine A_Z <|A_1 K2 <|esk rfl <|A_R ?_
 exact retR1 (.inr rfl) results85 (A_L (A_U rfl (B_r (by exact (d_T ⟨hn,fun e h1 h2=>hd e h1 (by omega)⟩).symm))))

theorem rdigits_ok (x p m:Int) (hx:0<=x) (hx2:x<=9223372036854775807:=by omega) (hp:2<=p:=by omega) (hm:0<=m:=by omega) (hm2:m<=1000000:=by omega):CtrF Try.prog 115 [aInt x,aInt p,aInt m] (aVec 3 1 false aInt (digS p m.toNat x)):=by
 refine C_x Try.call115 func115 rfl rfl ?_
 intro w O
 refine esk rfl <|esr rfl fun _ K2=>B_1 aInt 0 rfl vt29 rfl rfl (by omega) (by omega) (by omega) (fun _ _=>rfl) (AllV.mem ⟨rfl,trivial⟩) fun b10_1=>emm rfl <|enk K2 <|A_C fun _ K3=>esk rfl <|A_I <|A_Y (fun (ss:Int×Int×List Int)=>match ss with | (i,y,ys)=>(⟨[(0,aInt y),(1,aInt p),(2,aInt m),(7,aEx (vec (some b10_1) ((m).toNat) ((m).toNat))),(8,aInt i)],[oVec (some b10_1) ((m).toNat) 3 1 false aInt (ys++List.replicate (m-i).toNat 0)]⟩:St)) (fun (ss:Int×Int×List Int)=>match ss with | (i,y,ys)=>(0<=i)/\(i<=m)/\(0<=y)/\(y<=9223372036854775807)/\(ys.length=i.toNat)/\(digS p m.toNat x=ys++digS p (m-i).toNat y)) (fun (ss:Int×Int×List Int)=>match ss with | (i,y,ys)=>(m-i).toNat) (0,x,[]) ⟨(by omega),‹_›,‹_›,‹_›,(by simp),(by simp)⟩ (A_J ⟨rfl,rfl,rfl,rfl,A_Q (A_k (show 0=(0:Int) by rfl)),trivial⟩ (A_G (A_e (show []++List.replicate (m-(0:Int)).toNat 0=List.replicate ((m).toNat) 0 by simp)) (rfl))) ?_
 rintro ⟨i,y,ys⟩ ⟨h0,h1,hy,hy2,hl,hd⟩
 show Ent _ ⟨_,[_]⟩ _
 have hdv:0<=y/p/\y/p<=y:=⟨Int.ediv_nonneg hy (by omega),Int.ediv_le_self _ hy⟩
 have hll:(ys++List.replicate (m-i).toNat (0:Int)).length=m.toNat:=by simp [hl];omega
 refine A_C fun _ K5=>esr rfl fun _ K6=>A_A rfl (A_m rfl rfl) <|enk K6 ?_
 refine A_H rfl (fun h13=>?_) (fun h13=>?_)
 ·refine esp K5 <|A_C fun _ K7=>A_I <|esr rfl fun _ K8=>A_A rfl (C_0 rfl rfl) <|A_A rfl (A_s sl29 rfl rfl) <|B_C (k:=0) (z:=y%p) ti3 rfl rfl rfl (A_n (A_N _)) (by omega) (by omega) <|enk K8 <|A_F <|emm rfl <|A_A rfl (E_i rfl rfl) <|emm rfl <|enk K7 <|A_F <|emm rfl <|A_A rfl (A_g rfl rfl) <|emm rfl <|A_O ?_
  refine A_T (s:=(i,y,ys)) (i+1,y/p,ys++[y%p]) ⟨(by omega),‹_›,(by omega),(by omega),(by rw [l_A,hl];simp;omega),(by rw [hd,digS_step p y (by omega),List.append_assoc];rfl)⟩ (by dsimp only;omega) (A_J ⟨rfl,rfl,rfl,rfl,rfl,trivial⟩ (A_G (A_e (show (ys++[y%p])++List.replicate (m-(i+1)).toNat 0=List.set (ys++List.replicate (m-i).toNat 0) (i).toNat (y%p) by exact (F_E 0 _ hl h0 (by omega)).symm)) (rfl)))
 refine A_Z <|A_1 K3 <|esk rfl <|A_R ?_
 exact retR1 (.inr rfl) results115 (A_L (A_U rfl (C_7 (k:=0) B_j rfl rfl (by simp_all) (by rw [hd,show (m-i).toNat=0 by omega];simp [digS]))))

theorem divides_ok (f:Fld) (low:List Int) (hS:Shape f) (h1M:1<f.M) (hd:1<=low.length) (hdm:(low.length:Int)<=f.M) (hlow:∀c∈low,0<=c/\c<f.P):Ctr Try.prog 114 [aSl 1 false aInt low,aSl 1 false aInt f.mod,aInt f.P] (aBool (decide (DivB f low))):=by
 have hb:=hS.bd
 have hP:=hS.pI
 have hM:=hS.mI
 have hml:=hS.mod_len h1M
 have hSm:((f.R.sub low.length hd (dv low)).m:Int)=low.length:=rfl
 have hl0:((([]:List Int)++f.mod++[1]).length:Int)=f.M+1:=by simp;omega
 refine B_E Try.call114 func114 rfl rfl ?_
 intro w O
 refine B_D 0 rfl fun hlen0=>B_D 1 rfl fun hlen1=>esk rfl <|esr rfl fun _ K2=>A_A rfl (A_5 rfl runUnderlying29 rfl) <|emm rfl <|enk K2 <|esr rfl fun _ K3=>E_6 aInt [] rfl vt29 (by decide) (rfl) rfl fun b15_1=>emm rfl <|B_P (k:=0) rfl vt29 rfl rfl rfl rfl (A_y A_h) (by simp only [l_A,List.length_cons,List.length_nil];omega) (by simp only [l_A,List.length_cons,List.length_nil];omega) fun r17_1 cr17_1=>emm rfl <|enk K3 <|esr rfl fun _ K4=>B_Q (k:=0) (enc:=aInt) (y:=1) rfl rfl vt29 rfl rfl rfl rfl ((A_n (A_N _))) (by simp only [l_A,List.length_cons,List.length_nil];omega) (by simp only [l_A,List.length_cons,List.length_nil];omega) (by decide) fun b20_3 c20_3=>emm rfl <|enk K4 <|A_C fun _ K5=>esr rfl fun _ K6=>A_A rfl (B_T rfl runUnderlying29 rfl) <|A_A rfl (B_L rfl rfl) <|emm rfl <|enk K6 <|A_I <|A_Y (fun (ss:Int×List Int)=>match ss with | (i,r)=>(⟨[(0,aSl 1 false aInt low),(2,aInt f.P),(7,aInt (↑low.length:Int)),(8,aEx (vec (some b20_3) ((([]++f.mod)++[1]).length) c20_3)),(9,aInt i)],[oVec (some b20_3) c20_3 3 1 false aInt r]⟩:St)) (fun (ss:Int×List Int)=>match ss with | (i,r)=>((low.length:Int)-1<=i)/\(i<=f.M)/\((r.length:Int)=f.M+1)/\(∀y∈r,0<=y/\y<(f.p:Int))/\(∀k:Int,i<k->k<r.length->ix 0 r k=0)/\((f.R.sub low.length hd (dv low)).act (i+1).toNat (dv r) (f.R.sub low.length hd (dv low)).e0=(f.R.sub low.length hd (dv low)).act (f.R.m+1) f.R.fp (f.R.sub low.length hd (dv low)).e0)) (fun (ss:Int×List Int)=>match ss with | (i,r)=>(i+1).toNat) (f.M,([]++f.mod)++[1]) ⟨(by omega),(by omega),(by simp;omega),(by rw [hP];simpa using mod1_mem hS h1M),(fun k k0 k1=>by simp at k1;omega),(by rw [List.nil_append,dv_fp hS h1M,show (f.M+1).toNat=f.R.m+1 by omega])⟩ (A_J ⟨rfl,rfl,rfl,rfl,A_Q (A_k (show (↑((([]++f.mod)++[1]).length):Int)-1=f.M by simp;omega)),trivial⟩ rfl) ?_
 rintro ⟨i,r⟩ ⟨h0,h1,hrl,hr,hz,hX⟩
 show Ent _ ⟨_,[_]⟩ _
 refine A_C fun _ K7=>esr rfl fun _ K8=>A_A rfl (E_E rfl rfl) <|enk K8 ?_
 refine A_H rfl (fun h26=>?_) (fun h26=>?_)
 ·have hci:=hr _ (B_i 0 r (i:=i))
  refine esp K7 <|A_C fun _ K9=>A_I <|esr rfl fun _ K10=>A_A rfl (A_s sl29 rfl rfl) <|A_A rfl (B_f (k:=0) 0 ti3 rfl rfl) <|emm rfl <|enk K10 <|A_C fun _ K11=>esk rfl <|A_I <|A_Y (fun (ss:Int×List Int)=>match ss with | (j,t)=>(⟨[(0,aSl 1 false aInt low),(2,aInt f.P),(7,aInt (↑low.length:Int)),(8,aEx (vec (some b20_3) ((([]++f.mod)++[1]).length) c20_3)),(9,aInt i),(10,aInt (ix 0 r i)),(11,aInt j)],[oVec (some b20_3) c20_3 3 1 false aInt t]⟩:St)) (fun (ss:Int×List Int)=>match ss with | (j,t)=>(0<=j)/\(j<=low.length)/\((t.length:Int)=f.M+1)/\(∀y∈t,0<=y/\y<(f.p:Int))/\(∀k:Int,i<k->k<t.length->ix 0 t k=0)/\(dv (p:=f.p) t i.toNat=dv r i.toNat)/\((f.R.sub low.length hd (dv low)).vadd ((f.R.sub low.length hd (dv low)).act i.toNat (dv t) (f.R.sub low.length hd (dv low)).e0) ((f.R.sub low.length hd (dv low)).smul (dv t i.toNat) ((f.R.sub low.length hd (dv low)).vadd ((f.R.sub low.length hd (dv low)).pw i.toNat (f.R.sub low.length hd (dv low)).e0) ((f.R.sub low.length hd (dv low)).pw (i.toNat-(f.R.sub low.length hd (dv low)).m) ((f.R.sub low.length hd (dv low)).act j.toNat (f.R.sub low.length hd (dv low)).md (f.R.sub low.length hd (dv low)).e0))))=(f.R.sub low.length hd (dv low)).act (f.R.m+1) f.R.fp (f.R.sub low.length hd (dv low)).e0)) (fun (ss:Int×List Int)=>match ss with | (j,t)=>(low.length-j).toNat) (0,r) ⟨(by omega),(by omega),‹_›,hr,hz,rfl,(Rg.red_start (f.R.sub low.length hd (dv low)) (dv r) i.toNat _ (by rw [show i.toNat+1=(i+1).toNat by omega];exact hX))⟩ (A_J ⟨rfl,rfl,rfl,rfl,rfl,rfl,A_Q (A_k (show 0=(0:Int) by rfl)),trivial⟩ rfl) ?_
  rintro ⟨j,t⟩ ⟨j0,j1,tl,tr,tz,tc,tX⟩
  show Ent _ ⟨_,[_]⟩ _
  refine A_C fun _ K13=>esr rfl fun _ K14=>A_A rfl (A_m rfl rfl) <|enk K14 ?_
  refine A_H rfl (fun h35=>?_) (fun h35=>?_)
  ·have hlj:=hlow _ (B_i 0 low (i:=j) j0 (by omega))
   have hrj:=tr _ (B_i 0 t (i:=i-low.length+j))
   have hmm:=B_5 (show 0<=f.P-ix 0 r i by omega) (by omega) hlj.1 (by omega)
   have hst:=red_list (d:=(low.length:Int)) (i:=i) (c:=ix 0 r i) (l:=ix 0 low j) (j:=j) (f.R.sub low.length hd (dv low)) hSm rfl tr (by omega) (by omega) j0 (by omega) (by rw [tc];rfl) hci.1 (by omega) hlj.1 _ tX
   rw [hP] at hst
   refine esp K13 <|A_C fun _ K15=>A_I <|A_u 26 mixed (by kernel_rfl) (E_b (by kernel_rfl)) (by kernel_rfl) <|dw_o rfl (A_D rfl) <|dw_o rfl (A_D rfl) <|dw_o rfl (A_D rfl) <|dw_o rfl (B_L rfl rfl) <|dw_o rfl (A_D rfl) <|dw_o rfl (A_g rfl rfl) <|dw_o rfl (A_D rfl) <|dw_o rfl (A_D rfl) <|dw_o rfl (A_D rfl) <|dw_o rfl (B_L rfl rfl) <|dw_o rfl (A_D rfl) <|dw_o rfl (A_g rfl rfl) <|dw_o rfl (A_s sl29 rfl rfl) <|dw_o rfl (B_f (k:=0) 0 ti3 rfl rfl) <|dw_o rfl (A_D rfl) <|dw_o rfl (A_D rfl) <|dw_o rfl (B_L rfl rfl) <|dw_o rfl (A_D rfl) <|dw_o rfl (A_D rfl) <|dw_o rfl (A_W 0 sl29 rfl rfl) <|dw_o rfl (A_P ti3 rfl) <|dw_o rfl (B_2 rfl rfl) <|dw_o rfl (A_g rfl rfl) <|dw_o rfl (A_D rfl) <|dw_o rfl (C_0 rfl rfl) <|dw_o rfl (A_s sl29 rfl rfl) ?_
   refine A_9 <|B_C (k:=0) (z:=((ix 0 t ((i-(↑low.length:Int))+j))+((f.P-(ix 0 r i))*(ix 0 low j)))%f.P) ti3 rfl rfl rfl (A_n (A_N _)) (by omega) (by omega) <|enk K15 <|A_F <|emm rfl <|A_A rfl (A_g rfl rfl) <|emm rfl <|A_O ?_
   refine A_T (s:=(j,t)) (j+1,List.set t ((i-(↑low.length:Int))+j).toNat (((ix 0 t ((i-(↑low.length:Int))+j))+((f.P-(ix 0 r i))*(ix 0 low j)))%f.P)) ⟨(by omega),‹_›,(by rw [l_S];exact tl),(by rw [hP];exact hst.1),(fun k k0 k1=>by rw [l_S] at k1;simp only [ix,List.getD];rw [List.getElem?_set_ne (by omega)];exact tz k k0 k1),(hst.2.1.trans tc),hst.2.2⟩ (by dsimp only;omega) (A_J ⟨rfl,rfl,rfl,rfl,rfl,rfl,rfl,trivial⟩ rfl)
  refine A_Z <|A_1 K11 <|A_F <|emm rfl <|A_A rfl (A_s sl29 rfl rfl) <|B_C (k:=0) (z:=0) ti3 rfl rfl rfl (A_n (A_N _)) (by omega) (by omega) <|enk K9 <|A_F <|emm rfl <|A_A rfl (B_L rfl rfl) <|emm rfl <|A_O ?_
  refine A_T (s:=(i,r)) (i-1,List.set t i.toNat 0) ⟨(by omega),(by omega),(by rw [l_S];omega),(E_R tr (by omega)),(fun k k0 k1=>by rw [l_S] at k1;by_cases hk:k=i;(rw [hk];simp [ix,List.getD,show i.toNat<t.length by omega]);(simp only [ix,List.getD];rw [List.getElem?_set_ne (by omega)];exact tz k (by omega) k1)),(by rw [show (i-1+1).toNat=i.toNat by omega,dv_set t (by omega) (by omega),Rg.act_congr (f.R.sub low.length hd (dv low)) i.toNat (c:=dv t) (fun k hk=>by unfold Rg.upd;rw [i_N (by omega)])];refine Rg.red_end (f.R.sub low.length hd (dv low)) (dv t) i.toNat _ (by show low.length<=i.toNat;omega) ?_;rw [show j=(f.R.sub low.length hd (dv low)).m by omega,Int.toNat_natCast] at tX;exact tX)⟩ (by dsimp only;omega) (A_J ⟨rfl,rfl,rfl,rfl,rfl,trivial⟩ (A_G (A_e (show (List.set t i.toNat 0)=List.set t (i).toNat 0 by rfl)) (rfl)))
 refine A_Z <|A_1 K5 <|A_C fun _ K16=>esk rfl <|A_I ?_
 have hend:=divB_end hd hr (fun k k0 k1=>hz k (by omega) k1) (by omega) (by rw [show (i+1).toNat=low.length by omega] at hX;exact hX)
 refine A_Y (fun (k:Int)=>(⟨[(8,aEx (vec (some b20_3) ((([]++f.mod)++[1]).length) c20_3)),(12,aInt k)],[oVec (some b20_3) c20_3 3 1 false aInt r]⟩:St)) (fun (k:Int)=>(0<=k)/\(k<=r.length)/\(∀u:Int,0<=u->u<k->ix 0 r u=0)) (fun (k:Int)=>(r.length-k).toNat) 0 ⟨(by omega),(by omega),(fun u u0 u1=>by omega)⟩ (A_J ⟨rfl,A_Q (A_k (show 0=(0:Int) by rfl)),trivial⟩ rfl) ?_
 rintro k ⟨k0,k1,kz⟩
 show Ent _ ⟨_,[_]⟩ _
 refine A_C fun _ K18=>esr rfl fun _ K19=>A_A rfl (B_T rfl runUnderlying29 rfl) <|A_A rfl (A_m rfl rfl) <|enk K19 ?_
 refine A_H rfl (fun h70=>?_) (fun h70=>?_)
 ·refine esp K18 <|A_C fun _ K20=>A_I <|esr rfl fun _ K21=>A_A rfl (A_s sl29 rfl rfl) <|A_A rfl (B_f (k:=0) 0 ti3 rfl rfl) <|A_A rfl (B_B rfl rfl) <|enk K21 ?_
  refine A_H rfl (fun h77=>?_) (fun h77=>?_)
  ·refine esk rfl <|A_R ?_
   exact retR1 (.inr rfl) results114 (A_L (A_U rfl (B_r (by exact (d_F (fun h=>h77 (hend.1 h k k0 (by omega)))).symm))))
  refine esp K20 <|A_F <|emm rfl <|A_A rfl (A_g rfl rfl) <|emm rfl <|A_O ?_
  refine A_T (s:=(k)) (k+1) ⟨(by omega),(by omega),(fun u u0 u1=>by by_cases hu:u=k;(rw [hu];exact n_N h77);exact kz u u0 (by omega))⟩ (by omega) (A_J ⟨rfl,rfl,trivial⟩ rfl)
 refine A_Z <|A_1 K16 <|esk rfl <|A_R ?_
 exact retR1 (.inr rfl) results114 (A_L (A_U rfl (B_r (by exact (d_T (hend.2 (fun u u0 u1=>kz u u0 (by omega)))).symm))))

theorem irreducible_ok (f:Fld) (hS:Shape f) (h1M:1<f.M):Ctr Try.prog 86 [aSl 1 false aInt f.mod,aInt f.P] (aBool (decide (IrrB f))):=by
 have hb:=hS.bd
 have hml:=hS.mod_len h1M
 refine B_E Try.call86 func86 rfl rfl ?_
 intro w O
 refine B_D 0 rfl fun hlen0=>esk rfl <|esk rfl <|A_C fun _ K3=>esk rfl <|A_I <|A_Y (fun (d:Int)=>(⟨[(0,aSl 1 false aInt f.mod),(1,aInt f.P),(5,aInt (f.P^(d-1).toNat)),(6,aInt d)],[]⟩:St)) (fun (d:Int)=>(1<=d)/\(2*d<=f.M+2)/\(∀(e:Nat) (v:Int),1<=e->(e:Int)<d->0<=v->v<f.P^e->¬DivB f (digS f.P e v))) (fun (d:Int)=>(f.M-d).toNat+2) 1 ⟨(by omega),(by omega),(fun e v e1 e2=>by omega)⟩ (A_J ⟨rfl,rfl,A_Q (A_k (show 1=f.P^((1:Int)-1).toNat by simp)),A_Q (A_k (show 1=(1:Int) by rfl)),trivial⟩ rfl) ?_
 rintro d ⟨d1,d2,hi⟩
 show Ent _ ⟨_,[]⟩ _
 refine A_C fun _ K5=>esr rfl fun _ K6=>A_A rfl (B_2 rfl rfl) <|emm rfl <|A_A rfl (A_5 rfl runUnderlying29 rfl) <|A_A rfl (ok_leq rfl rfl) <|enk K6 ?_
 refine A_H rfl (fun h12=>?_) (fun h12=>?_)
 ·have hs:f.P^(d-1).toNat*f.P=f.P^d.toNat:=by rw [<- D_2 f.P (d-1) (by omega),show d-1+1=d by omega]
  have hpm:=C_S f.P hb.1 (show d.toNat<=f.M.toNat by omega)
  have hp0:=C_V f.P hb.1 d.toNat
  have hp1:=C_V f.P hb.1 (d-1).toNat
  have hld:=B_Y f.P d.toNat
  refine esp K5 <|A_C fun _ K7=>A_I <|esr rfl fun _ K8=>A_A rfl (B_2 rfl rfl) <|emm rfl <|enk K8 <|esk rfl <|A_I <|A_Y (fun (v:Int)=>(⟨[(0,aSl 1 false aInt f.mod),(1,aInt f.P),(5,aInt ((f.P^(d-1).toNat)*f.P)),(6,aInt d),(7,aInt v)],[]⟩:St)) (fun (v:Int)=>(0<=v)/\(v<=f.P^(d-1).toNat*f.P)/\(∀u:Int,0<=u->u<v->¬DivB f (digS f.P d.toNat u))) (fun (v:Int)=>(f.P^(d-1).toNat*f.P-v).toNat) 0 ⟨(by omega),(by omega),(fun u u0 u1=>by omega)⟩ (A_J ⟨rfl,rfl,rfl,rfl,A_Q (A_k (show 0=(0:Int) by rfl)),trivial⟩ rfl) ?_
  rintro v ⟨v0,v1,vi⟩
  show Ent _ ⟨_,[]⟩ _
  refine A_C fun _ K10=>esr rfl fun _ K11=>A_A rfl (A_m rfl rfl) <|enk K11 ?_
  refine A_H rfl (fun h20=>?_) (fun h20=>?_)
  ·refine esp K10 <|A_C fun _ K12=>A_I <|esr rfl fun _ K13=>A_A rfl (A_X (CtrF.ctr (CtrF.sl (rdigits_ok v f.P d ‹_›))) rfl) <|emm rfl <|A_A rfl (A_X (divides_ok f (digS f.P d.toNat v) ‹_› ‹_› (by rw [B_Y];omega) (by rw [B_Y];omega) (F_5 f.P hb.1 _ _)) rfl) <|enk K13 ?_
   refine A_H rfl (fun h29=>?_) (fun h29=>?_)
   ·refine esk rfl <|A_R ?_
    exact retR1 (.inr rfl) results86 (A_L (A_U rfl (B_r (by exact (d_F (fun h=>h d.toNat v (by omega) (by omega) v0 (by omega) h29)).symm))))
   refine esp K12 <|A_F <|emm rfl <|A_A rfl (A_g rfl rfl) <|emm rfl <|A_O ?_
   refine A_T (s:=(v)) (v+1) ⟨(by omega),‹_›,(fun u u0 u1=>by by_cases hu:u=v;(rw [hu];exact h29);exact vi u u0 (by omega))⟩ (by omega) (A_J ⟨rfl,rfl,rfl,rfl,rfl,trivial⟩ rfl)
  refine A_Z <|A_1 K7 <|A_F <|emm rfl <|A_A rfl (A_g rfl rfl) <|emm rfl <|A_O ?_
  refine A_T (s:=(d)) (d+1) ⟨(by omega),(by omega),(fun e v e1 e2 v0 v1=>by by_cases he:(e:Int)=d;(rw [show e=d.toNat by omega] at v1 ⊢;exact vi v v0 (by omega));exact hi e v e1 (by omega) v0 v1)⟩ (by omega) (A_J ⟨rfl,rfl,A_Q (A_k (show (f.P^(d-1).toNat)*f.P=f.P^((d+1)-1).toNat by rw [show (d+1-1).toNat=d.toNat by omega];exact hs)),rfl,trivial⟩ rfl)
 refine A_Z <|A_1 K3 <|esk rfl <|A_R ?_
 exact retR1 (.inr rfl) results86 (A_L (A_U rfl (B_r (by exact (d_T (show IrrB f from fun e v e1 e2 v0 v1=>hi e v e1 (by omega) v0 v1)).symm))))

theorem rCheck_ok (f:Fld)  : Ctr Try.prog 53 [aFld f] (aInt (fErr f)):=by
 refine B_E Try.call53 func53 rfl rfl ?_
 intro w O
 refine A_l 0 2 rfl rfl fun hlen0_2=>esr rfl fun _ K1=>A_w rfl rfl (AllOne.mem ⟨(A_N _),(A_N _),A_j,trivial⟩) fun b1_1=>emm rfl <|enk K1 <|A_C fun _ K2=>A_C fun _ K3=>?_
 refine B_N (⟨[(1,aEx (.pointer (some ⟨b1_1,0,none⟩))),(12,aBool (decide ((f.q=0)\/((!(isPr f.P))=true))))],[oBox b1_1 51 [aInt f.P,aInt f.M,aSl 1 false aInt f.mod]]⟩) ?_ ?_
 ·refine A_F <|A_A rfl (A_S (k:=0) ti51 rfl rfl rfl) <|A_A rfl (A_X (F_i f) rfl) <|A_A rfl (B_W rfl rfl) <|emm rfl ?_
  refine A_6 rfl rfl rfl rfl (fun hg7=>?_) (fun hg7=>?_)
  ·refine A_A rfl (A_B runUnderlying51 rfl sizeOf3 (by decide) rfl) <|A_M rfl rfl rfl rfl (d_F hg7) <|A_A rfl (A_K (k:=0) isAgg3 rfl rfl rfl) <|A_M rfl rfl rfl rfl (d_F hg7) <|A_A rfl (A_X (prime_ok f.P (by have:=F_m hg7;omega) (by have:=F_m hg7;omega)) rfl) <|A_M rfl rfl rfl rfl (d_F hg7) <|A_A rfl (ok_not rfl) <|A_A rfl (A_3 rfl (d_F hg7) rfl) <|A_O ?_
   exact A_J ⟨rfl,A_a (dq_B ((or_iff_right hg7).trans Iff.rfl)),trivial⟩ rfl
  refine A_E rfl rfl rfl rfl (d_T hg7) <|A_E rfl rfl rfl rfl (d_T hg7) <|A_E rfl rfl rfl rfl (d_T hg7) <|A_A rfl (A_q rfl (d_T hg7) rfl) <|A_O ?_
  exact A_J ⟨rfl,A_a (dq_T rfl (Or.inl hg7)),trivial⟩ rfl
 refine A_1 K3 ?_
 refine A_H rfl (fun h12=>?_) (fun h12=>?_)
 ·refine esk rfl <|A_R ?_
  exact retR1 (.inr rfl) results53 (A_L (A_U rfl (A_b (by exact (fErr_no (fun h=>h12.elim (fun h2=>h.1.1 h2) (fun h2=>by rw [h.1.2.1] at h2;exact absurd h2 (by decide)))).symm))))
 have hq:f.q≠0:=fun h=>h12 (.inl h)
 have hpr:isPr f.P=true:=by by_cases h:isPr f.P=true;exact h;exact absurd (.inr (by rw [nt_to h];rfl)) h12
 have hbd:=F_m hq
 refine esp K2 <|A_C fun _ K5=>esr rfl fun _ K6=>A_A rfl (A_B runUnderlying51 rfl sizeOf3 (by decide) rfl) <|A_A rfl (A_K (k:=0) isAgg3 rfl rfl rfl) <|A_A rfl (B_W rfl rfl) <|enk K6 ?_
 refine A_H rfl (fun h15=>?_) (fun h15=>?_)
 ·refine A_C fun _ K7=>esr rfl fun _ K8=>A_A rfl (A_B runUnderlying51 rfl sizeOf29 (by decide) rfl) <|A_A rfl (A_K (k:=0) isAgg29 rfl rfl rfl) <|A_A rfl (A_5 rfl runUnderlying29 rfl) <|A_A rfl (B_B rfl rfl) <|enk K8 ?_
  refine A_H rfl (fun h19=>?_) (fun h19=>?_)
  ·refine esk rfl <|A_R ?_
   exact retR1 (.inr rfl) results53 (A_L (A_U rfl (A_b (by exact (fErr_no (fun h=>by have:=h.1.2.2;unfold modOk at this;rw [i_P h15] at this;exact h19 this)).symm))))
  refine esp K7 <|esk rfl <|A_R ?_
  exact retR1 (.inr rfl) results53 (A_L (A_U rfl (A_b (by exact (fErr_ok (fok_one ⟨hq,hpr,by unfold modOk;rw [i_P h15];exact n_N h19⟩ h15)).symm))))
 refine esp K5 <|A_C fun _ K11=>esr rfl fun _ K12=>A_A rfl (A_B runUnderlying51 rfl sizeOf29 (by decide) rfl) <|A_A rfl (A_K (k:=0) isAgg29 rfl rfl rfl) <|A_A rfl (A_5 rfl runUnderlying29 rfl) <|A_A rfl (A_B runUnderlying51 rfl sizeOf3 (by decide) rfl) <|A_A rfl (A_K (k:=0) isAgg3 rfl rfl rfl) <|A_A rfl (B_B rfl rfl) <|enk K12 ?_
 refine A_H rfl (fun h25=>?_) (fun h25=>?_)
 ·refine esk rfl <|A_R ?_
  exact retR1 (.inr rfl) results53 (A_L (A_U rfl (A_b (by exact (fErr_no (fun h=>by have:=h.1.2.2;unfold modOk at this;rw [i_N h15] at this;exact h25 this.1)).symm))))
 refine esp K11 <|A_C fun _ K14=>esk rfl <|A_I <|A_Y (fun (i:Int)=>(⟨[(1,aEx (.pointer (some ⟨b1_1,0,none⟩))),(3,aInt i)],[oBox b1_1 51 [aInt f.P,aInt f.M,aSl 1 false aInt f.mod]]⟩:St)) (fun (i:Int)=>(0<=i)/\(i<=f.M)/\(∀c∈f.mod.take i.toNat,0<=c/\c<f.P)) (fun (i:Int)=>(f.M-i).toNat) 0 ⟨(by omega),(by omega),(by simp)⟩ (A_J ⟨rfl,A_Q (A_k (show 0=(0:Int) by rfl)),trivial⟩ rfl) ?_
 rintro i ⟨h0,h1,hm⟩
 show Ent _ ⟨_,[_]⟩ _
 refine A_C fun _ K16=>esr rfl fun _ K17=>A_A rfl (A_B runUnderlying51 rfl sizeOf3 (by decide) rfl) <|A_A rfl (A_K (k:=0) isAgg3 rfl rfl rfl) <|A_A rfl (A_m rfl rfl) <|enk K17 ?_
 refine A_H rfl (fun h29=>?_) (fun h29=>?_)
 ·refine esp K16 <|A_C fun _ K18=>A_I <|A_C fun _ K19=>?_
  refine B_N (⟨[(1,aEx (.pointer (some ⟨b1_1,0,none⟩))),(3,aInt i),(47,aBool (decide (((ix 0 f.mod i)<0)\/(f.P<=(ix 0 f.mod i)))))],[oBox b1_1 51 [aInt f.P,aInt f.M,aSl 1 false aInt f.mod]]⟩) ?_ ?_
  ·refine A_u 16 mixed (by kernel_rfl) (by kernel_rfl) (by kernel_rfl) <|dw_o rfl (A_B runUnderlying51 rfl sizeOf29 (by decide) rfl) <|dw_o rfl (A_K (k:=0) isAgg29 rfl rfl rfl) <|dw_o rfl (A_D rfl) <|dw_o rfl (A_W 0 sl29 rfl rfl) <|dw_o rfl (A_P ti3 rfl) <|dw_o rfl (A_m rfl rfl) <|dw_o rfl (A_D rfl) ?_
   refine G_Q rfl rfl rfl rfl (fun hg38=>?_) (fun hg38=>?_)
   ·refine dw_o rfl (A_B runUnderlying51 rfl sizeOf29 (by decide) rfl) <|A_r rfl rfl rfl rfl (d_F hg38) <|dw_o rfl (A_K (k:=0) isAgg29 rfl rfl rfl) <|A_r rfl rfl rfl rfl (d_F hg38) <|dw_o rfl (A_D rfl) <|A_r rfl rfl rfl rfl (d_F hg38) <|dw_o rfl (A_W 0 sl29 rfl rfl) <|A_r rfl rfl rfl rfl (d_F hg38) <|dw_o rfl (A_P ti3 rfl) <|A_r rfl rfl rfl rfl (d_F hg38) <|dw_o rfl (A_B runUnderlying51 rfl sizeOf3 (by decide) rfl) <|A_r rfl rfl rfl rfl (d_F hg38) <|dw_o rfl (A_K (k:=0) isAgg3 rfl rfl rfl) <|A_r rfl rfl rfl rfl (d_F hg38) <|dw_o rfl (E_E rfl rfl) <|dw_o rfl (A_3 rfl (d_F hg38) rfl) <|A_9 <|A_O ?_
    exact A_J ⟨rfl,rfl,A_a (dq_Q ((or_iff_right hg38).trans Iff.rfl)),trivial⟩ rfl
   refine A_o rfl rfl rfl rfl (d_T hg38) <|A_o rfl rfl rfl rfl (d_T hg38) <|A_o rfl rfl rfl rfl (d_T hg38) <|A_o rfl rfl rfl rfl (d_T hg38) <|A_o rfl rfl rfl rfl (d_T hg38) <|A_o rfl rfl rfl rfl (d_T hg38) <|A_o rfl rfl rfl rfl (d_T hg38) <|dw_o rfl (A_q rfl (d_T hg38) rfl) <|A_9 <|A_O ?_
   exact A_J ⟨rfl,rfl,A_a (dq_T rfl (Or.inl hg38)),trivial⟩ rfl
  refine A_1 K19 ?_
  refine A_H rfl (fun h47=>?_) (fun h47=>?_)
  ·refine esk rfl <|A_R ?_
   exact retR1 (.inr rfl) results53 (A_L (A_U rfl (A_b (by exact (fErr_no (fun h=>by have:=h.1.2.2;unfold modOk at this;rw [i_N h15] at this;have:=this.2 _ (B_i 0 f.mod h0 (by omega));omega)).symm))))
  refine esp K18 <|A_F <|emm rfl <|A_A rfl (A_g rfl rfl) <|emm rfl <|A_O ?_
  refine A_T (s:=(i)) (i+1) ⟨(by omega),‹_›,(fun c hc=>by rw [B_A 0 f.mod h0 (by omega)] at hc;rcases List.mem_append.1 hc with hc | hc;exact hm c hc;rw [List.mem_singleton] at hc;omega)⟩ (by omega) (A_J ⟨rfl,rfl,trivial⟩ rfl)
 have hS:Shape f:=⟨hq,hpr,by unfold modOk;rw [i_N h15];rw [t_L (by omega)] at hm;exact ⟨by omega,hm⟩⟩
 refine A_Z <|A_1 K14 <|A_C fun _ K21=>esr rfl fun _ K22=>A_A rfl (A_B runUnderlying51 rfl sizeOf29 (by decide) rfl) <|A_A rfl (A_K (k:=0) isAgg29 rfl rfl rfl) <|A_A rfl (A_B runUnderlying51 rfl sizeOf3 (by decide) rfl) <|A_A rfl (A_K (k:=0) isAgg3 rfl rfl rfl) <|A_A rfl (A_X (irreducible_ok f ‹_› (by omega)) rfl) <|A_A rfl (E_O rfl) <|enk K22 ?_
 refine A_H rfl (fun h53=>?_) (fun h53=>?_)
 ·refine esk rfl <|A_R ?_
  exact retR1 (.inr rfl) results53 (A_L (A_U rfl (A_b (by exact (fErr_no (fun h=>h53 ((E_u hS).1 h))).symm))))
 refine esp K21 <|esk rfl <|A_R ?_
 exact retR1 (.inr rfl) results53 (A_L (A_U rfl (A_b (by exact (fErr_ok ((E_u hS).2 (n_N h53))).symm))))

theorem rIs_ok (f:Fld) (x:Int)  : Ctr Try.prog 70 [aFld f,aInt x] (aBool (decide (0<=x/\x<f.q))):=by
 refine B_E Try.call70 func70 rfl rfl ?_
 intro w O
 refine A_l 0 2 rfl rfl fun hlen0_2=>esr rfl fun _ K1=>A_w rfl rfl (AllOne.mem ⟨(A_N _),(A_N _),A_j,trivial⟩) fun b2_1=>emm rfl <|enk K1 <|A_C fun _ K2=>?_
 refine B_N (⟨[(4,aBool (decide ((0<=x)/\(x<f.q))))],[oBox b2_1 51 [aInt f.P,aInt f.M,aSl 1 false aInt f.mod]]⟩) ?_ ?_
 ·refine A_F <|emm rfl <|A_A rfl (E_E rfl rfl) <|emm rfl ?_
  refine B_I rfl rfl rfl rfl (fun hg7=>?_) (fun hg7=>?_)
  ·refine emm rfl <|A_M rfl rfl rfl rfl (d_T hg7) <|A_A rfl (A_S (k:=0) ti51 rfl rfl rfl) <|A_M rfl rfl rfl rfl (d_T hg7) <|A_A rfl (A_X (F_i f) rfl) <|A_M rfl rfl rfl rfl (d_T hg7) <|A_A rfl (A_m rfl rfl) <|A_A rfl (A_q rfl (d_T hg7) rfl) <|emm rfl <|A_O ?_
   exact A_J ⟨A_a (dq_Q ((and_iff_right hg7).trans Iff.rfl)),trivial⟩ rfl
  refine A_E rfl rfl rfl rfl (d_F hg7) <|A_E rfl rfl rfl rfl (d_F hg7) <|A_E rfl rfl rfl rfl (d_F hg7) <|A_A rfl (A_3 rfl (d_F hg7) rfl) <|emm rfl <|A_O ?_
  exact A_J ⟨A_a (dq_F rfl (fun h=>hg7 h.1)),trivial⟩ rfl
 refine A_1 K2 <|A_R ?_
 exact retR1 (.inr rfl) results70 (A_L (A_U rfl (B_r rfl)))

theorem rIn_ok (f:Fld) (x:Int)  : Ctr Try.prog 38 [aFld f,aInt x] (aInt (inF f x)):=by
 refine B_E Try.call38 func38 rfl rfl ?_
 intro w O
 refine A_l 0 2 rfl rfl fun hlen0_2=>esr rfl fun _ K1=>A_w rfl rfl (AllOne.mem ⟨(A_N _),(A_N _),A_j,trivial⟩) fun b2_1=>emm rfl <|enk K1 <|A_C fun _ K2=>esr rfl fun _ K3=>A_A rfl (A_S (k:=0) ti51 rfl rfl rfl) <|emm rfl <|A_A rfl (A_X (rIs_ok f x) rfl) <|enk K3 ?_
 refine A_H rfl (fun h7=>?_) (fun h7=>?_)
 ·refine esk rfl <|A_R ?_
  exact retR1 (.inr rfl) results38 (A_L (A_U rfl (A_b (by unfold inF;rw [i_P h7]))))
 refine esp K2 <|esk rfl <|A_R ?_
 exact retR1 (.inr rfl) results38 (A_L (A_U rfl (A_b (by unfold inF;rw [i_N h7]))))

theorem E_D (f:Fld) (x:Int) (hS:Shape f):CtrF Try.prog 99 [aFld f,aInt x] (aVec 3 1 false aInt (digS f.P f.M.toNat (inF f x))):=by
 have hb:=hS.bd
 have hi:=D_r hS x
 refine C_x Try.call99 func99 rfl rfl ?_
 intro w O
 refine A_l 0 2 rfl rfl fun hlen0_2=>esr rfl fun _ K1=>A_w rfl rfl (AllOne.mem ⟨(A_N _),(A_N _),A_j,trivial⟩) fun b2_1=>emm rfl <|enk K1 <|A_C fun _ K2=>A_u 7 mixed (by kernel_rfl) (by kernel_rfl) (by kernel_rfl) <|dw_o rfl (A_S (k:=0) ti51 rfl rfl rfl) <|dw_o rfl (A_D rfl) <|dw_o rfl (A_X (rIn_ok f x) rfl) <|dw_o rfl (A_B runUnderlying51 rfl sizeOf3 (by decide) rfl) <|dw_o rfl (A_K (k:=0) isAgg3 rfl rfl rfl) <|dw_o rfl (A_B runUnderlying51 rfl sizeOf3 (by decide) rfl) <|dw_o rfl (A_K (k:=0) isAgg3 rfl rfl rfl) <|A_9 <|E_K [] rfl (rdigits_ok (inF f x) f.P f.M (by omega)) (ArgsA.ok ⟨A_z rfl (A_y (A_p _)),A_z rfl (A_y (A_p _)),A_z rfl (A_y (A_p _)),trivial⟩) fun r12 c12=>emm rfl <|enk K2 <|A_R ?_
 exact retR1 (.inr rfl) results99 (A_L (A_U rfl (C_7 (k:=0) B_j rfl rfl rfl rfl)))

theorem rValue_ok (f:Fld) (d:List Int) (hp:2<=f.P) (hd:∀c∈d,0<=c/\c<f.P) (hq:f.P^d.length<=256):Ctr Try.prog 100 [aFld f,aSl 1 false aInt d] (aInt (valS f.P d)):=by
 refine B_E Try.call100 func100 rfl rfl ?_
 intro w O
 refine A_l 0 2 rfl rfl fun hlen0_2=>B_D 1 rfl fun hlen1=>esr rfl fun _ K1=>A_w rfl rfl (AllOne.mem ⟨(A_N _),(A_N _),A_j,trivial⟩) fun b2_1=>emm rfl <|enk K1 <|esk rfl <|A_C fun _ K3=>esr rfl fun _ K4=>A_A rfl (A_5 rfl runUnderlying29 rfl) <|A_A rfl (B_L rfl rfl) <|emm rfl <|enk K4 <|A_I <|A_Y (fun (i:Int)=>(⟨[(1,aSl 1 false aInt d),(2,aEx (.pointer (some ⟨b2_1,0,none⟩))),(5,aInt (valS f.P (d.drop (i+1).toNat))),(6,aInt i)],[oBox b2_1 51 [aInt f.P,aInt f.M,aSl 1 false aInt f.mod]]⟩:St)) (fun (i:Int)=>(-1<=i)/\(i<d.length)) (fun (i:Int)=>(i+1).toNat) ((↑d.length:Int)-1) ⟨(by omega),(by omega)⟩ (A_J ⟨rfl,rfl,A_Q (A_k (show 0=valS f.P (d.drop (((↑d.length:Int)-1)+1).toNat) by rw [List.drop_of_length_le (by omega)];rfl)),rfl,trivial⟩ rfl) ?_
 rintro i ⟨h0,h1⟩
 show Ent _ ⟨_,[_]⟩ _
 have hb:=G_U hp hd hq (i+1).toNat
 refine A_C fun _ K5=>esr rfl fun _ K6=>A_A rfl (E_E rfl rfl) <|enk K6 ?_
 refine A_H rfl (fun h11=>?_) (fun h11=>?_)
 ·have hpb:=base_bd hp hq (by omega)
  have hmb:=B_5 hb.1 hb.2 (show 0<=f.P by omega) hpb
  have hix:=hd _ (B_i 0 d (i:=i) (by omega) h1)
  refine esp K5 <|A_C fun _ K7=>A_I <|A_u 10 mixed (by kernel_rfl) (by kernel_rfl) (by kernel_rfl) <|dw_o rfl (A_D rfl) <|dw_o rfl (A_B runUnderlying51 rfl sizeOf3 (by decide) rfl) <|dw_o rfl (A_K (k:=0) isAgg3 rfl rfl rfl) <|dw_o rfl (B_2 rfl rfl) <|dw_o rfl (A_D rfl) <|dw_o rfl (A_D rfl) <|dw_o rfl (A_W 0 sl29 rfl rfl) <|dw_o rfl (A_P ti3 rfl) <|dw_o rfl (A_g rfl rfl) <|dw_o rfl (B_H rfl) <|A_9 <|enk K7 <|A_F <|emm rfl <|A_A rfl (B_L rfl rfl) <|emm rfl <|A_O ?_
  refine A_T (s:=(i)) (i-1) ⟨(by omega),(by omega)⟩ (by omega) (A_J ⟨rfl,rfl,A_Q (A_k (show ((valS f.P (d.drop (i+1).toNat))*f.P)+(ix 0 d i)=valS f.P (d.drop ((i-1)+1).toNat) by rw [show i-1+1=i by omega];exact (valS_drop f.P d (by omega) h1).symm)),rfl,trivial⟩ rfl)
 refine A_Z <|A_1 K3 <|esk rfl <|A_R ?_
 exact retR1 (.inr rfl) results100 (A_L (A_U rfl (A_b (by rw [show i = -1 by omega];rfl))))

theorem rMul_ok (f:Fld) (x y:Int) (hS:Shape f):Ctr Try.prog 72 [aFld f,aInt x,aInt y] (aInt (mulF f x y)):=by
 have hb:=hS.bd
 have hP:=hS.pI
 have hM:=hS.mI
 have hMN:=hS.mN
 have hix:=D_r hS x
 have hiy:=D_r hS y
 have lx:=B_Y f.P f.M.toNat (inF f x)
 have ly:=B_Y f.P f.M.toNat (inF f y)
 refine B_E Try.call72 func72 rfl rfl ?_
 intro w O
 refine A_l 0 2 rfl rfl fun hlen0_2=>esr rfl fun _ K1=>A_w rfl rfl (AllOne.mem ⟨(A_N _),(A_N _),A_j,trivial⟩) fun b3_1=>emm rfl <|enk K1 <|esr rfl fun _ K2=>A_A rfl (A_S (k:=0) ti51 rfl rfl rfl) <|emm rfl <|A_A rfl (A_X (CtrF.ctr (CtrF.sl (E_D f x ‹_›))) rfl) <|emm rfl <|enk K2 <|esr rfl fun _ K3=>A_A rfl (A_S (k:=0) ti51 rfl rfl rfl) <|emm rfl <|A_A rfl (A_X (CtrF.ctr (CtrF.sl (E_D f y ‹_›))) rfl) <|emm rfl <|enk K3 <|esr rfl fun _ K4=>A_A rfl (A_B runUnderlying51 rfl sizeOf3 (by decide) rfl) <|A_A rfl (A_K (k:=0) isAgg3 rfl rfl rfl) <|A_A rfl (B_2 rfl rfl) <|A_A rfl (B_L rfl rfl) <|B_1 aInt 0 rfl vt29 rfl rfl (by omega) (by omega) (by omega) (fun _ _=>rfl) (AllV.mem ⟨rfl,trivial⟩) fun b24_2=>emm rfl <|enk K4 <|A_C fun _ K5=>esk rfl <|A_I <|A_Y (fun (ss:Int×List Int)=>match ss with | (i,cs)=>(⟨[(3,aEx (.pointer (some ⟨b3_1,0,none⟩))),(7,aSl 1 false aInt (digS f.P f.M.toNat (inF f x))),(8,aSl 1 false aInt (digS f.P f.M.toNat (inF f y))),(9,aEx (vec (some b24_2) (((2*f.M)-1).toNat) (((2*f.M)-1).toNat))),(10,aInt i)],[oVec (some b24_2) (((2*f.M)-1).toNat) 3 1 false aInt cs,oBox b3_1 51 [aInt f.P,aInt f.M,aSl 1 false aInt f.mod]]⟩:St)) (fun (ss:Int×List Int)=>match ss with | (i,cs)=>(0<=i)/\(i<=f.M)/\((cs.length:Int)=2*f.M-1)/\(∀z∈cs,0<=z/\z<(f.p:Int))/\(f.R.act (2*f.R.m-1) (dv cs) f.R.e0=f.R.vadd (f.R.act i.toNat (f.R.elt (inF f x)) (f.R.act f.R.m (f.R.elt (inF f y)) f.R.e0)) (f.R.smul (f.R.elt (inF f x) i.toNat) (f.R.pw i.toNat (f.R.act (0:Int).toNat (f.R.elt (inF f y)) f.R.e0))))) (fun (ss:Int×List Int)=>match ss with | (i,cs)=>(f.M-i).toNat) (0,List.replicate (((2*f.M)-1).toNat) 0) ⟨(by omega),(by omega),(by simp;omega),(fun z hz=>by have:=(List.mem_replicate.1 hz).2;omega),(conv_start _ _ _)⟩ (A_J ⟨rfl,rfl,rfl,rfl,A_Q (A_k (show 0=(0:Int) by rfl)),trivial⟩ rfl) ?_
 rintro ⟨i,cs⟩ ⟨h0,h1,lcs,rcs,hX⟩
 show Ent _ ⟨_,[_,_]⟩ _
 refine A_C fun _ K7=>esr rfl fun _ K8=>A_A rfl (A_B runUnderlying51 rfl sizeOf3 (by decide) rfl) <|A_A rfl (A_K (k:=1) isAgg3 rfl rfl rfl) <|A_A rfl (A_m rfl rfl) <|enk K8 ?_
 refine A_H rfl (fun h28=>?_) (fun h28=>?_)
 ·refine esp K7 <|A_C fun _ K9=>A_I <|esk rfl <|A_I <|A_Y (fun (ss:Int×List Int)=>match ss with | (j,ds)=>(⟨[(3,aEx (.pointer (some ⟨b3_1,0,none⟩))),(7,aSl 1 false aInt (digS f.P f.M.toNat (inF f x))),(8,aSl 1 false aInt (digS f.P f.M.toNat (inF f y))),(9,aEx (vec (some b24_2) (((2*f.M)-1).toNat) (((2*f.M)-1).toNat))),(10,aInt i),(11,aInt j)],[oVec (some b24_2) (((2*f.M)-1).toNat) 3 1 false aInt ds,oBox b3_1 51 [aInt f.P,aInt f.M,aSl 1 false aInt f.mod]]⟩:St)) (fun (ss:Int×List Int)=>match ss with | (j,ds)=>(0<=j)/\(j<=f.M)/\((ds.length:Int)=2*f.M-1)/\(∀z∈ds,0<=z/\z<(f.p:Int))/\(f.R.act (2*f.R.m-1) (dv ds) f.R.e0=f.R.vadd (f.R.act i.toNat (f.R.elt (inF f x)) (f.R.act f.R.m (f.R.elt (inF f y)) f.R.e0)) (f.R.smul (f.R.elt (inF f x) i.toNat) (f.R.pw i.toNat (f.R.act j.toNat (f.R.elt (inF f y)) f.R.e0))))) (fun (ss:Int×List Int)=>match ss with | (j,ds)=>(f.M-j).toNat) (0,cs) ⟨(by omega),(by omega),‹_›,rcs,hX⟩ (A_J ⟨rfl,rfl,rfl,rfl,rfl,A_Q (A_k (show 0=(0:Int) by rfl)),trivial⟩ rfl) ?_
  rintro ⟨j,ds⟩ ⟨j0,j1,lds,rds,tX⟩
  show Ent _ ⟨_,[_,_]⟩ _
  refine A_C fun _ K11=>esr rfl fun _ K12=>A_A rfl (A_B runUnderlying51 rfl sizeOf3 (by decide) rfl) <|A_A rfl (A_K (k:=1) isAgg3 rfl rfl rfl) <|A_A rfl (A_m rfl rfl) <|enk K12 ?_
  refine A_H rfl (fun h34=>?_) (fun h34=>?_)
  ·have hdx:=hS.dig_ix (inF f x) h0 (show i<f.M by omega)
   have hdy:=hS.dig_ix (inF f y) j0 (show j<f.M by omega)
   have hmm:=B_5 hdx.1 (by omega) hdy.1 (show ix 0 (digS f.P f.M.toNat (inF f y)) j<=256 by omega)
   have hrj:=rds _ (B_i 0 ds (i:=i+j))
   have hst:=conv_list hS lds rds h0 (show i<f.M by omega) j0 (show j<f.M by omega) tX
   refine esp K11 <|A_C fun _ K13=>A_I <|A_u 24 mixed (by kernel_rfl) (E_b (by kernel_rfl)) (by kernel_rfl) <|dw_o rfl (A_D rfl) <|dw_o rfl (A_D rfl) <|dw_o rfl (A_D rfl) <|dw_o rfl (A_g rfl rfl) <|dw_o rfl (A_D rfl) <|dw_o rfl (A_D rfl) <|dw_o rfl (A_D rfl) <|dw_o rfl (A_g rfl rfl) <|dw_o rfl (A_s sl29 rfl rfl) <|dw_o rfl (B_f (k:=0) 0 ti3 rfl rfl) <|dw_o rfl (A_D rfl) <|dw_o rfl (A_D rfl) <|dw_o rfl (A_W 0 sl29 rfl rfl) <|dw_o rfl (A_P ti3 rfl) <|dw_o rfl (A_D rfl) <|dw_o rfl (A_D rfl) <|dw_o rfl (A_W 0 sl29 rfl rfl) <|dw_o rfl (A_P ti3 rfl) <|dw_o rfl (B_2 rfl rfl) <|dw_o rfl (A_g rfl rfl) <|dw_o rfl (A_B runUnderlying51 rfl sizeOf3 (by decide) rfl) <|dw_o rfl (A_K (k:=1) isAgg3 rfl rfl rfl) <|dw_o rfl (C_0 rfl rfl) <|dw_o rfl (A_s sl29 rfl rfl) <|A_9 <|B_C (k:=0) (z:=((ix 0 ds (i+j))+((ix 0 (digS f.P f.M.toNat (inF f x)) i)*(ix 0 (digS f.P f.M.toNat (inF f y)) j)))%f.P) ti3 rfl rfl rfl (A_n (A_N _)) (by omega) (by omega) ?_
   refine enk K13 <|A_F <|emm rfl <|A_A rfl (A_g rfl rfl) <|emm rfl <|A_O ?_
   refine A_T (s:=(j,ds)) (j+1,List.set ds (i+j).toNat (((ix 0 ds (i+j))+((ix 0 (digS f.P f.M.toNat (inF f x)) i)*(ix 0 (digS f.P f.M.toNat (inF f y)) j)))%f.P)) ⟨(by omega),‹_›,(by rw [l_S];exact lds),hst.1,hst.2⟩ (by dsimp only;omega) (A_J ⟨rfl,rfl,rfl,rfl,rfl,rfl,trivial⟩ rfl)
  refine A_Z <|A_1 K9 <|A_F <|emm rfl <|A_A rfl (A_g rfl rfl) <|emm rfl <|A_O ?_
  refine A_T (s:=(i,cs)) (i+1,ds) ⟨(by omega),‹_›,‹_›,‹_›,(conv_next h0 (by rw [show j.toNat=f.R.m by omega] at tX;exact tX))⟩ (by dsimp only;omega) (A_J ⟨rfl,rfl,rfl,rfl,rfl,trivial⟩ rfl)
 refine A_Z <|A_1 K5 <|A_C fun _ K14=>esr rfl fun _ K15=>A_A rfl (A_B runUnderlying51 rfl sizeOf3 (by decide) rfl) <|A_A rfl (A_K (k:=1) isAgg3 rfl rfl rfl) <|A_A rfl (B_2 rfl rfl) <|A_A rfl (B_L rfl rfl) <|emm rfl <|enk K15 <|A_I <|A_Y (fun (ss:Int×List Int)=>match ss with | (k,es)=>(⟨[(3,aEx (.pointer (some ⟨b3_1,0,none⟩))),(9,aEx (vec (some b24_2) (((2*f.M)-1).toNat) (((2*f.M)-1).toNat))),(12,aInt k)],[oVec (some b24_2) (((2*f.M)-1).toNat) 3 1 false aInt es,oBox b3_1 51 [aInt f.P,aInt f.M,aSl 1 false aInt f.mod]]⟩:St)) (fun (ss:Int×List Int)=>match ss with | (k,es)=>(f.M-1<=k)/\(k<=2*f.M-2)/\((es.length:Int)=2*f.M-1)/\(∀z∈es,0<=z/\z<(f.p:Int))/\(f.R.act (k+1).toNat (dv es) f.R.e0=f.R.mul (f.R.elt (inF f x)) (f.R.elt (inF f y)))) (fun (ss:Int×List Int)=>match ss with | (k,es)=>(k+1).toNat) (2*f.M-2,cs) ⟨(by omega),(by omega),‹_›,rcs,(by rw [show (2*f.M-2+1).toNat=2*f.R.m-1 by omega];exact conv_end (by omega) hX)⟩ (A_J ⟨rfl,rfl,A_Q (A_k (show (2*f.M)-2=(2*f.M-2) by rfl)),trivial⟩ rfl) ?_
 rintro ⟨k,es⟩ ⟨k0,k1,les,res,eX⟩
 show Ent _ ⟨_,[_,_]⟩ _
 refine A_C fun _ K16=>esr rfl fun _ K17=>A_A rfl (A_B runUnderlying51 rfl sizeOf3 (by decide) rfl) <|A_A rfl (A_K (k:=1) isAgg3 rfl rfl rfl) <|A_A rfl (E_E rfl rfl) <|enk K17 ?_
 refine A_H rfl (fun h68=>?_) (fun h68=>?_)
 ·refine esp K16 <|A_C fun _ K18=>A_I <|esk rfl <|A_I <|A_Y (fun (ss:Int×List Int)=>match ss with | (l,gs)=>(⟨[(3,aEx (.pointer (some ⟨b3_1,0,none⟩))),(9,aEx (vec (some b24_2) (((2*f.M)-1).toNat) (((2*f.M)-1).toNat))),(12,aInt k),(13,aInt l)],[oVec (some b24_2) (((2*f.M)-1).toNat) 3 1 false aInt gs,oBox b3_1 51 [aInt f.P,aInt f.M,aSl 1 false aInt f.mod]]⟩:St)) (fun (ss:Int×List Int)=>match ss with | (l,gs)=>(0<=l)/\(l<=f.M)/\((gs.length:Int)=2*f.M-1)/\(∀z∈gs,0<=z/\z<(f.p:Int))/\(f.R.vadd (f.R.act k.toNat (dv gs) f.R.e0) (f.R.smul (dv gs k.toNat) (f.R.vadd (f.R.pw k.toNat f.R.e0) (f.R.pw (k.toNat-f.R.m) (f.R.act l.toNat f.R.md f.R.e0))))=f.R.mul (f.R.elt (inF f x)) (f.R.elt (inF f y)))) (fun (ss:Int×List Int)=>match ss with | (l,gs)=>(f.M-l).toNat) (0,es) ⟨(by omega),(by omega),‹_›,res,(Rg.red_start f.R (dv es) k.toNat _ (by rw [show k.toNat+1=(k+1).toNat by omega];exact eX))⟩ (A_J ⟨rfl,rfl,rfl,A_Q (A_k (show 0=(0:Int) by rfl)),trivial⟩ rfl) ?_
  rintro ⟨l,gs⟩ ⟨l0,l1,lgs,rgs,gX⟩
  show Ent _ ⟨_,[_,_]⟩ _
  refine A_C fun _ K20=>esr rfl fun _ K21=>A_A rfl (A_B runUnderlying51 rfl sizeOf3 (by decide) rfl) <|A_A rfl (A_K (k:=1) isAgg3 rfl rfl rfl) <|A_A rfl (A_m rfl rfl) <|enk K21 ?_
  refine A_H rfl (fun h74=>?_) (fun h74=>?_)
  ·have h1M:1<f.M:=by omega
   have hml:=hS.mod_len h1M
   have hlo:=hml.2 _ (B_i 0 f.mod (i:=l) l0 (by omega))
   have hlw:=hS.low (j:=l) l0 (by omega)
   have hle:lowF f l=ix 0 f.mod l:=i_P h1M
   rw [hle] at hlw
   have hck:=rgs _ (B_i 0 gs (i:=k))
   have hcj:=rgs _ (B_i 0 gs (i:=k-f.M+l))
   have hmm:=B_5 (show 0<=f.P-ix 0 gs k by omega) (by omega) hlo.1 (by omega)
   have hst:=red_list (d:=f.M) (i:=k) (c:=ix 0 gs k) (l:=ix 0 f.mod l) (j:=l) f.R hM hlw.2.symm rgs (by omega) (by omega) l0 (by omega) rfl hck.1 (by omega) hlo.1 _ gX
   rw [hP] at hst
   refine esp K20 <|A_C fun _ K22=>A_I <|A_u 34 mixed (by kernel_rfl) (E_b (by kernel_rfl)) (by kernel_rfl) <|dw_o rfl (A_D rfl) <|dw_o rfl (A_D rfl) <|dw_o rfl (A_B runUnderlying51 rfl sizeOf3 (by decide) rfl) <|dw_o rfl (A_K (k:=1) isAgg3 rfl rfl rfl) <|dw_o rfl (B_L rfl rfl) <|dw_o rfl (A_D rfl) <|dw_o rfl (A_g rfl rfl) <|dw_o rfl (A_D rfl) <|dw_o rfl (A_D rfl) <|dw_o rfl (A_B runUnderlying51 rfl sizeOf3 (by decide) rfl) <|dw_o rfl (A_K (k:=1) isAgg3 rfl rfl rfl) <|dw_o rfl (B_L rfl rfl) <|dw_o rfl (A_D rfl) <|dw_o rfl (A_g rfl rfl) <|dw_o rfl (A_s sl29 rfl rfl) <|dw_o rfl (B_f (k:=0) 0 ti3 rfl rfl) <|dw_o rfl (A_B runUnderlying51 rfl sizeOf3 (by decide) rfl) <|dw_o rfl (A_K (k:=1) isAgg3 rfl rfl rfl) <|dw_o rfl (A_D rfl) <|dw_o rfl (A_D rfl) <|dw_o rfl (A_s sl29 rfl rfl) <|dw_o rfl (B_f (k:=0) 0 ti3 rfl rfl) <|dw_o rfl (B_L rfl rfl) <|dw_o rfl (A_B runUnderlying51 rfl sizeOf29 (by decide) rfl) <|dw_o rfl (A_K (k:=1) isAgg29 rfl rfl rfl) <|dw_o rfl (A_D rfl) ?_
   refine dw_o rfl (A_W 0 sl29 rfl rfl) <|dw_o rfl (A_P ti3 rfl) <|dw_o rfl (B_2 rfl rfl) <|dw_o rfl (A_g rfl rfl) <|dw_o rfl (A_B runUnderlying51 rfl sizeOf3 (by decide) rfl) <|dw_o rfl (A_K (k:=1) isAgg3 rfl rfl rfl) <|dw_o rfl (C_0 rfl rfl) <|dw_o rfl (A_s sl29 rfl rfl) <|A_9 <|B_C (k:=0) (z:=((ix 0 gs ((k-f.M)+l))+((f.P-(ix 0 gs k))*(ix 0 f.mod l)))%f.P) ti3 rfl rfl rfl (A_n (A_N _)) (by omega) (by omega) <|enk K22 <|A_F <|emm rfl <|A_A rfl (A_g rfl rfl) <|emm rfl <|A_O ?_
   refine A_T (s:=(l,gs)) (l+1,List.set gs ((k-f.M)+l).toNat (((ix 0 gs ((k-f.M)+l))+((f.P-(ix 0 gs k))*(ix 0 f.mod l)))%f.P)) ⟨(by omega),‹_›,(by rw [l_S];exact lgs),(by rw [hP];exact hst.1),hst.2.2⟩ (by dsimp only;omega) (A_J ⟨rfl,rfl,rfl,rfl,trivial⟩ rfl)
  refine A_Z <|A_1 K18 <|A_F <|emm rfl <|A_A rfl (B_L rfl rfl) <|emm rfl <|A_O ?_
  refine A_T (s:=(k,es)) (k-1,gs) ⟨(by omega),(by omega),lgs,rgs,(by rw [show (k-1+1).toNat=k.toNat by omega];refine Rg.red_end f.R (dv gs) k.toNat _ (by omega) ?_;rw [show l.toNat=f.R.m by omega] at gX;exact gX)⟩ (by dsimp only;omega) (A_J ⟨rfl,rfl,rfl,trivial⟩ rfl)
 have hke:k=f.M-1:=by omega
 have htv:valS f.P (List.take f.M.toNat es)=f.R.num (f.R.mul (f.R.elt (inF f x)) (f.R.elt (inF f y))):=take_val hS (by omega) res _ (by rw [show (k+1).toNat=f.R.m by omega] at eX;exact eX)
 rw [mulc_num] at htv
 have hmem:∀c∈List.take f.M.toNat es,0<=c/\c<f.P:=fun c hc=>by have:=res c (List.mem_of_mem_take hc);omega
 have hpq:f.P^(List.take f.M.toNat es).length<=256:=by rw [List.length_take,show min f.M.toNat es.length=f.M.toNat by omega];omega
 refine A_Z <|A_1 K14 <|A_C fun _ K23=>B_t 0 9 rfl (B_g (k:=0) (B_h rfl) (by omega) rfl) <|A_u 7 mixed (by kernel_rfl) (by kernel_rfl) (by kernel_rfl) <|dw_o rfl (A_S (k:=0) ti51 rfl rfl rfl) <|dw_o rfl (A_D rfl) <|dw_o rfl (A_B runUnderlying51 rfl sizeOf3 (by decide) rfl) <|dw_o rfl (A_K (k:=0) isAgg3 rfl rfl rfl) <|dw_o rfl (C_z sl29 rfl rfl) <|dw_o rfl (A_X (rValue_ok f (List.take (f.M).toNat es) (by omega) ‹_› ‹_›) rfl) <|dw_o rfl (B_H rfl) <|A_9 <|enk K23 <|A_R ?_
 exact retR1 (.inr rfl) results72 (A_L (A_U rfl (A_b (by exact htv))))

theorem rPow_ok (f:Fld) (x n:Int) (hS:Shape f) (hn0 : -9223372036854775808<=n) (hn1:n<=9223372036854775807):Ctr Try.prog 87 [aFld f,aInt x,aInt n] (aTup [aInt (powF f x n),aInt (powE f x n)]):=by
 have hb:=hS.bd
 have hC:=hS.card
 have hix:=D_r hS x
 have hpn:=powN_lt hS n
 refine B_E Try.call87 func87 rfl rfl ?_
 intro w O
 refine A_l 0 2 rfl rfl fun hlen0_2=>esr rfl fun _ K1=>A_w rfl rfl (AllOne.mem ⟨(A_N _),(A_N _),A_j,trivial⟩) fun b3_1=>emm rfl <|enk K1 <|esr rfl fun _ K2=>A_A rfl (A_S (k:=0) ti51 rfl rfl rfl) <|emm rfl <|A_A rfl (A_X (rIn_ok f x) rfl) <|emm rfl <|enk K2 <|A_C fun _ K3=>esr rfl fun _ K4=>A_A rfl (B_W rfl rfl) <|enk K4 ?_
 refine A_H rfl (fun h15=>?_) (fun h15=>?_)
 ·refine esk rfl <|A_R ?_
  exact retR2 (.inr rfl) results87 (A_L (A_U rfl (A_b (by unfold powF;rw [i_P h15])))) (A_L (A_U rfl (A_b (by unfold powE;rw [i_P h15]))))
 refine esp K3 <|A_C fun _ K6=>A_C fun _ K7=>?_
 refine B_N (⟨[(1,aInt (inF f x)),(2,aInt n),(3,aEx (.pointer (some ⟨b3_1,0,none⟩))),(21,aBool (decide (((inF f x)=0)/\(n<0))))],[oBox b3_1 51 [aInt f.P,aInt f.M,aSl 1 false aInt f.mod]]⟩) ?_ ?_
 ·refine A_F <|emm rfl <|A_A rfl (B_W rfl rfl) <|emm rfl ?_
  refine B_I rfl rfl rfl rfl (fun hg18=>?_) (fun hg18=>?_)
  ·refine emm rfl <|A_M rfl rfl rfl rfl (d_T hg18) <|A_A rfl (A_m rfl rfl) <|A_A rfl (A_q rfl (d_T hg18) rfl) <|A_O ?_
   exact A_J ⟨rfl,rfl,rfl,A_a (dq_Q ((and_iff_right hg18).trans Iff.rfl)),trivial⟩ rfl
  refine A_E rfl rfl rfl rfl (d_F hg18) <|A_A rfl (A_3 rfl (d_F hg18) rfl) <|A_O ?_
  exact A_J ⟨rfl,rfl,rfl,A_a (dq_F rfl (fun h=>hg18 h.1)),trivial⟩ rfl
 refine A_1 K7 ?_
 refine A_H rfl (fun h21=>?_) (fun h21=>?_)
 ·refine esk rfl <|A_R ?_
  exact retR2 (.inr rfl) results87 (A_L (A_U rfl (A_b (by unfold powF;rw [i_N h15,i_P h21.1])))) (A_L (A_U rfl (A_b (by unfold powE;rw [i_N h15,i_P h21]))))
 refine esp K6 <|A_C fun _ K9=>esr rfl fun _ K10=>A_A rfl (B_W rfl rfl) <|enk K10 ?_
 refine A_H rfl (fun h23=>?_) (fun h23=>?_)
 ·refine esk rfl <|A_R ?_
  exact retR2 (.inr rfl) results87 (A_L (A_U rfl (A_b (by unfold powF;rw [i_N h15,i_P h23])))) (A_L (A_U rfl (A_b (by unfold powE;rw [i_N h15,i_N h21]))))
 refine esp K9 <|esr rfl fun _ K12=>A_A rfl (A_S (k:=0) ti51 rfl rfl rfl) <|A_A rfl (A_X (F_i f) rfl) <|A_A rfl (B_L rfl rfl) <|emm rfl <|enk K12 <|esr rfl fun _ K13=>A_A rfl (ok_tmod rfl rfl (by omega)) <|emm rfl <|A_A rfl (A_g rfl rfl (by have:=Int.tmod_lt_of_pos n (show 0<f.q-1 by omega);have:=Int.lt_tmod_of_pos n (show 0<f.q-1 by omega);omega) (by have:=Int.tmod_lt_of_pos n (show 0<f.q-1 by omega);have:=Int.lt_tmod_of_pos n (show 0<f.q-1 by omega);omega)) <|emm rfl <|A_A rfl (C_0 rfl rfl (by have:=Int.lt_tmod_of_pos n (show 0<f.q-1 by omega);omega) (by have:=Int.lt_tmod_of_pos n (show 0<f.q-1 by omega);omega)) <|emm rfl <|enk K13 <|esk rfl <|A_C fun _ K15=>esk rfl <|A_I <|A_Y (fun (i:Int)=>(⟨[(1,aInt (inF f x)),(2,aInt (powN f n)),(3,aEx (.pointer (some ⟨b3_1,0,none⟩))),(9,aInt (f.R.powc (inF f x) i.toNat)),(10,aInt i)],[oBox b3_1 51 [aInt f.P,aInt f.M,aSl 1 false aInt f.mod]]⟩:St)) (fun (i:Int)=>(0<=i)/\(i<=powN f n)) (fun (i:Int)=>(powN f n-i).toNat) 0 ⟨(by omega),(by omega)⟩ (A_J ⟨rfl,A_Q (A_k (show ((Int.tmod n (f.q-1))+(f.q-1))%(f.q-1)=powN f n by rfl)),rfl,A_Q (A_k (show 1=f.R.powc (inF f x) (0:Int).toNat by exact (Rg.powc_zero f.R _).symm)),A_Q (A_k (show 0=(0:Int) by rfl)),trivial⟩ rfl) ?_
 rintro i ⟨h0,h1⟩
 show Ent _ ⟨_,[_]⟩ _
 have hpw:=Rg.powc_lt f.R (inF f x) i.toNat
 rw [hC] at hpw
 refine A_C fun _ K17=>esr rfl fun _ K18=>A_A rfl (A_m rfl rfl) <|enk K18 ?_
 refine A_H rfl (fun h36=>?_) (fun h36=>?_)
 ·refine esp K17 <|A_C fun _ K19=>A_I <|A_F <|A_A rfl (A_S (k:=0) ti51 rfl rfl rfl) <|emm rfl <|A_A rfl (A_X (rMul_ok f (f.R.powc (inF f x) i.toNat) (inF f x) ‹_›) rfl) <|emm rfl <|enk K19 <|A_F <|emm rfl <|A_A rfl (A_g rfl rfl) <|emm rfl <|A_O ?_
  refine A_T (s:=(i)) (i+1) ⟨(by omega),‹_›⟩ (by omega) (A_J ⟨rfl,rfl,rfl,A_Q (A_k (show mulF f (f.R.powc (inF f x) i.toNat) (inF f x)=f.R.powc (inF f x) (i+1).toNat by show mulF f _ _=_;unfold mulF;rw [D_N hpw.1 hpw.2,D_N hix.1 hix.2,show (i+1).toNat=i.toNat+1 by omega];rfl)),rfl,trivial⟩ rfl)
 refine A_Z <|A_1 K15 <|esk rfl <|A_R ?_
 exact retR2 (.inr rfl) results87 (A_L (A_U rfl (A_b (by unfold powF;rw [i_N h15,i_N h23,show i=powN f n by omega])))) (A_L (A_U rfl (A_b (by unfold powE;rw [i_N h15,i_N h21]))))
end Go.Proofs.Ytaipghchkamajaa

