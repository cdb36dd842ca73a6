/-
  Walks.
-/
import Derived.Test.YtaipghchkamajaaPlainJ2
import Derived.Test.YtaipghchkamajaaC22
open Go Go.Cw
namespace Go.Proofs.Ytaipghchkamajaa
open Try
set_option maxRecDepth 100000
set_option linter.unusedVariables false
set_option linter.unusedSimpArgs false
theorem at_ok (r:Rgn) (l:List Int) (hl:∀i∈l,0<=i/\i<r.Points.length) (hm:l.length<=1000):Ctr Try.prog 74 [aRgn r,aSl 1 false aInt l] (aSl 1 false aInt (pickL r.Points l)):=by
 refine B_E Try.call74 func74 rfl rfl ?_
 intro w O
 refine A_l 0 2 rfl rfl fun hlen0_2=>A_l 0 6 rfl rfl fun hlen0_6=>B_D 1 rfl fun hlen1=>esr rfl fun _ K1=>A_w rfl rfl (AllOne.mem ⟨(A_N _),(A_N _),A_j,(A_N _),(A_N _),(A_N _),A_j,trivial⟩) fun b2_1=>emm rfl <|enk K1 <|esk rfl <|A_C fun _ K3=>esr rfl fun _ K4=>A_A rfl (A_5 rfl runUnderlying29 rfl) <|emm rfl <|enk K4 <|A_I <|B_U 3 1 false aInt (fun _=>rfl) <|A_Y (fun (ss:Int×Option Nat×Nat)=>match ss with | (i,rr3,cc3)=>(⟨[(2,aEx (.pointer (some ⟨b2_1,0,none⟩))),(5,aEx (vec rr3 (((pickL r.Points l).take i.toNat).length) cc3)),(8,aSl 1 false aInt l),(9,aInt (↑l.length:Int)),(10,aInt i)],[oVec rr3 cc3 3 1 false aInt ((pickL r.Points l).take i.toNat),oBox b2_1 53 [aInt r.F.P,aInt r.F.M,aSl 1 false aInt r.F.mod,aInt r.Kind,aInt r.K,aInt r.D,aSl 1 false aInt r.Points]]⟩:St)) (fun (ss:Int×Option Nat×Nat)=>match ss with | (i,rr3,cc3)=>(0<=i)/\(i<=l.length)) (fun (ss:Int×Option Nat×Nat)=>match ss with | (i,rr3,cc3)=>(l.length-i).toNat) (0,none,0) ⟨(by omega),(by omega)⟩ (A_J ⟨rfl,A_Q ((show aEx (vec none ([]:List _).length 0)=aEx (vec none (((pickL r.Points l).take (0:Int).toNat).length) 0) from B_J (congrArg List.length (show (pickL r.Points l).take (0:Int).toNat = [] by rfl).symm))),rfl,rfl,A_Q (A_k (show 0=(0:Int) by rfl)),trivial⟩ (A_G (A_e (show (pickL r.Points l).take (0:Int).toNat = [] by rfl)) (rfl))) ?_
 rintro ⟨i,rr3,cc3⟩ ⟨h0,h1⟩
 show Ent _ ⟨_,[_,_]⟩ _
 have ltp:((pickL r.Points l).take i.toNat).length=i.toNat:=by rw [List.length_take];simp [pickL];omega
 refine esr rfl fun _ K5=>A_A rfl (A_m rfl rfl) <|enk K5 <|A_C fun _ K6=>?_
 refine A_H rfl (fun h11=>?_) (fun h11=>?_)
 ·have hp:=hl _ (B_i 0 l h0 h11)
  refine esp K6 <|A_C fun _ K7=>A_I <|esr rfl fun _ K8=>A_A rfl (A_W 0 sl29 rfl rfl) <|A_A rfl (A_P ti3 rfl) <|emm rfl <|enk K8 <|A_F <|emm rfl <|A_A rfl (A_B runUnderlying53 rfl sizeOf29 (by decide) rfl) <|A_A rfl (A_K (k:=1) isAgg29 rfl rfl rfl) <|emm rfl <|A_A rfl (A_W 0 sl29 rfl rfl) <|A_A rfl (A_P ti3 rfl) <|B_Q (k:=0) (enc:=aInt) (y:=ix 0 r.Points (ix 0 l i)) rfl rfl vt29 rfl rfl rfl rfl ((A_n (A_N _))) (by omega) (by omega) (by decide) fun b21_4 c21_4=>emm rfl <|enk K7 <|A_F <|A_A rfl (A_g rfl rfl) <|emm rfl <|A_O ?_
  refine A_T (s:=(i,rr3,cc3)) (i+1,(some b21_4),c21_4) ⟨(by omega),‹_›⟩ (by dsimp only;omega) (A_J ⟨rfl,A_Q (B_J (congrArg List.length (show (pickL r.Points l).take (i+1).toNat=((pickL r.Points l).take i.toNat)++[ix 0 r.Points (ix 0 l i)] by rw [B_A 0 (pickL r.Points l) h0 (by simp [pickL];omega),G_v h0 h11]).symm)),rfl,rfl,rfl,trivial⟩ (A_G (A_e (show (pickL r.Points l).take (i+1).toNat=((pickL r.Points l).take i.toNat)++[ix 0 r.Points (ix 0 l i)] by rw [B_A 0 (pickL r.Points l) h0 (by simp [pickL];omega),G_v h0 h11])) (rfl)))
 refine A_Z <|A_1 K3 <|esk rfl <|A_R ?_
 exact retR1 (.inr rfl) results74 (A_L (A_U rfl (B_g (k:=0) (D_3 rfl) rfl (by rw [t_L (by simp [pickL];omega)]))))

theorem E_C (f:Fld) (xs:List Int) (n:Int) (hF:FOk f) (hn0:0<=n:=by omega) (hn1:n<=64:=by omega) (hm:xs.length<=1000:=by omega):Ctr Try.prog 66 [aGF f,aSl 1 false aInt xs,aInt n] (aMat (⟨n,vdm f xs n⟩:Mat)):=by
 refine B_E Try.call66 func66 rfl rfl ?_
 intro w O
 refine A_0 0 4 rfl rfl fun hlen0_4=>A_0 0 5 rfl rfl fun hlen0_5=>B_D 1 rfl fun hlen1=>esr rfl fun _ K1=>B_V (z:=.agg #[.int .i64 0,.slice none 0 0]) [aInt 0,aEx (.slice none 0 0)] rfl zv107 rfl zc107 fun b6_1=>enk K1 <|esr rfl fun _ K2=>A_A rfl (B_y st107 (As:=[aInt 0,aEx (.slice none 0 0)]) z107 (⟨0,1,rfl,.inl ⟨rfl,_,rfl,(A_N _),rfl,rfl⟩⟩)) <|B_V (z:=.agg #[.int .i64 0,.slice none 0 0]) [aInt 0,aEx (.slice none 0 0)] rfl zv107 rfl zc107 fun b7_2=>A_2 (k:=0) sizeOf107 rfl rfl rfl (AllOne.mem ⟨(A_N _),(B_b rfl),trivial⟩) rfl rfl ?_
 show Ent _ ⟨_,[_,_]⟩ _
 refine enk K2 <|A_C fun _ K3=>esr rfl fun _ K4=>A_A rfl (A_5 rfl runUnderlying29 rfl) <|emm rfl <|enk K4 <|A_I <|B_U 29 1 false aInts (fun _=>rfl) <|A_Y (fun (ss:Int×Option Nat×Nat)=>match ss with | (i,rr4,cc4)=>(⟨[(0,aGF f),(2,aInt n),(6,aEx (.pointer (some ⟨b6_1,0,none⟩))),(7,aEx (.pointer (some ⟨b7_2,0,none⟩))),(12,aSl 1 false aInt xs),(13,aInt (↑xs.length:Int)),(14,aInt i)],[oVec rr4 cc4 29 1 false aInts (mapT (fun x=>powsF f x n) xs i),oBox b7_2 107 [aInt n,aEx (vec rr4 ((mapT (fun x=>powsF f x n) xs i).length) cc4)],oBox b6_1 107 [aInt 0,aEx (.slice none 0 0)]]⟩:St)) (fun (ss:Int×Option Nat×Nat)=>match ss with | (i,rr4,cc4)=>(0<=i)/\(i<=xs.length)) (fun (ss:Int×Option Nat×Nat)=>match ss with | (i,rr4,cc4)=>(xs.length-i).toNat) (0,none,0) ⟨(by omega),(by omega)⟩ (A_J ⟨rfl,rfl,rfl,rfl,rfl,rfl,A_Q (A_k (show 0=(0:Int) by rfl)),trivial⟩ (A_G (A_e (show mapT (fun x=>powsF f x n) xs (0:Int) = [] by rfl)) (A_G (C_Y (B_S rfl (B_S (rfl) (rfl)))) (rfl)))) ?_
 rintro ⟨i,rr4,cc4⟩ ⟨k0,k1⟩
 show Ent _ ⟨_,[_,_,_]⟩ _
 have lf:=D_n (fun x=>powsF f x n) xs (i:=i) (by omega)
 refine esr rfl fun _ K5=>A_A rfl (A_m rfl rfl) <|enk K5 <|A_C fun _ K6=>?_
 refine A_H rfl (fun h15=>?_) (fun h15=>?_)
 ·refine esp K6 <|A_C fun _ K7=>A_I <|esr rfl fun _ K8=>A_A rfl (A_W 0 sl29 rfl rfl) <|A_A rfl (A_P ti3 rfl) <|emm rfl <|enk K8 <|A_u 7 mixed (by kernel_rfl) (by kernel_rfl) (by kernel_rfl) <|dw_o rfl (A_B runUnderlying107 rfl sizeOf65 (by decide) rfl) <|dw_o rfl (A_K (k:=1) isAgg65 rfl rfl rfl) <|dw_o rfl (A_D rfl) <|dw_o rfl (A_D rfl) <|dw_o rfl (A_D rfl) <|dw_o rfl (A_X (CtrF.ctr (CtrF.sl (RgPowers_ok f (ix 0 xs i) n ‹_› ‹_› ‹_›))) rfl) <|dw_o rfl (C_Z (enc:=aInts) (y:=powsF f (ix 0 xs i) n) vt65 rfl (A_n A_j)) <|A_9 <|B_P (k:=0) rfl vt65 rfl rfl rfl rfl (A_y A_h) (by simp only [l_A,List.length_cons,List.length_nil];omega) (by simp only [l_A,List.length_cons,List.length_nil];omega) fun r25_4 cr25_4=>A_A rfl (A_B runUnderlying107 rfl sizeOf65 (by decide) rfl) <|B_3 (k:=1) sizeOf65 rfl rfl rfl (B_b rfl) rfl <|enk K7 <|A_F <|A_A rfl (A_g rfl rfl) <|emm rfl <|A_O ?_
  refine A_T (s:=(i,rr4,cc4)) (i+1,r25_4,cr25_4) ⟨(by omega),‹_›⟩ (by dsimp only;omega) (A_J ⟨rfl,rfl,rfl,rfl,rfl,rfl,rfl,trivial⟩ (A_G (A_e (show mapT (fun x=>powsF f x n) xs (i+1)=(mapT (fun x=>powsF f x n) xs i)++[powsF f (ix 0 xs i) n] by exact C_q 0 _ xs k0 h15)) (A_G (C_Y (B_S rfl (B_S (B_J (congrArg List.length (show mapT (fun x=>powsF f x n) xs (i+1)=(mapT (fun x=>powsF f x n) xs i)++[powsF f (ix 0 xs i) n] by exact C_q 0 _ xs k0 h15))) (rfl)))) (rfl))))
 refine A_Z <|A_1 K3 <|esr rfl fun _ K9=>A_A rfl (A_S (k:=1) ti107 rfl rfl rfl) <|A_2 (k:=2) sizeOf107 rfl rfl rfl (AllOne.mem ⟨(A_N _),(B_b rfl),trivial⟩) rfl rfl ?_
 show Ent _ ⟨_,[_,_,_]⟩ _
 refine enk K9 <|A_R ?_
 exact retR1 (.inr rfl) results66 (C_E (k:=2) ti107 rfl rfl rfl (B_9 ⟨A_b rfl,B_g (k:=0) (D_3 rfl) rfl (by rw [F_t _ _ (by omega)];rfl),trivial⟩))

theorem rNodes_ok (r:Rgn) (l:List Int) (m but:Int)  : Ctr Try.prog 44 [aRgn r,aSl 1 false aInt l,aInt m,aInt but] (aInt (nodErr r.Points.length m but l)):=by
 refine B_E Try.call44 func44 rfl rfl ?_
 intro w O
 refine A_l 0 2 rfl rfl fun hlen0_2=>A_l 0 6 rfl rfl fun hlen0_6=>B_D 1 rfl fun hlen1=>esr rfl fun _ K1=>A_w rfl rfl (AllOne.mem ⟨(A_N _),(A_N _),A_j,(A_N _),(A_N _),(A_N _),A_j,trivial⟩) fun b4_1=>emm rfl <|enk K1 <|A_C fun _ K2=>esr rfl fun _ K3=>A_A rfl (A_5 rfl runUnderlying29 rfl) <|emm rfl <|A_A rfl (B_B rfl rfl) <|enk K3 ?_
 refine A_H rfl (fun h15=>?_) (fun h15=>?_)
 ·refine esk rfl <|A_R ?_
  exact retR1 (.inr rfl) results44 (A_L (A_U rfl (A_b (by exact (i_P h15).symm))))
 have hlm:(l.length:Int)=m:=n_N h15
 refine esp K2 <|A_C fun _ K5=>esk rfl <|A_I <|A_Y (fun (i:Int)=>(⟨[(1,aSl 1 false aInt l),(2,aInt m),(3,aInt but),(4,aEx (.pointer (some ⟨b4_1,0,none⟩))),(9,aInt i)],[oBox b4_1 53 [aInt r.F.P,aInt r.F.M,aSl 1 false aInt r.F.mod,aInt r.Kind,aInt r.K,aInt r.D,aSl 1 false aInt r.Points]]⟩:St)) (fun (i:Int)=>(0<=i)/\(i<=l.length)/\(¬badIn r.Points.length but (l.take i.toNat))) (fun (i:Int)=>(l.length-i).toNat) 0 ⟨(by omega),(by omega),(by simp [badIn])⟩ (A_J ⟨rfl,rfl,rfl,rfl,A_Q (A_k (show 0=(0:Int) by rfl)),trivial⟩ rfl) ?_
 rintro i ⟨h0,h1,hn⟩
 show Ent _ ⟨_,[_]⟩ _
 refine A_C fun _ K7=>esr rfl fun _ K8=>A_A rfl (A_m rfl rfl) <|enk K8 ?_
 refine A_H rfl (fun h18=>?_) (fun h18=>?_)
 ·refine esp K7 <|A_C fun _ K9=>A_I <|A_C fun _ K10=>?_
  refine B_N (⟨[(1,aSl 1 false aInt l),(2,aInt m),(3,aInt but),(4,aEx (.pointer (some ⟨b4_1,0,none⟩))),(9,aInt i),(43,aBool (decide ((((ix 0 l i)<0)\/((↑r.Points.length:Int)<=(ix 0 l i)))\/((ix 0 l i)=but))))],[oBox b4_1 53 [aInt r.F.P,aInt r.F.M,aSl 1 false aInt r.F.mod,aInt r.Kind,aInt r.K,aInt r.D,aSl 1 false aInt r.Points]]⟩) ?_ ?_
  ·refine A_u 23 mixed (by kernel_rfl) (by kernel_rfl) (by kernel_rfl) <|dw_o rfl (A_D rfl) <|dw_o rfl (A_D rfl) <|dw_o rfl (A_W 0 sl29 rfl rfl) <|dw_o rfl (A_P ti3 rfl) <|dw_o rfl (A_m rfl rfl) <|dw_o rfl (A_D rfl) ?_
   refine G_Q rfl rfl rfl rfl (fun hg26=>?_) (fun hg26=>?_)
   ·refine dw_o rfl (A_D rfl) <|A_r rfl rfl rfl rfl (d_F hg26) <|dw_o rfl (A_D rfl) <|A_r rfl rfl rfl rfl (d_F hg26) <|dw_o rfl (A_W 0 sl29 rfl rfl) <|A_r rfl rfl rfl rfl (d_F hg26) <|dw_o rfl (A_P ti3 rfl) <|A_r rfl rfl rfl rfl (d_F hg26) <|dw_o rfl (A_B runUnderlying53 rfl sizeOf29 (by decide) rfl) <|A_r rfl rfl rfl rfl (d_F hg26) <|dw_o rfl (A_K (k:=0) isAgg29 rfl rfl rfl) <|A_r rfl rfl rfl rfl (d_F hg26) <|dw_o rfl (A_5 rfl runUnderlying29 rfl) <|A_r rfl rfl rfl rfl (d_F hg26) <|dw_o rfl (E_E rfl rfl) <|dw_o rfl (A_3 rfl (d_F hg26) rfl) <|dw_o rfl (A_D rfl) ?_
    refine G_Q rfl rfl rfl rfl (fun hg36=>?_) (fun hg36=>?_)
    ·refine dw_o rfl (A_D rfl) <|A_r rfl rfl rfl rfl (d_F hg36) <|dw_o rfl (A_D rfl) <|A_r rfl rfl rfl rfl (d_F hg36) <|dw_o rfl (A_W 0 sl29 rfl rfl) <|A_r rfl rfl rfl rfl (d_F hg36) <|dw_o rfl (A_P ti3 rfl) <|A_r rfl rfl rfl rfl (d_F hg36) <|dw_o rfl (A_D rfl) <|A_r rfl rfl rfl rfl (d_F hg36) <|dw_o rfl (B_W rfl rfl) <|dw_o rfl (A_3 rfl (d_F hg36) rfl) <|A_9 <|A_O ?_
     exact A_J ⟨rfl,rfl,rfl,rfl,rfl,A_a (dq_Q ((or_iff_right (fun h=>h.elim hg26 hg36)).trans Iff.rfl)),trivial⟩ rfl
    refine A_o rfl rfl rfl rfl (d_T hg36) <|A_o rfl rfl rfl rfl (d_T hg36) <|A_o rfl rfl rfl rfl (d_T hg36) <|A_o rfl rfl rfl rfl (d_T hg36) <|A_o rfl rfl rfl rfl (d_T hg36) <|dw_o rfl (A_q rfl (d_T hg36) rfl) <|A_9 <|A_O ?_
    exact A_J ⟨rfl,rfl,rfl,rfl,rfl,A_a (dq_T rfl (Or.inl (Or.inr hg36))),trivial⟩ rfl
   refine A_o rfl rfl rfl rfl (d_T hg26) <|A_o rfl rfl rfl rfl (d_T hg26) <|A_o rfl rfl rfl rfl (d_T hg26) <|A_o rfl rfl rfl rfl (d_T hg26) <|A_o rfl rfl rfl rfl (d_T hg26) <|A_o rfl rfl rfl rfl (d_T hg26) <|A_o rfl rfl rfl rfl (d_T hg26) <|dw_o rfl (A_q rfl (d_T hg26) rfl) <|dw_o rfl (A_D rfl) <|A_o rfl rfl rfl rfl rfl <|A_o rfl rfl rfl rfl rfl <|A_o rfl rfl rfl rfl rfl <|A_o rfl rfl rfl rfl rfl <|A_o rfl rfl rfl rfl rfl <|A_o rfl rfl rfl rfl rfl <|dw_o rfl (A_q rfl rfl rfl) <|A_9 <|A_O ?_
   exact A_J ⟨rfl,rfl,rfl,rfl,rfl,A_a (dq_T rfl (Or.inl (Or.inl hg26))),trivial⟩ rfl
  refine A_1 K10 ?_
  refine A_H rfl (fun h43=>?_) (fun h43=>?_)
  ·refine esk rfl <|A_R ?_
   exact retR1 (.inr rfl) results44 (A_L (A_U rfl (A_b (by rw [nodErr,i_N h15,lstErr,i_P (badIn_at h0 (by omega) h43)]))))
  refine esp K9 <|A_F <|emm rfl <|A_A rfl (A_g rfl rfl) <|emm rfl <|A_O ?_
  refine A_T (s:=(i)) (i+1) ⟨(by omega),(by omega),(badIn_succ h0 (by omega) hn h43)⟩ (by omega) (A_J ⟨rfl,rfl,rfl,rfl,rfl,trivial⟩ rfl)
 refine A_Z <|A_1 K5 <|A_C fun _ K12=>esk rfl <|A_I <|A_Y (fun (i:Int)=>(⟨[(1,aSl 1 false aInt l),(2,aInt m),(10,aInt i)],[oBox b4_1 53 [aInt r.F.P,aInt r.F.M,aSl 1 false aInt r.F.mod,aInt r.Kind,aInt r.K,aInt r.D,aSl 1 false aInt r.Points]]⟩:St)) (fun (i:Int)=>(0<=i)/\(i<=l.length)/\((l.take i.toNat).Nodup)) (fun (i:Int)=>(l.length-i).toNat) 0 ⟨(by omega),(by omega),(by simp)⟩ (A_J ⟨rfl,rfl,A_Q (A_k (show 0=(0:Int) by rfl)),trivial⟩ rfl) ?_
 rintro i ⟨k0,k1,kn⟩
 show Ent _ ⟨_,[_]⟩ _
 refine A_C fun _ K14=>esr rfl fun _ K15=>A_A rfl (A_m rfl rfl) <|enk K15 ?_
 refine A_H rfl (fun h46=>?_) (fun h46=>?_)
 ·refine esp K14 <|A_C fun _ K16=>A_I <|esk rfl <|A_I <|A_Y (fun (j:Int)=>(⟨[(1,aSl 1 false aInt l),(2,aInt m),(10,aInt i),(11,aInt j)],[oBox b4_1 53 [aInt r.F.P,aInt r.F.M,aSl 1 false aInt r.F.mod,aInt r.Kind,aInt r.K,aInt r.D,aSl 1 false aInt r.Points]]⟩:St)) (fun (j:Int)=>(0<=j)/\(j<=i)/\(∀q:Nat,(q:Int)<j->ix 0 l i≠ix 0 l q)) (fun (j:Int)=>(i-j).toNat) 0 ⟨(by omega),‹_›,(fun q hq=>by omega)⟩ (A_J ⟨rfl,rfl,rfl,A_Q (A_k (show 0=(0:Int) by rfl)),trivial⟩ rfl) ?_
  rintro j ⟨j0,j1,jn⟩
  show Ent _ ⟨_,[_]⟩ _
  refine A_C fun _ K18=>esr rfl fun _ K19=>A_A rfl (A_m rfl rfl) <|enk K19 ?_
  refine A_H rfl (fun h51=>?_) (fun h51=>?_)
  ·refine esp K18 <|A_C fun _ K20=>A_I <|A_C fun _ K21=>A_u 9 mixed (by kernel_rfl) (by kernel_rfl) (by kernel_rfl) <|dw_o rfl (A_D rfl) <|dw_o rfl (A_D rfl) <|dw_o rfl (A_W 0 sl29 rfl rfl) <|dw_o rfl (A_P ti3 rfl) <|dw_o rfl (A_D rfl) <|dw_o rfl (A_D rfl) <|dw_o rfl (A_W 0 sl29 rfl rfl) <|dw_o rfl (A_P ti3 rfl) <|dw_o rfl (B_W rfl rfl) <|A_9 <|enk K21 ?_
   refine A_H rfl (fun h62=>?_) (fun h62=>?_)
   ·refine esk rfl <|A_R ?_
    exact retR1 (.inr rfl) results44 (A_L (A_U rfl (A_b (by rw [t_L (by omega)] at hn;rw [nodErr,i_N h15,lstErr,i_N hn,i_N (D_W (n:=(i+1).toNat) (fun h=>((B_n l k0 (by omega)).1 h).2 (by rw [show ix 0 l i=l.getD j.toNat 0 from h62];exact E_Y 0 l _ _ (by omega) (by omega))))]))))
   refine esp K20 <|A_F <|emm rfl <|A_A rfl (A_g rfl rfl) <|emm rfl <|A_O ?_
   refine A_T (s:=(j)) (j+1) ⟨(by omega),‹_›,(fun q hq=>by by_cases hqj:(q:Int)=j;(rw [hqj];exact h62);exact jn q (by omega))⟩ (by omega) (A_J ⟨rfl,rfl,rfl,rfl,trivial⟩ rfl)
  refine A_Z <|A_1 K16 <|A_F <|emm rfl <|A_A rfl (A_g rfl rfl) <|emm rfl <|A_O ?_
  refine A_T (s:=(i)) (i+1) ⟨(by omega),(by omega),((B_n l k0 (by omega)).2 ⟨kn,fun hm=>by obtain ⟨q,q1,q2,q3⟩:=E_Q 0 l _ _ hm;exact jn q (by omega) q3.symm⟩)⟩ (by omega) (A_J ⟨rfl,rfl,rfl,trivial⟩ rfl)
 refine A_Z <|A_1 K12 <|esk rfl <|A_R ?_
 exact retR1 (.inr rfl) results44 (A_L (A_U rfl (A_b (by rw [t_L (by omega)] at hn kn;rw [nodErr,i_N h15,lstErr,i_N hn,i_P kn]))))

end Go.Proofs.Ytaipghchkamajaa

