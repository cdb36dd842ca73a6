/-
  Walks.
-/
import Derived.Test.YtaipghchkamajaaCzLib
import Derived.Test.YtaipghchkamajaaA7
import Derived.Test.YtaipghchkamajaaA9
open Go Go.Cw
namespace Go.Proofs.Ytaipghchkamajaa
open Try
set_option maxRecDepth 100000
set_option linter.unusedVariables false
set_option linter.unusedSimpArgs false

abbrev aMat (m:Mat):AV:=aAgg [aInt m.cols,aRows m.rows]

theorem add_ok (f:Fld) (r:Option Nat) (cap:Nat) (v:List Int) (a:Int) (u:List Int) (hF:FOk f) (hl:u.length=v.length):CtrW Try.prog 121 [oVec r cap 3 1 false aInt v] [aGF f,aEx (vec r v.length cap),aInt a,aSl 1 false aInt u] (fun (_:Unit)=>True) (fun (_:Unit)=>aAny) (fun (_:Unit)=>[oVec r cap 3 1 false aInt (addTo f v a u)]):=by
 refine D_I Try.call121 func121 rfl rfl ?_
 intro w O
 refine A_0 0 4 rfl rfl fun hlen0_4=>A_0 0 5 rfl rfl fun hlen0_5=>B_D 3 rfl fun hlen3=>esr rfl fun _ K1=>A_A rfl (A_5 rfl runUnderlying29 rfl) <|emm rfl <|enk K1 <|A_I <|A_Y (fun (i:Int)=>(⟨[(0,aGF f),(1,aEx (vec r v.length cap)),(2,aInt a),(10,aSl 1 false aInt u),(11,aInt (↑u.length:Int)),(12,aInt i)],[oVec r cap 3 1 false aInt (mixL (addTo f v a u) v i)]⟩:St)) (fun (i:Int)=>(0<=i)/\(i<=u.length)) (fun (i:Int)=>(u.length-i).toNat) 0 ⟨(by omega),(by omega)⟩ (A_J ⟨rfl,rfl,rfl,rfl,rfl,A_Q (A_k (show 0=(0:Int) by rfl)),trivial⟩ (A_G (A_e (show mixL (addTo f v a u) v (0:Int)=v by exact D_M _ _)) (rfl))) ?_
 rintro i ⟨h0,h1⟩
 show Ent _ ⟨_,[_]⟩ _
 have lm:=B_6 (addTo f v a u) v (i:=i) (B_u f v a u)
 refine esr rfl fun _ K2=>A_A rfl (A_m rfl rfl) <|enk K2 <|A_C fun _ K3=>?_
 refine A_H rfl (fun h13=>?_) (fun h13=>?_)
 ·refine esp K3 <|A_C fun _ K4=>A_I <|esr rfl fun _ K5=>A_A rfl (A_W 0 sl29 rfl rfl) <|A_A rfl (A_P ti3 rfl) <|emm rfl <|enk K5 <|esr rfl fun _ K6=>A_A rfl (B_B rfl rfl) <|enk K6 ?_
  refine A_H rfl (fun h18=>?_) (fun h18=>?_)
  ·refine A_u 13 mixed (by kernel_rfl) (by kernel_rfl) (by kernel_rfl) <|dw_o rfl (A_D rfl) <|dw_o rfl (A_D rfl) <|dw_o rfl (A_D rfl) <|dw_o rfl (A_D rfl) <|dw_o rfl (A_D rfl) <|dw_o rfl (A_8 (k:=0) sl29 rfl rfl (by simp_all) rfl) <|dw_o rfl (B_O (k:=0) 0 ti3 rfl rfl) <|dw_o rfl (A_D rfl) <|dw_o rfl (A_D rfl) <|dw_o rfl (A_D rfl) <|dw_o rfl (A_X (Mul_ok f a (ix 0 u i) ‹_›) rfl) <|dw_o rfl (A_X (Add_ok f (ix 0 (mixL (addTo f v a u) v i) i) (mulF f a (ix 0 u i)) ‹_›) rfl) <|dw_o rfl (A_8 (k:=0) sl29 rfl rfl (by simp_all) rfl) <|A_9 <|C_L (k:=0) (z:=addF f (ix 0 (mixL (addTo f v a u) v i) i) (mulF f a (ix 0 u i))) ti3 rfl rfl rfl (A_n (A_N _)) (by omega) (by omega) <|enk K4 <|A_F <|A_A rfl (A_g rfl rfl) <|emm rfl <|A_O ?_
   refine A_T (s:=(i)) (i+1) ⟨(by omega),‹_›⟩ (by omega) (A_J ⟨rfl,rfl,rfl,rfl,rfl,rfl,trivial⟩ (A_G (A_e (show mixL (addTo f v a u) v (i+1)=List.set (mixL (addTo f v a u) v i) (i).toNat (addF f (ix 0 (mixL (addTo f v a u) v i) i) (mulF f a (ix 0 u i))) by exact (addTo_set f v a u h0 (by omega) h18).symm)) (rfl)))
  refine esp K4 <|A_F <|A_A rfl (A_g rfl rfl) <|emm rfl <|A_O ?_
  refine A_T (s:=(i)) (i+1) ⟨(by omega),‹_›⟩ (by omega) (A_J ⟨rfl,rfl,rfl,rfl,rfl,rfl,trivial⟩ (A_G (A_e (show mixL (addTo f v a u) v (i+1)=mixL (addTo f v a u) v i by exact (addTo_stay f v a u h0 (by omega) (n_N h18)).symm)) (rfl)))
 refine A_Z ?_
 exact retW (.inl rfl) () (trivial) ((show ([oVec r cap 3 1 false aInt (addTo f v a u)]:List Own) = [oVec r cap 3 1 false aInt (mixL (addTo f v a u) v i)] from (A_G (A_e (show addTo f v a u=mixL (addTo f v a u) v i by exact (addTo_all f v a u (by omega)).symm)) (rfl))).symm) (resW0 results121 )

theorem vec_ok (f:Fld) (x:List Int) (rows:List (List Int)) (cols:Int) (hF:FOk f) (hc0:0<=cols) (hc1:cols<=1000) (hx:x.length=rows.length) (hr:∀i:Int,0<=i->i<rows.length->((ix [] rows i).length:Int)=cols):CtrF Try.prog 95 [aGF f,aSl 1 false aInt x,aSl 1 false aInts rows,aInt cols] (aVec 3 1 false aInt (comb f x rows cols)):=by
 refine C_x Try.call95 func95 rfl rfl ?_
 intro w O
 refine A_0 0 4 rfl rfl fun hlen0_4=>A_0 0 5 rfl rfl fun hlen0_5=>B_D 1 rfl fun hlen1=>B_D 2 rfl fun hlen2=>esk rfl <|esr rfl fun _ K2=>B_1 aInt 0 rfl vt29 rfl rfl (by omega) (by omega) (by omega) (fun _ _=>rfl) (AllV.mem ⟨rfl,trivial⟩) fun b13_1=>emm rfl <|enk K2 <|A_C fun _ K3=>esr rfl fun _ K4=>A_A rfl (A_5 rfl runUnderlying29 rfl) <|emm rfl <|enk K4 <|A_I <|A_Y (fun (i:Int)=>(⟨[(0,aGF f),(2,aSl 1 false aInts rows),(9,aEx (vec (some b13_1) ((cols).toNat) ((cols).toNat))),(14,aSl 1 false aInt x),(15,aInt (↑x.length:Int)),(16,aInt i)],[oVec (some b13_1) ((cols).toNat) 3 1 false aInt (combTo f x rows cols i.toNat)]⟩:St)) (fun (i:Int)=>(0<=i)/\(i<=x.length)) (fun (i:Int)=>(x.length-i).toNat) 0 ⟨(by omega),(by omega)⟩ (A_J ⟨rfl,rfl,rfl,rfl,rfl,A_Q (A_k (show 0=(0:Int) by rfl)),trivial⟩ (A_G (A_e (show combTo f x rows cols (0:Int).toNat=List.replicate ((cols).toNat) 0 by rfl)) (rfl))) ?_
 rintro i ⟨h0,h1⟩
 show Ent _ ⟨_,[_]⟩ _
 refine esr rfl fun _ K5=>A_A rfl (A_m rfl rfl) <|enk K5 <|A_C fun _ K6=>?_
 refine A_H rfl (fun h17=>?_) (fun h17=>?_)
 ·refine esp K6 <|A_C fun _ K7=>A_I <|esr rfl fun _ K8=>A_A rfl (A_W 0 sl29 rfl rfl) <|A_A rfl (A_P ti3 rfl) <|emm rfl <|enk K8 <|esr rfl fun _ K9=>A_A rfl (B_B rfl rfl) <|enk K9 ?_
  refine A_H rfl (fun h22=>?_) (fun h22=>?_)
  ·have hri:=hr i h0 (by omega)
   refine A_F <|emm rfl <|A_A rfl (A_W [] sl65 rfl rfl) <|A_A rfl (A_P ti29 rfl) <|B_0 (rs:=[]) [] rfl (add_ok f (some b13_1) ((cols).toNat) (combTo f x rows cols i.toNat) (ix 0 x i) (ix [] rows i) ‹_› (by rw [C_T];omega)) rfl rfl (.inl rfl) ⟨A_z rfl (A_y (A_p _)),A_z rfl (D_S (congrArg (fun n=>vec (some b13_1) n ((cols).toNat)) (show (cols).toNat=(combTo f x rows cols i.toNat).length by simp))),A_z rfl (A_y (A_p _)),A_z rfl (A_y (A_p _)),trivial⟩ ?_
   rintro ⟨⟩ -
   show Ent _ ⟨_::_,[_]⟩ _
   refine enk K7 <|A_F <|A_A rfl (A_g rfl rfl) <|emm rfl <|A_O ?_
   refine A_T (s:=(i)) (i+1) ⟨(by omega),‹_›⟩ (by omega) (A_J ⟨rfl,rfl,rfl,rfl,rfl,rfl,trivial⟩ (A_G (A_e (show combTo f x rows cols (i+1).toNat=addTo f (combTo f x rows cols i.toNat) (ix 0 x i) (ix [] rows i) by exact (combTo_step f x rows cols h0 h22).symm)) (rfl)))
  refine esp K7 <|A_F <|A_A rfl (A_g rfl rfl) <|emm rfl <|A_O ?_
  refine A_T (s:=(i)) (i+1) ⟨(by omega),‹_›⟩ (by omega) (A_J ⟨rfl,rfl,rfl,rfl,rfl,rfl,trivial⟩ (A_G (A_e (show combTo f x rows cols (i+1).toNat=combTo f x rows cols i.toNat by exact (combTo_stay f x rows cols h0 (n_N h22)).symm)) (rfl)))
 refine A_Z <|A_1 K3 <|esk rfl <|A_R ?_
 exact retR1 (.inr rfl) results95 (A_L (A_U rfl (C_7 (k:=0) B_j rfl rfl (by simp) (by unfold comb;congr 1;omega))))

theorem entries_ok (f:Fld) (l:List Int)  : Ctr Try.prog 101 [aGF f,aSl 1 false aInt l] (aInt (entErr f l)):=by
 refine B_E Try.call101 func101 rfl rfl ?_
 intro w O
 refine A_0 0 4 rfl rfl fun hlen0_4=>A_0 0 5 rfl rfl fun hlen0_5=>B_D 1 rfl fun hlen1=>esk rfl <|A_C fun _ K2=>esr rfl fun _ K3=>A_A rfl (A_5 rfl runUnderlying29 rfl) <|emm rfl <|enk K3 <|A_I <|A_Y (fun (i:Int)=>(⟨[(0,aGF f),(7,aSl 1 false aInt l),(8,aInt (↑l.length:Int)),(9,aInt i)],[]⟩:St)) (fun (i:Int)=>(0<=i)/\(i<=l.length)/\(¬outF f (l.take i.toNat))) (fun (i:Int)=>(l.length-i).toNat) 0 ⟨(by omega),(by omega),(by simp [outF])⟩ (A_J ⟨rfl,rfl,rfl,A_Q (A_k (show 0=(0:Int) by rfl)),trivial⟩ rfl) ?_
 rintro i ⟨h0,h1,hn⟩
 show Ent _ ⟨_,[]⟩ _
 refine esr rfl fun _ K4=>A_A rfl (A_m rfl rfl) <|enk K4 <|A_C fun _ K5=>?_
 refine A_H rfl (fun h10=>?_) (fun h10=>?_)
 ·refine esp K5 <|A_C fun _ K6=>A_I <|esr rfl fun _ K7=>A_A rfl (A_W 0 sl29 rfl rfl) <|A_A rfl (A_P ti3 rfl) <|emm rfl <|enk K7 <|esr rfl fun _ K8=>A_A rfl (A_X (Is_ok f (ix 0 l i)) rfl) <|A_A rfl (E_O rfl) <|enk K8 ?_
  refine A_H rfl (fun h16=>?_) (fun h16=>?_)
  ·refine esk rfl <|A_R ?_
   exact retR1 (.inr rfl) results101 (A_L (A_U rfl (A_b (by unfold entErr;rw [i_P (outF_at h0 h10 h16)]))))
  refine esp K6 <|A_F <|A_A rfl (A_g rfl rfl) <|emm rfl <|A_O ?_
  refine A_T (s:=(i)) (i+1) ⟨(by omega),‹_›,(F_l h0 h10 hn (n_N h16))⟩ (by omega) (A_J ⟨rfl,rfl,rfl,rfl,trivial⟩ rfl)
 refine A_Z <|A_1 K2 <|esk rfl <|A_R ?_
 exact retR1 (.inr rfl) results101 (A_L (A_U rfl (A_b (by unfold entErr;rw [i_N (by rw [t_L (by omega)] at hn;exact hn)]))))

theorem mcheck_ok (f:Fld) (m:Mat)  : Ctr Try.prog 120 [aGF f,aMat m] (aInt (matErr f m)):=by
 refine B_E Try.call120 func120 rfl rfl ?_
 intro w O
 refine A_0 0 4 rfl rfl fun hlen0_4=>A_0 0 5 rfl rfl fun hlen0_5=>A_l 1 1 rfl rfl fun hlen1_1=>esr rfl fun _ K1=>A_w rfl rfl (AllOne.mem ⟨(A_N _),A_j,trivial⟩) fun b3_1=>emm rfl <|enk K1 <|A_C fun _ K2=>A_C fun _ K3=>?_
 refine B_N (⟨[(0,aGF f),(3,aEx (.pointer (some ⟨b3_1,0,none⟩))),(23,aBool (decide (((m.cols<0)\/(256<m.cols))\/(256<(↑m.rows.length:Int)))))],[oBox b3_1 107 [aInt m.cols,aSl 1 false aInts m.rows]]⟩) ?_ ?_
 ·refine A_F <|A_A rfl (A_B runUnderlying107 rfl sizeOf3 (by decide) rfl) <|A_A rfl (A_K (k:=0) isAgg3 rfl rfl rfl) <|A_A rfl (A_m rfl rfl) <|emm rfl ?_
  refine A_6 rfl rfl rfl rfl (fun hg13=>?_) (fun hg13=>?_)
  ·refine A_A rfl (A_B runUnderlying107 rfl sizeOf3 (by decide) rfl) <|A_M rfl rfl rfl rfl (d_F hg13) <|A_A rfl (A_K (k:=0) isAgg3 rfl rfl rfl) <|A_M rfl rfl rfl rfl (d_F hg13) <|A_A rfl (C_M rfl rfl) <|A_A rfl (A_3 rfl (d_F hg13) rfl) <|emm rfl ?_
   refine A_6 rfl rfl rfl rfl (fun hg18=>?_) (fun hg18=>?_)
   ·refine A_A rfl (A_B runUnderlying107 rfl sizeOf65 (by decide) rfl) <|A_M rfl rfl rfl rfl (d_F hg18) <|A_A rfl (A_K (k:=0) isAgg65 rfl rfl rfl) <|A_M rfl rfl rfl rfl (d_F hg18) <|A_A rfl (A_5 rfl runUnderlying65 rfl) <|A_M rfl rfl rfl rfl (d_F hg18) <|A_A rfl (C_M rfl rfl) <|A_A rfl (A_3 rfl (d_F hg18) rfl) <|A_O ?_
    exact A_J ⟨rfl,rfl,A_a (dq_Q ((or_iff_right (fun h=>h.elim hg13 hg18)).trans Iff.rfl)),trivial⟩ rfl
   refine A_E rfl rfl rfl rfl (d_T hg18) <|A_E rfl rfl rfl rfl (d_T hg18) <|A_E rfl rfl rfl rfl (d_T hg18) <|A_A rfl (A_q rfl (d_T hg18) rfl) <|A_O ?_
   exact A_J ⟨rfl,rfl,A_a (dq_T rfl (Or.inl (Or.inr hg18))),trivial⟩ rfl
  refine A_E rfl rfl rfl rfl (d_T hg13) <|A_E rfl rfl rfl rfl (d_T hg13) <|A_A rfl (A_q rfl (d_T hg13) rfl) <|emm rfl <|A_E rfl rfl rfl rfl rfl <|A_E rfl rfl rfl rfl rfl <|A_E rfl rfl rfl rfl rfl <|A_E rfl rfl rfl rfl rfl <|A_A rfl (A_q rfl rfl rfl) <|A_O ?_
  exact A_J ⟨rfl,rfl,A_a (dq_T rfl (Or.inl (Or.inl hg13))),trivial⟩ rfl
 refine A_1 K3 ?_
 refine A_H rfl (fun h23=>?_) (fun h23=>?_)
 ·refine esk rfl <|A_R ?_
  exact retR1 (.inr rfl) results120 (A_L (A_U rfl (A_b (by exact (matErr_shape h23).symm))))
 refine esp K2 <|A_C fun _ K5=>esr rfl fun _ K6=>A_A rfl (A_B runUnderlying107 rfl sizeOf65 (by decide) rfl) <|A_A rfl (A_K (k:=0) isAgg65 rfl rfl rfl) <|A_A rfl (A_5 rfl runUnderlying65 rfl) <|emm rfl <|enk K6 <|A_I <|A_Y (fun (i:Int)=>(⟨[(0,aGF f),(3,aEx (.pointer (some ⟨b3_1,0,none⟩))),(25,aSl 1 false aInts m.rows),(26,aInt (↑m.rows.length:Int)),(27,aInt i)],[oBox b3_1 107 [aInt m.cols,aSl 1 false aInts m.rows]]⟩:St)) (fun (i:Int)=>(0<=i)/\(i<=m.rows.length)/\(∀l∈m.rows.take i.toNat,(l.length:Int)=m.cols)) (fun (i:Int)=>(m.rows.length-i).toNat) 0 ⟨(by omega),(by omega),(by simp)⟩ (A_J ⟨rfl,rfl,rfl,rfl,A_Q (A_k (show 0=(0:Int) by rfl)),trivial⟩ rfl) ?_
 rintro i ⟨h0,h1,hn⟩
 show Ent _ ⟨_,[_]⟩ _
 refine esr rfl fun _ K7=>A_A rfl (A_m rfl rfl) <|enk K7 <|A_C fun _ K8=>?_
 refine A_H rfl (fun h28=>?_) (fun h28=>?_)
 ·refine esp K8 <|A_C fun _ K9=>A_I <|esr rfl fun _ K10=>A_A rfl (A_W [] sl65 rfl rfl) <|A_A rfl (A_P ti29 rfl) <|emm rfl <|enk K10 <|esr rfl fun _ K11=>A_A rfl (A_5 rfl runUnderlying29 rfl) <|A_A rfl (A_B runUnderlying107 rfl sizeOf3 (by decide) rfl) <|A_A rfl (A_K (k:=0) isAgg3 rfl rfl rfl) <|A_A rfl (B_B rfl rfl) <|enk K11 ?_
  refine A_H rfl (fun h35=>?_) (fun h35=>?_)
  ·refine esk rfl <|A_R ?_
   exact retR1 (.inr rfl) results120 (A_L (A_U rfl (A_b (by exact (matErr_rag (ragged_at h0 h28 h35)).symm))))
  refine esp K9 <|A_F <|A_A rfl (A_g rfl rfl) <|emm rfl <|A_O ?_
  refine A_T (s:=(i)) (i+1) ⟨(by omega),‹_›,(D_V [] h0 h28 hn (n_N h35))⟩ (by omega) (A_J ⟨rfl,rfl,rfl,rfl,rfl,trivial⟩ rfl)
 refine A_Z <|A_1 K5 <|A_C fun _ K13=>esr rfl fun _ K14=>A_A rfl (A_B runUnderlying107 rfl sizeOf65 (by decide) rfl) <|A_A rfl (A_K (k:=0) isAgg65 rfl rfl rfl) <|A_A rfl (A_5 rfl runUnderlying65 rfl) <|emm rfl <|enk K14 <|A_I <|A_Y (fun (j:Int)=>(⟨[(0,aGF f),(38,aSl 1 false aInts m.rows),(39,aInt (↑m.rows.length:Int)),(40,aInt j)],[oBox b3_1 107 [aInt m.cols,aSl 1 false aInts m.rows]]⟩:St)) (fun (j:Int)=>(0<=j)/\(j<=m.rows.length)/\(∀l∈m.rows.take j.toNat,entErr f l=0)) (fun (j:Int)=>(m.rows.length-j).toNat) 0 ⟨(by omega),(by omega),(by simp)⟩ (A_J ⟨rfl,rfl,rfl,A_Q (A_k (show 0=(0:Int) by rfl)),trivial⟩ rfl) ?_
 rintro j ⟨k0,k1,kn⟩
 show Ent _ ⟨_,[_]⟩ _
 refine esr rfl fun _ K15=>A_A rfl (A_m rfl rfl) <|enk K15 <|A_C fun _ K16=>?_
 refine A_H rfl (fun h41=>?_) (fun h41=>?_)
 ·refine esp K16 <|A_C fun _ K17=>A_I <|esr rfl fun _ K18=>A_A rfl (A_W [] sl65 rfl rfl) <|A_A rfl (A_P ti29 rfl) <|emm rfl <|enk K18 <|esr rfl fun _ K19=>A_A rfl (A_X (entries_ok f (ix [] m.rows j)) rfl) <|emm rfl <|enk K19 <|esr rfl fun _ K20=>A_A rfl (B_B rfl rfl) <|enk K20 ?_
  refine A_H rfl (fun h48=>?_) (fun h48=>?_)
  ·refine esk rfl <|A_R ?_
   exact retR1 (.inr rfl) results120 (A_L (A_U rfl (A_b (by rw [entErr_two h48];exact (matErr_row h23 (not_ragged (take_all (by omega) hn)) (badRow_at k0 h41 h48)).symm))))
  refine esp K17 <|A_F <|A_A rfl (A_g rfl rfl) <|emm rfl <|A_O ?_
  refine A_T (s:=(j)) (j+1) ⟨(by omega),‹_›,(D_V [] k0 h41 kn (n_N h48))⟩ (by omega) (A_J ⟨rfl,rfl,rfl,rfl,trivial⟩ rfl)
 refine A_Z <|A_1 K13 <|esk rfl <|A_R ?_
 exact retR1 (.inr rfl) results120 (A_L (A_U rfl (A_b (by exact (D_l.2 ⟨h23,not_ragged (take_all (by omega) hn),not_badRow (take_all (by omega) kn)⟩).symm))))

theorem open_ok (f:Fld) (l:List Mat) (hF:FOk f) (hl:∀m∈l,matErr f m=0) (hn:l.length<=1000):Ctr Try.prog 94 [aFld f,aSl 2 true aMat l] (aTup [aGF f,aInt 0]):=by
 refine B_E Try.call94 func94 rfl rfl ?_
 intro w O
 refine A_l 0 2 rfl rfl fun hlen0_2=>B_D 1 rfl fun hlen1=>esr rfl fun _ K1=>A_w rfl rfl (AllOne.mem ⟨(A_N _),(A_N _),A_j,trivial⟩) fun b2_1=>emm rfl <|enk K1 <|esr rfl fun _ K2=>A_A rfl (A_S (k:=0) ti51 rfl rfl rfl) <|A_A rfl (A_X (CtrF.ctr (New_ok f hF)) rfl) <|emm rfl <|A_A rfl (A_V rfl rfl) <|A_A rfl (A_V rfl rfl) <|emm rfl <|enk K2 <|A_C fun _ K3=>esr rfl fun _ K4=>A_A rfl (B_B rfl rfl) <|enk K4 <|C_4 rfl (by decide) <|esp K3 <|A_C fun _ K5=>esr rfl fun _ K6=>A_A rfl (A_5 rfl runUnderlying152 rfl) <|emm rfl <|enk K6 <|A_I <|A_Y (fun (i:Int)=>(⟨[(6,aGF f),(18,aSl 2 true aMat l),(19,aInt (↑l.length:Int)),(20,aInt i)],[oBox b2_1 51 [aInt f.P,aInt f.M,aSl 1 false aInt f.mod]]⟩:St)) (fun (i:Int)=>(0<=i)/\(i<=l.length)) (fun (i:Int)=>(l.length-i).toNat) 0 ⟨(by omega),(by omega)⟩ (A_J ⟨rfl,rfl,rfl,A_Q (A_k (show 0=(0:Int) by rfl)),trivial⟩ rfl) ?_
 rintro i ⟨h0,h1⟩
 show Ent _ ⟨_,[_]⟩ _
 refine esr rfl fun _ K7=>A_A rfl (A_m rfl rfl) <|enk K7 <|A_C fun _ K8=>?_
 refine A_H rfl (fun h21=>?_) (fun h21=>?_)
 ·have hi:=hl _ (B_i Mat.no l h0 h21)
  refine esp K8 <|A_C fun _ K9=>A_I <|esr rfl fun _ K10=>A_A rfl (A_W Mat.no sl152 rfl rfl) <|A_A rfl (A_P ti107 rfl) <|B_V (z:=.agg #[.int .i64 0,.slice none 0 0]) [aInt 0,aEx (.slice none 0 0)] rfl zv107 rfl zc107 fun b9_2=>A_2 (k:=0) sizeOf107 rfl rfl rfl (AllOne.mem ⟨(A_N _),A_j,trivial⟩) rfl rfl ?_
  show Ent _ ⟨_,[_,_]⟩ _
  refine enk K10 <|esr rfl fun _ K11=>A_A rfl (A_S (k:=0) ti107 rfl rfl rfl) <|A_A rfl (A_X (mcheck_ok f (ix Mat.no l i)) rfl) <|emm rfl <|enk K11 <|esr rfl fun _ K12=>A_A rfl (B_B rfl rfl) <|enk K12 ?_
  refine A_H rfl (fun h28=>?_) (fun h28=>?_)
  ·exact absurd hi h28
  refine esp K9 <|A_F <|A_A rfl (A_g rfl rfl) <|emm rfl <|A_O <|C_B 0 ?_
  refine A_T (s:=(i)) (i+1) ⟨(by omega),‹_›⟩ (by omega) (A_J ⟨rfl,rfl,rfl,rfl,trivial⟩ rfl)
 refine A_Z <|A_1 K5 <|esk rfl <|A_R ?_
 exact retR2 (.inr rfl) results94 (A_L (A_U rfl (A_y F_G))) (A_L (A_U rfl (A_b rfl)))

theorem mMul_ok (f:Fld) (a b:Mat) (hF:FOk f) (ha:matErr f a=0) (hb:matErr f b=0) (hm:a.cols=b.rows.length):Ctr Try.prog 65 [aFld f,aMat a,aMat b] (aTup [aMat (mulM f a b),aInt 0]):=by
 have sa:=C_N ha
 have sb:=C_N hb
 refine B_E Try.call65 func65 rfl rfl ?_
 intro w O
 refine A_l 0 2 rfl rfl fun hlen0_2=>A_l 1 1 rfl rfl fun hlen1_1=>A_l 2 1 rfl rfl fun hlen2_1=>esr rfl fun _ K1=>A_w rfl rfl (AllOne.mem ⟨(A_N _),(A_N _),A_j,trivial⟩) fun b3_1=>A_w rfl rfl (AllOne.mem ⟨(A_N _),A_j,trivial⟩) fun b4_2=>A_w rfl rfl (AllOne.mem ⟨(A_N _),A_j,trivial⟩) fun b5_3=>B_V (z:=.agg #[.int .i64 0,.slice none 0 0]) [aInt 0,aEx (.slice none 0 0)] rfl zv107 rfl zc107 fun b6_4=>emm rfl <|enk K1 <|esr rfl fun _ K2=>A_A rfl (A_S (k:=3) ti51 rfl rfl rfl) <|A_A rfl (A_S (k:=2) ti107 rfl rfl rfl) <|A_A rfl (A_S (k:=1) ti107 rfl rfl rfl) <|A_A rfl (ok_build2 (enc:=aMat) (y1:=(⟨a.cols,a.rows⟩:Mat)) (y2:=(⟨b.cols,b.rows⟩:Mat)) vt152 (by decide) rfl rfl (D_y (AllOne.mem ⟨(A_N _),A_j,trivial⟩)) (D_y (AllOne.mem ⟨(A_N _),A_j,trivial⟩)) (by decide)) <|A_A rfl (A_X (open_ok f [(⟨a.cols,a.rows⟩:Mat),(⟨b.cols,b.rows⟩:Mat)] ‹_› (by intro m hm;simp only [List.mem_cons,List.not_mem_nil,or_false] at hm;rcases hm with rfl | rfl <;> assumption) (by simp)) rfl) <|emm rfl <|A_A rfl (A_V rfl rfl) <|A_A rfl (A_V rfl rfl) <|emm rfl <|enk K2 <|A_C fun _ K3=>esr rfl fun _ K4=>A_A rfl (B_B rfl rfl) <|enk K4 <|C_4 rfl (by decide) <|esp K3 <|A_C fun _ K5=>esr rfl fun _ K6=>A_A rfl (A_B runUnderlying107 rfl sizeOf3 (by decide) rfl) ?_
 refine A_A rfl (A_K (k:=2) isAgg3 rfl rfl rfl) <|A_A rfl (A_B runUnderlying107 rfl sizeOf65 (by decide) rfl) <|A_A rfl (A_K (k:=1) isAgg65 rfl rfl rfl) <|A_A rfl (A_5 rfl runUnderlying65 rfl) <|A_A rfl (B_B rfl rfl) <|enk K6 ?_
 refine A_H rfl (fun h30=>?_) (fun h30=>?_)
 ·exact absurd hm h30
 refine esp K5 <|esr rfl fun _ K7=>A_A rfl (A_B runUnderlying107 rfl sizeOf3 (by decide) rfl) <|A_A rfl (A_K (k:=1) isAgg3 rfl rfl rfl) <|A_A rfl (B_y st107 (As:=[aInt 0,aEx (.slice none 0 0)]) z107 (⟨0,1,rfl,.inl ⟨rfl,_,rfl,(A_N _),rfl,rfl⟩⟩)) <|B_V (z:=.agg #[.int .i64 0,.slice none 0 0]) [aInt 0,aEx (.slice none 0 0)] rfl zv107 rfl zc107 fun b10_5=>A_2 (k:=0) sizeOf107 rfl rfl rfl (AllOne.mem ⟨(A_N _),(B_b rfl),trivial⟩) rfl rfl ?_
 show Ent _ ⟨_,[_,_,_,_,_]⟩ _
 refine enk K7 <|A_C fun _ K8=>esr rfl fun _ K9=>A_A rfl (A_B runUnderlying107 rfl sizeOf65 (by decide) rfl) <|A_A rfl (A_K (k:=3) isAgg65 rfl rfl rfl) <|A_A rfl (A_5 rfl runUnderlying65 rfl) <|emm rfl <|enk K9 <|A_I <|B_U 29 1 false aInts (fun _=>rfl) <|A_Y (fun (ss:Int×Option Nat×Nat)=>match ss with | (i,rr7,cc7)=>(⟨[(5,aEx (.pointer (some ⟨b5_3,0,none⟩))),(6,aEx (.pointer (some ⟨b6_4,0,none⟩))),(8,aGF f),(10,aEx (.pointer (some ⟨b10_5,0,none⟩))),(36,aSl 1 false aInts a.rows),(37,aInt (↑a.rows.length:Int)),(38,aInt i)],[oVec rr7 cc7 29 1 false aInts (mapT (fun row=>comb f row b.rows b.cols) a.rows i),oBox b10_5 107 [aInt b.cols,aEx (vec rr7 ((mapT (fun row=>comb f row b.rows b.cols) a.rows i).length) cc7)],oBox b6_4 107 [aInt 0,aEx (.slice none 0 0)],oBox b5_3 107 [aInt b.cols,aSl 1 false aInts b.rows],oBox b4_2 107 [aInt a.cols,aSl 1 false aInts a.rows],oBox b3_1 51 [aInt f.P,aInt f.M,aSl 1 false aInt f.mod]]⟩:St)) (fun (ss:Int×Option Nat×Nat)=>match ss with | (i,rr7,cc7)=>(0<=i)/\(i<=a.rows.length)) (fun (ss:Int×Option Nat×Nat)=>match ss with | (i,rr7,cc7)=>(a.rows.length-i).toNat) (0,none,0) ⟨(by omega),(by omega)⟩ (A_J ⟨rfl,rfl,rfl,rfl,rfl,rfl,A_Q (A_k (show 0=(0:Int) by rfl)),trivial⟩ (A_G (A_e (show mapT (fun row=>comb f row b.rows b.cols) a.rows (0:Int) = [] by rfl)) (A_G (C_Y (B_S rfl (B_S (rfl) (rfl)))) (rfl)))) ?_
 rintro ⟨i,rr7,cc7⟩ ⟨h0,h1⟩
 show Ent _ ⟨_,[_,_,_,_,_,_]⟩ _
 have lf:=D_n (fun row=>comb f row b.rows b.cols) a.rows (i:=i) (by omega)
 refine esr rfl fun _ K10=>A_A rfl (A_m rfl rfl) <|enk K10 <|A_C fun _ K11=>?_
 refine A_H rfl (fun h39=>?_) (fun h39=>?_)
 ·refine esp K11 <|A_C fun _ K12=>A_I <|esr rfl fun _ K13=>A_A rfl (A_W [] sl65 rfl rfl) <|A_A rfl (A_P ti29 rfl) <|emm rfl <|enk K13 <|A_u 10 mixed (by kernel_rfl) (by kernel_rfl) (by kernel_rfl) <|dw_o rfl (A_B runUnderlying107 rfl sizeOf65 (by decide) rfl) <|dw_o rfl (A_K (k:=1) isAgg65 rfl rfl rfl) <|dw_o rfl (A_D rfl) <|dw_o rfl (A_D rfl) <|dw_o rfl (A_B runUnderlying107 rfl sizeOf65 (by decide) rfl) <|dw_o rfl (A_K (k:=3) isAgg65 rfl rfl rfl) <|dw_o rfl (A_B runUnderlying107 rfl sizeOf3 (by decide) rfl) <|dw_o rfl (A_K (k:=3) isAgg3 rfl rfl rfl) <|dw_o rfl (A_X (CtrF.ctr (CtrF.sl (vec_ok f (ix [] a.rows i) b.rows b.cols ‹_› (by omega) (by omega) (by have:=F_J ha h0 h39;omega) (fun i i0 i1=>F_J hb i0 i1)))) rfl) <|dw_o rfl (C_Z (enc:=aInts) (y:=comb f (ix [] a.rows i) b.rows b.cols) vt65 rfl (A_n A_j)) <|A_9 <|B_P (k:=0) rfl vt65 rfl rfl rfl rfl (A_y A_h) (by simp only [l_A,List.length_cons,List.length_nil];omega) (by simp only [l_A,List.length_cons,List.length_nil];omega) fun r52_7 cr52_7=>A_A rfl (A_B runUnderlying107 rfl sizeOf65 (by decide) rfl) <|B_3 (k:=1) sizeOf65 rfl rfl rfl (B_b rfl) rfl <|enk K12 <|A_F <|A_A rfl (A_g rfl rfl) <|emm rfl <|A_O ?_
  refine A_T (s:=(i,rr7,cc7)) (i+1,r52_7,cr52_7) ⟨(by omega),‹_›⟩ (by dsimp only;omega) (A_J ⟨rfl,rfl,rfl,rfl,rfl,rfl,rfl,trivial⟩ (A_G (A_e (show mapT (fun row=>comb f row b.rows b.cols) a.rows (i+1)=(mapT (fun row=>comb f row b.rows b.cols) a.rows i)++[comb f (ix [] a.rows i) b.rows b.cols] by exact C_q [] _ a.rows h0 h39)) (A_G (C_Y (B_S rfl (B_S (B_J (congrArg List.length (show mapT (fun row=>comb f row b.rows b.cols) a.rows (i+1)=(mapT (fun row=>comb f row b.rows b.cols) a.rows i)++[comb f (ix [] a.rows i) b.rows b.cols] by exact C_q [] _ a.rows h0 h39))) (rfl)))) (rfl))))
 refine A_Z <|A_1 K8 <|esr rfl fun _ K14=>A_A rfl (A_S (k:=1) ti107 rfl rfl rfl) <|A_2 (k:=2) sizeOf107 rfl rfl rfl (AllOne.mem ⟨(A_N _),(B_b rfl),trivial⟩) rfl rfl ?_
 show Ent _ ⟨_,[_,_,_,_,_,_]⟩ _
 refine emm rfl <|enk K14 <|A_R ?_
 exact retR2 (.inr rfl) results65 (C_E (k:=2) ti107 rfl rfl rfl (B_9 ⟨A_b rfl,B_g (k:=0) (D_3 rfl) rfl (by rw [F_t _ _ (by omega)];rfl),trivial⟩)) (A_L (A_U rfl (A_b rfl)))

theorem rAddTo_ok (f:Fld) (v:List Int) (a:Int) (u:List Int) (hS:Shape f) (hl:v.length<=u.length) (hv:v.length<=100000):CtrF Try.prog 39 [aFld f,aSl 1 false aInt v,aInt a,aSl 1 false aInt u] (aVec 3 1 false aInt (addTo f v a u)):=by
 refine C_x Try.call39 func39 rfl rfl ?_
 intro w O
 refine A_l 0 2 rfl rfl fun hlen0_2=>B_D 1 rfl fun hlen1=>B_D 3 rfl fun hlen3=>esr rfl fun _ K1=>A_w rfl rfl (AllOne.mem ⟨(A_N _),(A_N _),A_j,trivial⟩) fun b4_1=>emm rfl <|enk K1 <|esr rfl fun _ K2=>A_A rfl (A_5 rfl runUnderlying29 rfl) <|B_1 aInt 0 rfl vt29 rfl rfl (by omega) (by omega) (by omega) (fun _ _=>rfl) (AllV.mem ⟨rfl,trivial⟩) fun b13_2=>emm rfl <|enk K2 <|A_C fun _ K3=>esk rfl <|A_I <|A_Y (fun (i:Int)=>(⟨[(1,aSl 1 false aInt v),(2,aInt a),(3,aSl 1 false aInt u),(4,aEx (.pointer (some ⟨b4_1,0,none⟩))),(9,aEx (vec (some b13_2) (((↑v.length:Int)).toNat) (((↑v.length:Int)).toNat))),(10,aInt i)],[oVec (some b13_2) (((↑v.length:Int)).toNat) 3 1 false aInt (mixL (addTo f v a u) (List.replicate v.length 0) i),oBox b4_1 51 [aInt f.P,aInt f.M,aSl 1 false aInt f.mod]]⟩:St)) (fun (i:Int)=>(0<=i)/\(i<=v.length)) (fun (i:Int)=>(v.length-i).toNat) 0 ⟨(by omega),(by omega)⟩ (A_J ⟨rfl,rfl,rfl,rfl,rfl,A_Q (A_k (show 0=(0:Int) by rfl)),trivial⟩ (A_G (A_e (show mixL (addTo f v a u) (List.replicate v.length 0) (0:Int)=List.replicate (((↑v.length:Int)).toNat) 0 by exact D_M _ _)) (rfl))) ?_
 rintro i ⟨h0,h1⟩
 show Ent _ ⟨_,[_,_]⟩ _
 have lm:(mixL (addTo f v a u) (List.replicate v.length 0) i).length=v.length:=by rw [B_6 _ _ (by simp)];simp
 have lm2:((mixL (addTo f v a u) (List.replicate v.length 0) i).set i.toNat (ix 0 v i)).length=v.length:=by rw [l_S];exact lm
 refine A_C fun _ K5=>esr rfl fun _ K6=>A_A rfl (A_5 rfl runUnderlying29 rfl) <|A_A rfl (A_m rfl rfl) <|enk K6 ?_
 refine A_H rfl (fun h17=>?_) (fun h17=>?_)
 ·refine esp K5 <|A_C fun _ K7=>A_I <|esr rfl fun _ K8=>A_A rfl (A_W 0 sl29 rfl rfl) <|A_A rfl (A_P ti3 rfl) <|A_A rfl (A_s sl29 rfl rfl) <|B_C (k:=0) (z:=ix 0 v i) ti3 rfl rfl rfl (A_n (A_N _)) (by omega) (by omega) <|enk K8 <|esr rfl fun _ K9=>A_A rfl (A_W 0 sl29 rfl rfl) <|A_A rfl (A_P ti3 rfl) <|A_A rfl (B_B rfl rfl) <|enk K9 ?_
  refine A_H rfl (fun h31=>?_) (fun h31=>?_)
  ·refine A_u 16 mixed (by kernel_rfl) (by kernel_rfl) (by kernel_rfl) <|dw_o rfl (A_D rfl) <|dw_o rfl (A_D rfl) <|dw_o rfl (A_S (k:=1) ti51 rfl rfl rfl) <|dw_o rfl (A_D rfl) <|dw_o rfl (A_D rfl) <|dw_o rfl (A_W 0 sl29 rfl rfl) <|dw_o rfl (A_P ti3 rfl) <|dw_o rfl (A_S (k:=1) ti51 rfl rfl rfl) <|dw_o rfl (A_D rfl) <|dw_o rfl (A_D rfl) <|dw_o rfl (A_D rfl) <|dw_o rfl (A_W 0 sl29 rfl rfl) <|dw_o rfl (A_P ti3 rfl) <|dw_o rfl (A_X (rMul_ok f a (ix 0 u i) ‹_›) rfl) <|dw_o rfl (A_X (rAdd_ok f (ix 0 v i) (mulF f a (ix 0 u i)) ‹_›) rfl) <|dw_o rfl (A_s sl29 rfl rfl) <|A_9 <|B_C (k:=0) (z:=addF f (ix 0 v i) (mulF f a (ix 0 u i))) ti3 rfl rfl rfl (A_n (A_N _)) (by omega) (by omega) <|enk K7 <|A_F <|emm rfl <|A_A rfl (A_g rfl rfl) <|emm rfl <|A_O ?_
   refine A_T (s:=(i)) (i+1) ⟨(by omega),‹_›⟩ (by omega) (A_J ⟨rfl,rfl,rfl,rfl,rfl,rfl,trivial⟩ (A_G (A_e (show mixL (addTo f v a u) (List.replicate v.length 0) (i+1)=List.set (List.set (mixL (addTo f v a u) (List.replicate v.length 0) i) (i).toNat (ix 0 v i)) (i).toNat (addF f (ix 0 v i) (mulF f a (ix 0 u i))) by exact addTo_set0 f v a u h0 h17 h31)) (rfl)))
  refine esp K7 <|A_F <|emm rfl <|A_A rfl (A_g rfl rfl) <|emm rfl <|A_O ?_
  refine A_T (s:=(i)) (i+1) ⟨(by omega),‹_›⟩ (by omega) (A_J ⟨rfl,rfl,rfl,rfl,rfl,rfl,trivial⟩ (A_G (A_e (show mixL (addTo f v a u) (List.replicate v.length 0) (i+1)=List.set (mixL (addTo f v a u) (List.replicate v.length 0) i) (i).toNat (ix 0 v i) by exact addTo_stay0 f v a u h0 h17 (n_N h31))) (rfl)))
 refine A_Z <|A_1 K3 <|esk rfl <|A_R ?_
 exact retR1 (.inr rfl) results39 (A_L (A_U rfl (C_7 (k:=0) B_j rfl rfl (by simp_all) (by rw [D_X _ _ (by simp;omega) (by simp;omega)]))))

theorem rCombine_ok (f:Fld) (x:List Int) (rows:List (List Int)) (cols:Int) (hS:Shape f) (hc0:0<=cols) (hc1:cols<=1000) (hr:∀i:Int,0<=i->i<rows.length->((ix [] rows i).length:Int)=cols):Ctr Try.prog 69 [aFld f,aSl 1 false aInt x,aSl 1 false aInts rows,aInt cols] (aSl 1 false aInt (comb f x rows cols)):=by
 refine B_E Try.call69 func69 rfl rfl ?_
 intro w O
 refine A_l 0 2 rfl rfl fun hlen0_2=>B_D 1 rfl fun hlen1=>B_D 2 rfl fun hlen2=>esr rfl fun _ K1=>A_w rfl rfl (AllOne.mem ⟨(A_N _),(A_N _),A_j,trivial⟩) fun b4_1=>emm rfl <|enk K1 <|esr rfl fun _ K2=>B_1 aInt 0 rfl vt29 rfl rfl (by omega) (by omega) (by omega) (fun _ _=>rfl) (AllV.mem ⟨rfl,trivial⟩) fun b12_2=>emm rfl <|enk K2 <|A_C fun _ K3=>A_C fun _ K4=>B_t 0 9 rfl (B_g (k:=0) (B_h rfl) (by simp) rfl) <|A_F <|emm rfl <|enk K4 <|A_I <|A_Y (fun (i:Int)=>(⟨[(1,aSl 1 false aInt x),(2,aSl 1 false aInts rows),(4,aEx (.pointer (some ⟨b4_1,0,none⟩))),(9,aSl 1 false aInt (combTo f x rows cols i.toNat)),(10,aInt i)],[oBox b4_1 51 [aInt f.P,aInt f.M,aSl 1 false aInt f.mod]]⟩:St)) (fun (i:Int)=>(0<=i)/\(i<=rows.length)/\(i<=x.length)) (fun (i:Int)=>(rows.length-i).toNat) 0 ⟨(by omega),(by omega),(by omega)⟩ (A_J ⟨rfl,rfl,rfl,A_Q (F_6 (show List.replicate ((cols).toNat) 0=combTo f x rows cols (0:Int).toNat by rfl)),A_Q (A_k (show 0=(0:Int) by rfl)),trivial⟩ rfl) ?_
 rintro i ⟨h0,h1,h2⟩
 show Ent _ ⟨_,[_]⟩ _
 refine A_C fun _ K5=>A_C fun _ K6=>?_
 refine B_N (⟨[(1,aSl 1 false aInt x),(2,aSl 1 false aInts rows),(4,aEx (.pointer (some ⟨b4_1,0,none⟩))),(9,aSl 1 false aInt (combTo f x rows cols i.toNat)),(10,aInt i),(22,aBool (decide ((i<(↑rows.length:Int))/\(i<(↑x.length:Int)))))],[oBox b4_1 51 [aInt f.P,aInt f.M,aSl 1 false aInt f.mod]]⟩) ?_ ?_
 ·refine A_F <|emm rfl <|A_A rfl (A_5 rfl runUnderlying65 rfl) <|A_A rfl (A_m rfl rfl) <|emm rfl ?_
  refine B_I rfl rfl rfl rfl (fun hg17=>?_) (fun hg17=>?_)
  ·refine emm rfl <|A_M rfl rfl rfl rfl (d_T hg17) <|emm rfl <|A_M rfl rfl rfl rfl (d_T hg17) <|A_A rfl (A_5 rfl runUnderlying29 rfl) <|A_M rfl rfl rfl rfl (d_T hg17) <|A_A rfl (A_m rfl rfl) <|A_A rfl (A_q rfl (d_T hg17) rfl) <|A_O ?_
   exact A_J ⟨rfl,rfl,rfl,rfl,rfl,A_a (dq_Q ((and_iff_right hg17).trans Iff.rfl)),trivial⟩ rfl
  refine A_E rfl rfl rfl rfl (d_F hg17) <|A_E rfl rfl rfl rfl (d_F hg17) <|A_E rfl rfl rfl rfl (d_F hg17) <|A_A rfl (A_3 rfl (d_F hg17) rfl) <|A_O ?_
  exact A_J ⟨rfl,rfl,rfl,rfl,rfl,A_a (dq_F rfl (fun h=>hg17 h.1)),trivial⟩ rfl
 refine A_1 K6 ?_
 refine A_H rfl (fun h22=>?_) (fun h22=>?_)
 ·refine esp K5 <|A_C fun _ K7=>A_I <|esr rfl fun _ K8=>A_A rfl (A_W 0 sl29 rfl rfl) <|A_A rfl (A_P ti3 rfl) <|A_A rfl (B_B rfl rfl) <|enk K8 ?_
  refine A_H rfl (fun h29=>?_) (fun h29=>?_)
  ·refine A_u 12 mixed (by kernel_rfl) (by kernel_rfl) (by kernel_rfl) <|dw_o rfl (A_S (k:=0) ti51 rfl rfl rfl) <|dw_o rfl (A_D rfl) <|dw_o rfl (A_D rfl) <|dw_o rfl (A_D rfl) <|dw_o rfl (A_W 0 sl29 rfl rfl) <|dw_o rfl (A_P ti3 rfl) <|dw_o rfl (A_D rfl) <|dw_o rfl (A_D rfl) <|dw_o rfl (A_W [] sl65 rfl rfl) <|dw_o rfl (A_P ti29 rfl) <|dw_o rfl (A_X (CtrF.ctr (CtrF.sl (rAddTo_ok f (combTo f x rows cols i.toNat) (ix 0 x i) (ix [] rows i) ‹_› (by have:=hr i h0 (by omega);rw [C_T];omega) (by rw [C_T];omega)))) rfl) <|dw_o rfl (B_H rfl) <|A_9 <|enk K7 <|A_F <|emm rfl <|A_A rfl (A_g rfl rfl) <|emm rfl <|A_O ?_
   refine A_T (s:=(i)) (i+1) ⟨(by omega),(by omega),(by omega)⟩ (by omega) (A_J ⟨rfl,rfl,rfl,A_Q (F_6 (show addTo f (combTo f x rows cols i.toNat) (ix 0 x i) (ix [] rows i)=combTo f x rows cols (i+1).toNat by exact combTo_step f x rows cols h0 h29)),rfl,trivial⟩ rfl)
  refine esp K7 <|A_F <|emm rfl <|A_A rfl (A_g rfl rfl) <|emm rfl <|A_O ?_
  refine A_T (s:=(i)) (i+1) ⟨(by omega),(by omega),(by omega)⟩ (by omega) (A_J ⟨rfl,rfl,rfl,A_Q (F_6 (show combTo f x rows cols i.toNat=combTo f x rows cols (i+1).toNat by exact combTo_stay f x rows cols h0 (n_N h29))),rfl,trivial⟩ rfl)
 refine A_Z <|A_1 K3 <|esk rfl <|A_R ?_
 exact retR1 (.inr rfl) results69 (A_L (A_U rfl (C_r F_G (by unfold comb;congr 1;omega))))

theorem SameInts_ok (a b:List Int)  : Ctr Try.prog 40 [aSl 1 false aInt a,aSl 1 false aInt b] (aBool (decide (a=b))):=by
 refine B_E Try.call40 func40 rfl rfl ?_
 intro w O
 refine B_D 0 rfl fun hlen0=>B_D 1 rfl fun hlen1=>esk rfl <|A_C fun _ K2=>esr rfl fun _ K3=>A_A rfl (A_5 rfl runUnderlying29 rfl) <|emm rfl <|A_A rfl (A_5 rfl runUnderlying29 rfl) <|A_A rfl (B_B rfl rfl) <|enk K3 ?_
 refine A_H rfl (fun h10=>?_) (fun h10=>?_)
 ·refine esk rfl <|A_R ?_
  exact retR1 (.inr rfl) results40 (A_L (A_U rfl (B_r (by exact (d_F (fun h=>h10 (by rw [h]))).symm))))
 refine esp K2 <|A_C fun _ K5=>esk rfl <|A_I <|A_Y (fun (i:Int)=>(⟨[(0,aSl 1 false aInt a),(1,aSl 1 false aInt b),(5,aInt i)],[]⟩:St)) (fun (i:Int)=>(0<=i)/\(i<=a.length)/\(∀j:Int,0<=j->j<i->ix 0 a j=ix 0 b j)) (fun (i:Int)=>(a.length-i).toNat) 0 ⟨(by omega),(by omega),(fun j j0 j1=>by omega)⟩ (A_J ⟨rfl,rfl,A_Q (A_k (show 0=(0:Int) by rfl)),trivial⟩ rfl) ?_
 rintro i ⟨h0,h1,hn⟩
 show Ent _ ⟨_,[]⟩ _
 refine A_C fun _ K7=>esr rfl fun _ K8=>A_A rfl (A_5 rfl runUnderlying29 rfl) <|A_A rfl (A_m rfl rfl) <|enk K8 ?_
 refine A_H rfl (fun h14=>?_) (fun h14=>?_)
 ·refine esp K7 <|A_C fun _ K9=>A_I <|A_C fun _ K10=>A_u 9 mixed (by kernel_rfl) (by kernel_rfl) (by kernel_rfl) <|dw_o rfl (A_D rfl) <|dw_o rfl (A_D rfl) <|dw_o rfl (A_W 0 sl29 rfl rfl) <|dw_o rfl (A_P ti3 rfl) <|dw_o rfl (A_D rfl) <|dw_o rfl (A_D rfl) <|dw_o rfl (A_W 0 sl29 rfl rfl) <|dw_o rfl (A_P ti3 rfl) <|dw_o rfl (B_B rfl rfl) <|A_9 <|enk K10 ?_
  refine A_H rfl (fun h25=>?_) (fun h25=>?_)
  ·refine esk rfl <|A_R ?_
   exact retR1 (.inr rfl) results40 (A_L (A_U rfl (B_r (by exact (d_F (fun h=>h25 (by rw [h]))).symm))))
  refine esp K9 <|A_F <|emm rfl <|A_A rfl (A_g rfl rfl) <|emm rfl <|A_O ?_
  refine A_T (s:=(i)) (i+1) ⟨(by omega),‹_›,(fun j j0 j1=>by by_cases hj:j=i;(rw [hj];exact n_N h25);exact hn j j0 (by omega))⟩ (by omega) (A_J ⟨rfl,rfl,rfl,trivial⟩ rfl)
 refine A_Z <|A_1 K5 <|esk rfl <|A_R ?_
 exact retR1 (.inr rfl) results40 (A_L (A_U rfl (B_r (by exact (d_T (D_O 0 (by omega) (fun j j0 j1=>hn j j0 (by omega)))).symm))))

end Go.Proofs.Ytaipghchkamajaa

