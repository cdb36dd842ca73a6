/-
  Walks of functions of the program and the reference.
-/
import Derived.Test.YtaipghchkamajaaCzLib
import Derived.Test.YtaipghchkamajaaA7
import Derived.Test.YtaipghchkamajaaA9
open Go Go.Cw
namespace Go.Proofs.Ytaipghchkamajaa
open Try
set_option maxRecDepth 100000
set_option linter.unusedVariables false
set_option linter.unusedSimpArgs false

abbrev aMat (m:Mat):AV:=aAgg [aInt m.cols,aRows m.rows]

theorem add_ok (f:Fld) (r:Option Nat) (cap:Nat) (v:List Int) (a:Int) (u:List Int) (hF:FOk f) (hl:u.length=v.length):CtrW Try.prog 121 [oVec r cap 3 1 false aInt v] [aGF f,aEx (vec r v.length cap),aInt a,aSl 1 false aInt u] (fun (_:Unit)=>True) (fun (_:Unit)=>aAny) (fun (_:Unit)=>[oVec r cap 3 1 false aInt (addTo f v a u)]):=by
 refine ctrW_of Try.call121 func121 rfl rfl ?_
 intro w O
 refine A_q 0 4 rfl rfl (fun hlen0_4=>?_)
 refine A_q 0 5 rfl rfl (fun hlen0_5=>?_)
 refine ent_len 3 rfl (fun hlen3=>?_)
 refine esr rfl fun _ K1=>?_
 refine A_A rfl (ok_len rfl runUnderlying29 rfl) ?_
 refine emm rfl ?_
 refine enk K1 ?_
 refine A_K ?_
 refine A_d (fun (i:Int)=>(⟨[(0,aGF f),(1,aEx (vec r v.length cap)),(2,aInt a),(10,aSl 1 false aInt u),(11,aInt (↑u.length:Int)),(12,aInt i)],[oVec r cap 3 1 false aInt (mixL (addTo f v a u) v i)]⟩:St)) (fun (i:Int)=>(0<=i)/\(i<=u.length)) (fun (i:Int)=>(u.length-i).toNat) 0 ⟨(by omega),(by omega)⟩ (A_J ⟨rfl,rfl,rfl,rfl,rfl,A_V (A_p (show 0=(0:Int) by rfl)),trivial⟩ (A_F (A_s (show mixL (addTo f v a u) v (0:Int)=v by exact mixL_zero _ _)) (rfl))) ?_
 rintro i ⟨h0,h1⟩
 show Ent _ ⟨_,[_]⟩ _
 have lm:=length_mixL (addTo f v a u) v (i:=i) (length_addTo f v a u)
 refine esr rfl fun _ K2=>?_
 refine A_A rfl (A_r rfl rfl) ?_
 refine enk K2 ?_
 refine A_C fun _ K3=>?_
 refine A_G rfl (fun h13=>?_) (fun h13=>?_)
 ·refine esp K3 ?_
  refine A_C fun _ K4=>?_
  refine A_K ?_
  refine esr rfl fun _ K5=>?_
  refine A_A rfl (A_a 0 sl29 rfl rfl (by omega) (by omega)) ?_
  refine A_A rfl (A_P ti3 rfl) ?_
  refine emm rfl ?_
  refine enk K5 ?_
  refine esr rfl fun _ K6=>?_
  refine A_A rfl (ok_neq rfl rfl) ?_
  refine enk K6 ?_
  refine A_G rfl (fun h18=>?_) (fun h18=>?_)
  ·refine A_w 13 mixed (by kernel_rfl) (by kernel_rfl) (by kernel_rfl) ?_
   refine dw_o rfl (A_D rfl) ?_
   refine dw_o rfl (A_D rfl) ?_
   refine dw_o rfl (A_D rfl) ?_
   refine dw_o rfl (A_D rfl) ?_
   refine dw_o rfl (A_D rfl) ?_
   refine dw_o rfl (ok_indexV0 (k:=0) sl29 rfl rfl (by simp_all) rfl (by omega) (by omega)) ?_
   refine dw_o rfl (ok_loadV0 (k:=0) 0 ti3 rfl rfl (by omega) (by omega)) ?_
   refine dw_o rfl (A_D rfl) ?_
   refine dw_o rfl (A_D rfl) ?_
   refine dw_o rfl (A_D rfl) ?_
   refine dw_o rfl (A_W (Mul_ok f a (ix 0 u i) ‹_›) rfl) ?_
   refine dw_o rfl (A_W (Add_ok f (ix 0 (mixL (addTo f v a u) v i) i) (mulF f a (ix 0 u i)) ‹_›) rfl) ?_
   refine dw_o rfl (ok_indexV0 (k:=0) sl29 rfl rfl (by simp_all) rfl (by omega) (by omega)) ?_
   refine dw_nil ?_
   refine ent_storeV0 (k:=0) (z:=addF f (ix 0 (mixL (addTo f v a u) v i) i) (mulF f a (ix 0 u i))) ti3 rfl rfl rfl (A_z (A_N _)) (by omega) (by omega) ?_
   refine enk K4 ?_
   refine A_H ?_
   refine A_A rfl (A_n rfl rfl (by omega) (by omega)) ?_
   refine emm rfl ?_
   refine A_O ?_
   refine A_U (s:=(i)) (i+1) ⟨(by omega),‹_›⟩ (by omega) (A_J ⟨rfl,rfl,rfl,rfl,rfl,rfl,trivial⟩ (A_F (A_s (show mixL (addTo f v a u) v (i+1)=List.set (mixL (addTo f v a u) v i) (i).toNat (addF f (ix 0 (mixL (addTo f v a u) v i) i) (mulF f a (ix 0 u i))) by exact (addTo_set f v a u h0 (by omega) h18).symm)) (rfl)))
  refine esp K4 ?_
  refine A_H ?_
  refine A_A rfl (A_n rfl rfl (by omega) (by omega)) ?_
  refine emm rfl ?_
  refine A_O ?_
  refine A_U (s:=(i)) (i+1) ⟨(by omega),‹_›⟩ (by omega) (A_J ⟨rfl,rfl,rfl,rfl,rfl,rfl,trivial⟩ (A_F (A_s (show mixL (addTo f v a u) v (i+1)=mixL (addTo f v a u) v i by exact (addTo_stay f v a u h0 (by omega) (Classical.not_not.1 h18)).symm)) (rfl)))
 refine A_e ?_
 exact retW (.inl rfl) () (trivial) ((show ([oVec r cap 3 1 false aInt (addTo f v a u)]:List Own) = [oVec r cap 3 1 false aInt (mixL (addTo f v a u) v i)] from (A_F (A_s (show addTo f v a u=mixL (addTo f v a u) v i by exact (addTo_all f v a u (by omega)).symm)) (rfl))).symm) (resW0 results121 )

theorem vec_ok (f:Fld) (x:List Int) (rows:List (List Int)) (cols:Int) (hF:FOk f) (hc0:0<=cols) (hc1:cols<=1000) (hx:x.length=rows.length) (hr:∀i:Int,0<=i->i<rows.length->((ix [] rows i).length:Int)=cols):CtrF Try.prog 95 [aGF f,aSl 1 false aInt x,aSl 1 false aInts rows,aInt cols] (aVec 3 1 false aInt (comb f x rows cols)):=by
 refine ctrF_of Try.call95 func95 rfl rfl ?_
 intro w O
 refine A_q 0 4 rfl rfl (fun hlen0_4=>?_)
 refine A_q 0 5 rfl rfl (fun hlen0_5=>?_)
 refine ent_len 1 rfl (fun hlen1=>?_)
 refine ent_len 2 rfl (fun hlen2=>?_)
 refine esk rfl ?_
 refine esr rfl fun _ K2=>?_
 refine ent_make aInt 0 rfl vt29 rfl rfl (by omega) (by omega) (by omega) (fun _ _=>rfl) (AllV.mem ⟨rfl,trivial⟩) (fun b13_1=>?_)
 refine emm rfl ?_
 refine enk K2 ?_
 refine A_C fun _ K3=>?_
 refine esr rfl fun _ K4=>?_
 refine A_A rfl (ok_len rfl runUnderlying29 rfl) ?_
 refine emm rfl ?_
 refine enk K4 ?_
 refine A_K ?_
 refine A_d (fun (i:Int)=>(⟨[(0,aGF f),(2,aSl 1 false aInts rows),(9,aEx (vec (some b13_1) ((cols).toNat) ((cols).toNat))),(14,aSl 1 false aInt x),(15,aInt (↑x.length:Int)),(16,aInt i)],[oVec (some b13_1) ((cols).toNat) 3 1 false aInt (combTo f x rows cols i.toNat)]⟩:St)) (fun (i:Int)=>(0<=i)/\(i<=x.length)) (fun (i:Int)=>(x.length-i).toNat) 0 ⟨(by omega),(by omega)⟩ (A_J ⟨rfl,rfl,rfl,rfl,rfl,A_V (A_p (show 0=(0:Int) by rfl)),trivial⟩ (A_F (A_s (show combTo f x rows cols (0:Int).toNat=List.replicate ((cols).toNat) 0 by rfl)) (rfl))) ?_
 rintro i ⟨h0,h1⟩
 show Ent _ ⟨_,[_]⟩ _
 refine esr rfl fun _ K5=>?_
 refine A_A rfl (A_r rfl rfl) ?_
 refine enk K5 ?_
 refine A_C fun _ K6=>?_
 refine A_G rfl (fun h17=>?_) (fun h17=>?_)
 ·refine esp K6 ?_
  refine A_C fun _ K7=>?_
  refine A_K ?_
  refine esr rfl fun _ K8=>?_
  refine A_A rfl (A_a 0 sl29 rfl rfl (by omega) (by omega)) ?_
  refine A_A rfl (A_P ti3 rfl) ?_
  refine emm rfl ?_
  refine enk K8 ?_
  refine esr rfl fun _ K9=>?_
  refine A_A rfl (ok_neq rfl rfl) ?_
  refine enk K9 ?_
  refine A_G rfl (fun h22=>?_) (fun h22=>?_)
  ·have hri:=hr i h0 (by omega)
   refine A_H ?_
   refine emm rfl ?_
   refine A_A rfl (A_a [] sl65 rfl rfl (by omega) (by omega)) ?_
   refine A_A rfl (A_P ti29 rfl) ?_
   refine ent_callW (rs:=[]) [] rfl (add_ok f (some b13_1) ((cols).toNat) (combTo f x rows cols i.toNat) (ix 0 x i) (ix [] rows i) ‹_› (by rw [length_combTo];omega)) rfl rfl (.inl rfl) ⟨A_u rfl (A_x (A_l _)),A_u rfl (cv_ex (congrArg (fun n=>vec (some b13_1) n ((cols).toNat)) (show (cols).toNat=(combTo f x rows cols i.toNat).length by simp))),A_u rfl (A_x (A_l _)),A_u rfl (A_x (A_l _)),trivial⟩ ?_
   rintro ⟨⟩ -
   show Ent _ ⟨_::_,[_]⟩ _
   refine enk K7 ?_
   refine A_H ?_
   refine A_A rfl (A_n rfl rfl (by omega) (by omega)) ?_
   refine emm rfl ?_
   refine A_O ?_
   refine A_U (s:=(i)) (i+1) ⟨(by omega),‹_›⟩ (by omega) (A_J ⟨rfl,rfl,rfl,rfl,rfl,rfl,trivial⟩ (A_F (A_s (show combTo f x rows cols (i+1).toNat=addTo f (combTo f x rows cols i.toNat) (ix 0 x i) (ix [] rows i) by exact (combTo_step f x rows cols h0 h22).symm)) (rfl)))
  refine esp K7 ?_
  refine A_H ?_
  refine A_A rfl (A_n rfl rfl (by omega) (by omega)) ?_
  refine emm rfl ?_
  refine A_O ?_
  refine A_U (s:=(i)) (i+1) ⟨(by omega),‹_›⟩ (by omega) (A_J ⟨rfl,rfl,rfl,rfl,rfl,rfl,trivial⟩ (A_F (A_s (show combTo f x rows cols (i+1).toNat=combTo f x rows cols i.toNat by exact (combTo_stay f x rows cols h0 (Classical.not_not.1 h22)).symm)) (rfl)))
 refine A_e ?_
 refine A_0 K3 ?_
 refine esk rfl ?_
 refine A_Q ?_
 exact retR1 (.inr rfl) results95 (A_L (A_S rfl (cvF_vecV (k:=0) flat_int rfl rfl (by simp) (by unfold comb;congr 1;omega))))

theorem entries_ok (f:Fld) (l:List Int)  : Ctr Try.prog 101 [aGF f,aSl 1 false aInt l] (aInt (entErr f l)):=by
 refine ctr_of Try.call101 func101 rfl rfl ?_
 intro w O
 refine A_q 0 4 rfl rfl (fun hlen0_4=>?_)
 refine A_q 0 5 rfl rfl (fun hlen0_5=>?_)
 refine ent_len 1 rfl (fun hlen1=>?_)
 refine esk rfl ?_
 refine A_C fun _ K2=>?_
 refine esr rfl fun _ K3=>?_
 refine A_A rfl (ok_len rfl runUnderlying29 rfl) ?_
 refine emm rfl ?_
 refine enk K3 ?_
 refine A_K ?_
 refine A_d (fun (i:Int)=>(⟨[(0,aGF f),(7,aSl 1 false aInt l),(8,aInt (↑l.length:Int)),(9,aInt i)],[]⟩:St)) (fun (i:Int)=>(0<=i)/\(i<=l.length)/\(¬outF f (l.take i.toNat))) (fun (i:Int)=>(l.length-i).toNat) 0 ⟨(by omega),(by omega),(by simp [outF])⟩ (A_J ⟨rfl,rfl,rfl,A_V (A_p (show 0=(0:Int) by rfl)),trivial⟩ rfl) ?_
 rintro i ⟨h0,h1,hn⟩
 show Ent _ ⟨_,[]⟩ _
 refine esr rfl fun _ K4=>?_
 refine A_A rfl (A_r rfl rfl) ?_
 refine enk K4 ?_
 refine A_C fun _ K5=>?_
 refine A_G rfl (fun h10=>?_) (fun h10=>?_)
 ·refine esp K5 ?_
  refine A_C fun _ K6=>?_
  refine A_K ?_
  refine esr rfl fun _ K7=>?_
  refine A_A rfl (A_a 0 sl29 rfl rfl (by omega) (by omega)) ?_
  refine A_A rfl (A_P ti3 rfl) ?_
  refine emm rfl ?_
  refine enk K7 ?_
  refine esr rfl fun _ K8=>?_
  refine A_A rfl (A_W (Is_ok f (ix 0 l i)) rfl) ?_
  refine A_A rfl (ok_notD rfl) ?_
  refine enk K8 ?_
  refine A_G rfl (fun h16=>?_) (fun h16=>?_)
  ·refine esk rfl ?_
   refine A_Q ?_
   exact retR1 (.inr rfl) results101 (A_L (A_S rfl (A_Z (by unfold entErr;rw [if_pos (outF_at h0 h10 h16)]))))
  refine esp K6 ?_
  refine A_H ?_
  refine A_A rfl (A_n rfl rfl (by omega) (by omega)) ?_
  refine emm rfl ?_
  refine A_O ?_
  refine A_U (s:=(i)) (i+1) ⟨(by omega),‹_›,(outF_succ h0 h10 hn (Classical.not_not.1 h16))⟩ (by omega) (A_J ⟨rfl,rfl,rfl,rfl,trivial⟩ rfl)
 refine A_e ?_
 refine A_0 K2 ?_
 refine esk rfl ?_
 refine A_Q ?_
 exact retR1 (.inr rfl) results101 (A_L (A_S rfl (A_Z (by unfold entErr;rw [if_neg (by rw [List.take_of_length_le (by omega)] at hn;exact hn)]))))

theorem mcheck_ok (f:Fld) (m:Mat)  : Ctr Try.prog 120 [aGF f,aMat m] (aInt (matErr f m)):=by
 refine ctr_of Try.call120 func120 rfl rfl ?_
 intro w O
 refine A_q 0 4 rfl rfl (fun hlen0_4=>?_)
 refine A_q 0 5 rfl rfl (fun hlen0_5=>?_)
 refine A_o 1 1 rfl rfl (fun hlen1_1=>?_)
 refine esr rfl fun _ K1=>?_
 refine A_y rfl rfl (AllOne.mem ⟨(A_N _),A_j,trivial⟩) (fun b3_1=>?_)
 refine emm rfl ?_
 refine enk K1 ?_
 refine A_C fun _ K2=>?_
 refine A_C fun _ K3=>?_
 refine ent_cut (⟨[(0,aGF f),(3,aEx (.pointer (some ⟨b3_1,0,none⟩))),(23,aBool (decide (((m.cols<0)\/(256<m.cols))\/(256<(↑m.rows.length:Int)))))],[oBox b3_1 107 [aInt m.cols,aSl 1 false aInts m.rows]]⟩) ?_ ?_
 ·refine A_H ?_
  refine A_A rfl (A_B runUnderlying107 rfl sizeOf3 (by decide) rfl) ?_
  refine A_A rfl (A_I (k:=0) isAgg3 rfl rfl rfl) ?_
  refine A_A rfl (A_r rfl rfl) ?_
  refine emm rfl ?_
  refine A_2 rfl rfl rfl rfl (fun hg13=>?_) (fun hg13=>?_)
  ·refine A_A rfl (A_B runUnderlying107 rfl sizeOf3 (by decide) rfl) ?_
   refine A_M rfl rfl rfl rfl (decide_eq_false hg13) ?_
   refine A_A rfl (A_I (k:=0) isAgg3 rfl rfl rfl) ?_
   refine A_M rfl rfl rfl rfl (decide_eq_false hg13) ?_
   refine A_A rfl (ok_gtr rfl rfl) ?_
   refine A_A rfl (A_1 rfl (decide_eq_false hg13) rfl) ?_
   refine emm rfl ?_
   refine A_2 rfl rfl rfl rfl (fun hg18=>?_) (fun hg18=>?_)
   ·refine A_A rfl (A_B runUnderlying107 rfl sizeOf65 (by decide) rfl) ?_
    refine A_M rfl rfl rfl rfl (decide_eq_false hg18) ?_
    refine A_A rfl (A_I (k:=0) isAgg65 rfl rfl rfl) ?_
    refine A_M rfl rfl rfl rfl (decide_eq_false hg18) ?_
    refine A_A rfl (ok_len rfl runUnderlying65 rfl) ?_
    refine A_M rfl rfl rfl rfl (decide_eq_false hg18) ?_
    refine A_A rfl (ok_gtr rfl rfl) ?_
    refine A_A rfl (A_1 rfl (decide_eq_false hg18) rfl) ?_
    refine A_O ?_
    exact A_J ⟨rfl,rfl,A_X (dq_Q ((or_iff_right (fun h=>h.elim hg13 hg18)).trans Iff.rfl)),trivial⟩ rfl
   refine A_E rfl rfl rfl rfl (decide_eq_true hg18) ?_
   refine A_E rfl rfl rfl rfl (decide_eq_true hg18) ?_
   refine A_E rfl rfl rfl rfl (decide_eq_true hg18) ?_
   refine A_A rfl (A_m rfl (decide_eq_true hg18) rfl) ?_
   refine A_O ?_
   exact A_J ⟨rfl,rfl,A_X (dq_T rfl (Or.inl (Or.inr hg18))),trivial⟩ rfl
  refine A_E rfl rfl rfl rfl (decide_eq_true hg13) ?_
  refine A_E rfl rfl rfl rfl (decide_eq_true hg13) ?_
  refine A_A rfl (A_m rfl (decide_eq_true hg13) rfl) ?_
  refine emm rfl ?_
  refine A_E rfl rfl rfl rfl rfl ?_
  refine A_E rfl rfl rfl rfl rfl ?_
  refine A_E rfl rfl rfl rfl rfl ?_
  refine A_E rfl rfl rfl rfl rfl ?_
  refine A_A rfl (A_m rfl rfl rfl) ?_
  refine A_O ?_
  exact A_J ⟨rfl,rfl,A_X (dq_T rfl (Or.inl (Or.inl hg13))),trivial⟩ rfl
 refine A_0 K3 ?_
 refine A_G rfl (fun h23=>?_) (fun h23=>?_)
 ·refine esk rfl ?_
  refine A_Q ?_
  exact retR1 (.inr rfl) results120 (A_L (A_S rfl (A_Z (by exact (matErr_shape h23).symm))))
 refine esp K2 ?_
 refine A_C fun _ K5=>?_
 refine esr rfl fun _ K6=>?_
 refine A_A rfl (A_B runUnderlying107 rfl sizeOf65 (by decide) rfl) ?_
 refine A_A rfl (A_I (k:=0) isAgg65 rfl rfl rfl) ?_
 refine A_A rfl (ok_len rfl runUnderlying65 rfl) ?_
 refine emm rfl ?_
 refine enk K6 ?_
 refine A_K ?_
 refine A_d (fun (i:Int)=>(⟨[(0,aGF f),(3,aEx (.pointer (some ⟨b3_1,0,none⟩))),(25,aSl 1 false aInts m.rows),(26,aInt (↑m.rows.length:Int)),(27,aInt i)],[oBox b3_1 107 [aInt m.cols,aSl 1 false aInts m.rows]]⟩:St)) (fun (i:Int)=>(0<=i)/\(i<=m.rows.length)/\(∀l∈m.rows.take i.toNat,(l.length:Int)=m.cols)) (fun (i:Int)=>(m.rows.length-i).toNat) 0 ⟨(by omega),(by omega),(by simp)⟩ (A_J ⟨rfl,rfl,rfl,rfl,A_V (A_p (show 0=(0:Int) by rfl)),trivial⟩ rfl) ?_
 rintro i ⟨h0,h1,hn⟩
 show Ent _ ⟨_,[_]⟩ _
 refine esr rfl fun _ K7=>?_
 refine A_A rfl (A_r rfl rfl) ?_
 refine enk K7 ?_
 refine A_C fun _ K8=>?_
 refine A_G rfl (fun h28=>?_) (fun h28=>?_)
 ·refine esp K8 ?_
  refine A_C fun _ K9=>?_
  refine A_K ?_
  refine esr rfl fun _ K10=>?_
  refine A_A rfl (A_a [] sl65 rfl rfl (by omega) (by omega)) ?_
  refine A_A rfl (A_P ti29 rfl) ?_
  refine emm rfl ?_
  refine enk K10 ?_
  refine esr rfl fun _ K11=>?_
  refine A_A rfl (ok_len rfl runUnderlying29 rfl) ?_
  refine A_A rfl (A_B runUnderlying107 rfl sizeOf3 (by decide) rfl) ?_
  refine A_A rfl (A_I (k:=0) isAgg3 rfl rfl rfl) ?_
  refine A_A rfl (ok_neq rfl rfl) ?_
  refine enk K11 ?_
  refine A_G rfl (fun h35=>?_) (fun h35=>?_)
  ·refine esk rfl ?_
   refine A_Q ?_
   exact retR1 (.inr rfl) results120 (A_L (A_S rfl (A_Z (by exact (matErr_rag (ragged_at h0 h28 h35)).symm))))
  refine esp K9 ?_
  refine A_H ?_
  refine A_A rfl (A_n rfl rfl (by omega) (by omega)) ?_
  refine emm rfl ?_
  refine A_O ?_
  refine A_U (s:=(i)) (i+1) ⟨(by omega),‹_›,(not_take_succ [] h0 h28 hn (Classical.not_not.1 h35))⟩ (by omega) (A_J ⟨rfl,rfl,rfl,rfl,rfl,trivial⟩ rfl)
 refine A_e ?_
 refine A_0 K5 ?_
 refine A_C fun _ K13=>?_
 refine esr rfl fun _ K14=>?_
 refine A_A rfl (A_B runUnderlying107 rfl sizeOf65 (by decide) rfl) ?_
 refine A_A rfl (A_I (k:=0) isAgg65 rfl rfl rfl) ?_
 refine A_A rfl (ok_len rfl runUnderlying65 rfl) ?_
 refine emm rfl ?_
 refine enk K14 ?_
 refine A_K ?_
 refine A_d (fun (j:Int)=>(⟨[(0,aGF f),(38,aSl 1 false aInts m.rows),(39,aInt (↑m.rows.length:Int)),(40,aInt j)],[oBox b3_1 107 [aInt m.cols,aSl 1 false aInts m.rows]]⟩:St)) (fun (j:Int)=>(0<=j)/\(j<=m.rows.length)/\(∀l∈m.rows.take j.toNat,entErr f l=0)) (fun (j:Int)=>(m.rows.length-j).toNat) 0 ⟨(by omega),(by omega),(by simp)⟩ (A_J ⟨rfl,rfl,rfl,A_V (A_p (show 0=(0:Int) by rfl)),trivial⟩ rfl) ?_
 rintro j ⟨k0,k1,kn⟩
 show Ent _ ⟨_,[_]⟩ _
 refine esr rfl fun _ K15=>?_
 refine A_A rfl (A_r rfl rfl) ?_
 refine enk K15 ?_
 refine A_C fun _ K16=>?_
 refine A_G rfl (fun h41=>?_) (fun h41=>?_)
 ·refine esp K16 ?_
  refine A_C fun _ K17=>?_
  refine A_K ?_
  refine esr rfl fun _ K18=>?_
  refine A_A rfl (A_a [] sl65 rfl rfl (by omega) (by omega)) ?_
  refine A_A rfl (A_P ti29 rfl) ?_
  refine emm rfl ?_
  refine enk K18 ?_
  refine esr rfl fun _ K19=>?_
  refine A_A rfl (A_W (entries_ok f (ix [] m.rows j)) rfl) ?_
  refine emm rfl ?_
  refine enk K19 ?_
  refine esr rfl fun _ K20=>?_
  refine A_A rfl (ok_neq rfl rfl) ?_
  refine enk K20 ?_
  refine A_G rfl (fun h48=>?_) (fun h48=>?_)
  ·refine esk rfl ?_
   refine A_Q ?_
   exact retR1 (.inr rfl) results120 (A_L (A_S rfl (A_Z (by rw [entErr_two h48];exact (matErr_row h23 (not_ragged (take_all (by omega) hn)) (badRow_at k0 h41 h48)).symm))))
  refine esp K17 ?_
  refine A_H ?_
  refine A_A rfl (A_n rfl rfl (by omega) (by omega)) ?_
  refine emm rfl ?_
  refine A_O ?_
  refine A_U (s:=(j)) (j+1) ⟨(by omega),‹_›,(not_take_succ [] k0 h41 kn (Classical.not_not.1 h48))⟩ (by omega) (A_J ⟨rfl,rfl,rfl,rfl,trivial⟩ rfl)
 refine A_e ?_
 refine A_0 K13 ?_
 refine esk rfl ?_
 refine A_Q ?_
 exact retR1 (.inr rfl) results120 (A_L (A_S rfl (A_Z (by exact (matErr_zero.2 ⟨h23,not_ragged (take_all (by omega) hn),not_badRow (take_all (by omega) kn)⟩).symm))))

theorem open_ok (f:Fld) (l:List Mat) (hF:FOk f) (hl:∀m∈l,matErr f m=0) (hn:l.length<=1000):Ctr Try.prog 94 [aFld f,aSl 2 true aMat l] (aTup [aGF f,aInt 0]):=by
 refine ctr_of Try.call94 func94 rfl rfl ?_
 intro w O
 refine A_o 0 2 rfl rfl (fun hlen0_2=>?_)
 refine ent_len 1 rfl (fun hlen1=>?_)
 refine esr rfl fun _ K1=>?_
 refine A_y rfl rfl (AllOne.mem ⟨(A_N _),(A_N _),A_j,trivial⟩) (fun b2_1=>?_)
 refine emm rfl ?_
 refine enk K1 ?_
 refine esr rfl fun _ K2=>?_
 refine A_A rfl (A_R (k:=0) ti51 rfl rfl rfl) ?_
 refine A_A rfl (A_W (CtrF.ctr (New_ok f hF)) rfl) ?_
 refine emm rfl ?_
 refine A_A rfl (A_T rfl rfl) ?_
 refine A_A rfl (A_T rfl rfl) ?_
 refine emm rfl ?_
 refine enk K2 ?_
 refine A_C fun _ K3=>?_
 refine esr rfl fun _ K4=>?_
 refine A_A rfl (ok_neq rfl rfl) ?_
 refine enk K4 ?_
 refine ent_condFP rfl (by decide) ?_
 refine esp K3 ?_
 refine A_C fun _ K5=>?_
 refine esr rfl fun _ K6=>?_
 refine A_A rfl (ok_len rfl runUnderlying152 rfl) ?_
 refine emm rfl ?_
 refine enk K6 ?_
 refine A_K ?_
 refine A_d (fun (i:Int)=>(⟨[(6,aGF f),(18,aSl 2 true aMat l),(19,aInt (↑l.length:Int)),(20,aInt i)],[oBox b2_1 51 [aInt f.P,aInt f.M,aSl 1 false aInt f.mod]]⟩:St)) (fun (i:Int)=>(0<=i)/\(i<=l.length)) (fun (i:Int)=>(l.length-i).toNat) 0 ⟨(by omega),(by omega)⟩ (A_J ⟨rfl,rfl,rfl,A_V (A_p (show 0=(0:Int) by rfl)),trivial⟩ rfl) ?_
 rintro i ⟨h0,h1⟩
 show Ent _ ⟨_,[_]⟩ _
 refine esr rfl fun _ K7=>?_
 refine A_A rfl (A_r rfl rfl) ?_
 refine enk K7 ?_
 refine A_C fun _ K8=>?_
 refine A_G rfl (fun h21=>?_) (fun h21=>?_)
 ·have hi:=hl _ (ix_mem Mat.no l h0 h21)
  refine esp K8 ?_
  refine A_C fun _ K9=>?_
  refine A_K ?_
  refine esr rfl fun _ K10=>?_
  refine A_A rfl (A_a Mat.no sl152 rfl rfl (by omega) (by omega)) ?_
  refine A_A rfl (A_P ti107 rfl) ?_
  refine ent_alloc (z:=.agg #[.int .i64 0,.slice none 0 0]) [aInt 0,aEx (.slice none 0 0)] rfl zv107 rfl zc107 (fun b9_2=>?_)
  refine A_t (k:=0) sizeOf107 rfl rfl rfl (AllOne.mem ⟨(A_N _),A_j,trivial⟩) rfl rfl ?_
  show Ent _ ⟨_,[_,_]⟩ _
  refine enk K10 ?_
  refine esr rfl fun _ K11=>?_
  refine A_A rfl (A_R (k:=0) ti107 rfl rfl rfl) ?_
  refine A_A rfl (A_W (mcheck_ok f (ix Mat.no l i)) rfl) ?_
  refine emm rfl ?_
  refine enk K11 ?_
  refine esr rfl fun _ K12=>?_
  refine A_A rfl (ok_neq rfl rfl) ?_
  refine enk K12 ?_
  refine A_G rfl (fun h28=>?_) (fun h28=>?_)
  ·exact absurd hi h28
  refine esp K9 ?_
  refine A_H ?_
  refine A_A rfl (A_n rfl rfl (by omega) (by omega)) ?_
  refine emm rfl ?_
  refine A_O ?_
  refine ent_drop 0 ?_
  refine A_U (s:=(i)) (i+1) ⟨(by omega),‹_›⟩ (by omega) (A_J ⟨rfl,rfl,rfl,rfl,trivial⟩ rfl)
 refine A_e ?_
 refine A_0 K5 ?_
 refine esk rfl ?_
 refine A_Q ?_
 exact retR2 (.inr rfl) results94 (A_L (A_S rfl (A_x sub_x))) (A_L (A_S rfl (A_Z rfl)))

theorem mMul_ok (f:Fld) (a b:Mat) (hF:FOk f) (ha:matErr f a=0) (hb:matErr f b=0) (hm:a.cols=b.rows.length):Ctr Try.prog 65 [aFld f,aMat a,aMat b] (aTup [aMat (mulM f a b),aInt 0]):=by
 have sa:=mat_size ha
 have sb:=mat_size hb
 refine ctr_of Try.call65 func65 rfl rfl ?_
 intro w O
 refine A_o 0 2 rfl rfl (fun hlen0_2=>?_)
 refine A_o 1 1 rfl rfl (fun hlen1_1=>?_)
 refine A_o 2 1 rfl rfl (fun hlen2_1=>?_)
 refine esr rfl fun _ K1=>?_
 refine A_y rfl rfl (AllOne.mem ⟨(A_N _),(A_N _),A_j,trivial⟩) (fun b3_1=>?_)
 refine A_y rfl rfl (AllOne.mem ⟨(A_N _),A_j,trivial⟩) (fun b4_2=>?_)
 refine A_y rfl rfl (AllOne.mem ⟨(A_N _),A_j,trivial⟩) (fun b5_3=>?_)
 refine ent_alloc (z:=.agg #[.int .i64 0,.slice none 0 0]) [aInt 0,aEx (.slice none 0 0)] rfl zv107 rfl zc107 (fun b6_4=>?_)
 refine emm rfl ?_
 refine enk K1 ?_
 refine esr rfl fun _ K2=>?_
 refine A_A rfl (A_R (k:=3) ti51 rfl rfl rfl) ?_
 refine A_A rfl (A_R (k:=2) ti107 rfl rfl rfl) ?_
 refine A_A rfl (A_R (k:=1) ti107 rfl rfl rfl) ?_
 refine A_A rfl (ok_build2 (enc:=aMat) (y1:=(⟨a.cols,a.rows⟩:Mat)) (y2:=(⟨b.cols,b.rows⟩:Mat)) vt152 (by decide) rfl rfl (elem_agg (AllOne.mem ⟨(A_N _),A_j,trivial⟩)) (elem_agg (AllOne.mem ⟨(A_N _),A_j,trivial⟩)) (by decide)) ?_
 refine A_A rfl (A_W (open_ok f [(⟨a.cols,a.rows⟩:Mat),(⟨b.cols,b.rows⟩:Mat)] ‹_› (by intro m hm;simp only [List.mem_cons,List.not_mem_nil,or_false] at hm;rcases hm with rfl | rfl <;> assumption) (by simp)) rfl) ?_
 refine emm rfl ?_
 refine A_A rfl (A_T rfl rfl) ?_
 refine A_A rfl (A_T rfl rfl) ?_
 refine emm rfl ?_
 refine enk K2 ?_
 refine A_C fun _ K3=>?_
 refine esr rfl fun _ K4=>?_
 refine A_A rfl (ok_neq rfl rfl) ?_
 refine enk K4 ?_
 refine ent_condFP rfl (by decide) ?_
 refine esp K3 ?_
 refine A_C fun _ K5=>?_
 refine esr rfl fun _ K6=>?_
 refine A_A rfl (A_B runUnderlying107 rfl sizeOf3 (by decide) rfl) ?_
 refine A_A rfl (A_I (k:=2) isAgg3 rfl rfl rfl) ?_
 refine A_A rfl (A_B runUnderlying107 rfl sizeOf65 (by decide) rfl) ?_
 refine A_A rfl (A_I (k:=1) isAgg65 rfl rfl rfl) ?_
 refine A_A rfl (ok_len rfl runUnderlying65 rfl) ?_
 refine A_A rfl (ok_neq rfl rfl) ?_
 refine enk K6 ?_
 refine A_G rfl (fun h30=>?_) (fun h30=>?_)
 ·exact absurd hm h30
 refine esp K5 ?_
 refine esr rfl fun _ K7=>?_
 refine A_A rfl (A_B runUnderlying107 rfl sizeOf3 (by decide) rfl) ?_
 refine A_A rfl (A_I (k:=1) isAgg3 rfl rfl rfl) ?_
 refine A_A rfl (ok_build st107 (As:=[aInt 0,aEx (.slice none 0 0)]) z107 (⟨0,1,rfl,.inl ⟨rfl,_,rfl,(A_N _),rfl,rfl⟩⟩)) ?_
 refine ent_alloc (z:=.agg #[.int .i64 0,.slice none 0 0]) [aInt 0,aEx (.slice none 0 0)] rfl zv107 rfl zc107 (fun b10_5=>?_)
 refine A_t (k:=0) sizeOf107 rfl rfl rfl (AllOne.mem ⟨(A_N _),(one_ex rfl),trivial⟩) rfl rfl ?_
 show Ent _ ⟨_,[_,_,_,_,_]⟩ _
 refine enk K7 ?_
 refine A_C fun _ K8=>?_
 refine esr rfl fun _ K9=>?_
 refine A_A rfl (A_B runUnderlying107 rfl sizeOf65 (by decide) rfl) ?_
 refine A_A rfl (A_I (k:=3) isAgg65 rfl rfl rfl) ?_
 refine A_A rfl (ok_len rfl runUnderlying65 rfl) ?_
 refine emm rfl ?_
 refine enk K9 ?_
 refine A_K ?_
 refine ent_open 29 1 false aInts (fun _=>rfl) ?_
 refine A_d (fun (ss:Int×Option Nat×Nat)=>match ss with | (i,rr7,cc7)=>(⟨[(5,aEx (.pointer (some ⟨b5_3,0,none⟩))),(6,aEx (.pointer (some ⟨b6_4,0,none⟩))),(8,aGF f),(10,aEx (.pointer (some ⟨b10_5,0,none⟩))),(36,aSl 1 false aInts a.rows),(37,aInt (↑a.rows.length:Int)),(38,aInt i)],[oVec rr7 cc7 29 1 false aInts (mapT (fun row=>comb f row b.rows b.cols) a.rows i),oBox b10_5 107 [aInt b.cols,aEx (vec rr7 ((mapT (fun row=>comb f row b.rows b.cols) a.rows i).length) cc7)],oBox b6_4 107 [aInt 0,aEx (.slice none 0 0)],oBox b5_3 107 [aInt b.cols,aSl 1 false aInts b.rows],oBox b4_2 107 [aInt a.cols,aSl 1 false aInts a.rows],oBox b3_1 51 [aInt f.P,aInt f.M,aSl 1 false aInt f.mod]]⟩:St)) (fun (ss:Int×Option Nat×Nat)=>match ss with | (i,rr7,cc7)=>(0<=i)/\(i<=a.rows.length)) (fun (ss:Int×Option Nat×Nat)=>match ss with | (i,rr7,cc7)=>(a.rows.length-i).toNat) (0,none,0) ⟨(by omega),(by omega)⟩ (A_J ⟨rfl,rfl,rfl,rfl,rfl,rfl,A_V (A_p (show 0=(0:Int) by rfl)),trivial⟩ (A_F (A_s (show mapT (fun row=>comb f row b.rows b.cols) a.rows (0:Int) = [] by rfl)) (A_F (own_box (av_cons rfl (av_cons (rfl) (rfl)))) (rfl)))) ?_
 rintro ⟨i,rr7,cc7⟩ ⟨h0,h1⟩
 show Ent _ ⟨_,[_,_,_,_,_,_]⟩ _
 have lf:=length_mapT (fun row=>comb f row b.rows b.cols) a.rows (i:=i) (by omega)
 refine esr rfl fun _ K10=>?_
 refine A_A rfl (A_r rfl rfl) ?_
 refine enk K10 ?_
 refine A_C fun _ K11=>?_
 refine A_G rfl (fun h39=>?_) (fun h39=>?_)
 ·refine esp K11 ?_
  refine A_C fun _ K12=>?_
  refine A_K ?_
  refine esr rfl fun _ K13=>?_
  refine A_A rfl (A_a [] sl65 rfl rfl (by omega) (by omega)) ?_
  refine A_A rfl (A_P ti29 rfl) ?_
  refine emm rfl ?_
  refine enk K13 ?_
  refine A_w 10 mixed (by kernel_rfl) (by kernel_rfl) (by kernel_rfl) ?_
  refine dw_o rfl (A_B runUnderlying107 rfl sizeOf65 (by decide) rfl) ?_
  refine dw_o rfl (A_I (k:=1) isAgg65 rfl rfl rfl) ?_
  refine dw_o rfl (A_D rfl) ?_
  refine dw_o rfl (A_D rfl) ?_
  refine dw_o rfl (A_B runUnderlying107 rfl sizeOf65 (by decide) rfl) ?_
  refine dw_o rfl (A_I (k:=3) isAgg65 rfl rfl rfl) ?_
  refine dw_o rfl (A_B runUnderlying107 rfl sizeOf3 (by decide) rfl) ?_
  refine dw_o rfl (A_I (k:=3) isAgg3 rfl rfl rfl) ?_
  refine dw_o rfl (A_W (CtrF.ctr (CtrF.sl (vec_ok f (ix [] a.rows i) b.rows b.cols ‹_› (by omega) (by omega) (by have:=row_len ha h0 h39;omega) (fun i i0 i1=>row_len hb i0 i1)))) rfl) ?_
  refine dw_o rfl (ok_build1 (enc:=aInts) (y:=comb f (ix [] a.rows i) b.rows b.cols) vt65 rfl (A_z A_j) (by decide)) ?_
  refine dw_nil ?_
  refine ent_appendS (k:=0) rfl vt65 rfl rfl rfl rfl (A_x A_h) (by simp only [List.length_append,List.length_cons,List.length_nil];omega) (by simp only [List.length_append,List.length_cons,List.length_nil];omega) (fun r52_7 cr52_7=>?_)
  refine A_A rfl (A_B runUnderlying107 rfl sizeOf65 (by decide) rfl) ?_
  refine ent_storeB (k:=1) sizeOf65 rfl rfl rfl (one_ex rfl) rfl ?_
  refine enk K12 ?_
  refine A_H ?_
  refine A_A rfl (A_n rfl rfl (by omega) (by omega)) ?_
  refine emm rfl ?_
  refine A_O ?_
  refine A_U (s:=(i,rr7,cc7)) (i+1,r52_7,cr52_7) ⟨(by omega),‹_›⟩ (by dsimp only;omega) (A_J ⟨rfl,rfl,rfl,rfl,rfl,rfl,rfl,trivial⟩ (A_F (A_s (show mapT (fun row=>comb f row b.rows b.cols) a.rows (i+1)=(mapT (fun row=>comb f row b.rows b.cols) a.rows i)++[comb f (ix [] a.rows i) b.rows b.cols] by exact mapT_succ [] _ a.rows h0 h39)) (A_F (own_box (av_cons rfl (av_cons (av_vec (congrArg List.length (show mapT (fun row=>comb f row b.rows b.cols) a.rows (i+1)=(mapT (fun row=>comb f row b.rows b.cols) a.rows i)++[comb f (ix [] a.rows i) b.rows b.cols] by exact mapT_succ [] _ a.rows h0 h39))) (rfl)))) (rfl))))
 refine A_e ?_
 refine A_0 K8 ?_
 refine esr rfl fun _ K14=>?_
 refine A_A rfl (A_R (k:=1) ti107 rfl rfl rfl) ?_
 refine A_t (k:=2) sizeOf107 rfl rfl rfl (AllOne.mem ⟨(A_N _),(one_ex rfl),trivial⟩) rfl rfl ?_
 show Ent _ ⟨_,[_,_,_,_,_,_]⟩ _
 refine emm rfl ?_
 refine enk K14 ?_
 refine A_Q ?_
 exact retR2 (.inr rfl) results65 (resr_cell (k:=2) ti107 rfl rfl rfl (cv_agg ⟨A_Z rfl,cv_vec (k:=0) (off_x rfl) rfl (by rw [mapT_all _ _ (by omega)];rfl),trivial⟩)) (A_L (A_S rfl (A_Z rfl)))

theorem SameInts_ok (a b:List Int)  : Ctr Try.prog 40 [aSl 1 false aInt a,aSl 1 false aInt b] (aBool (decide (a=b))):=by
 refine ctr_of Try.call40 func40 rfl rfl ?_
 intro w O
 refine ent_len 0 rfl (fun hlen0=>?_)
 refine ent_len 1 rfl (fun hlen1=>?_)
 refine esk rfl ?_
 refine A_C fun _ K2=>?_
 refine esr rfl fun _ K3=>?_
 refine A_A rfl (ok_len rfl runUnderlying29 rfl) ?_
 refine emm rfl ?_
 refine A_A rfl (ok_len rfl runUnderlying29 rfl) ?_
 refine A_A rfl (ok_neq rfl rfl) ?_
 refine enk K3 ?_
 refine A_G rfl (fun h10=>?_) (fun h10=>?_)
 ·refine esk rfl ?_
  refine A_Q ?_
  exact retR1 (.inr rfl) results40 (A_L (A_S rfl (cv_bool (by exact (decide_eq_false (fun h=>h10 (by rw [h]))).symm))))
 refine esp K2 ?_
 refine A_C fun _ K5=>?_
 refine esk rfl ?_
 refine A_K ?_
 refine A_d (fun (i:Int)=>(⟨[(0,aSl 1 false aInt a),(1,aSl 1 false aInt b),(5,aInt i)],[]⟩:St)) (fun (i:Int)=>(0<=i)/\(i<=a.length)/\(∀j:Int,0<=j->j<i->ix 0 a j=ix 0 b j)) (fun (i:Int)=>(a.length-i).toNat) 0 ⟨(by omega),(by omega),(fun j j0 j1=>by omega)⟩ (A_J ⟨rfl,rfl,A_V (A_p (show 0=(0:Int) by rfl)),trivial⟩ rfl) ?_
 rintro i ⟨h0,h1,hn⟩
 show Ent _ ⟨_,[]⟩ _
 refine A_C fun _ K7=>?_
 refine esr rfl fun _ K8=>?_
 refine A_A rfl (ok_len rfl runUnderlying29 rfl) ?_
 refine A_A rfl (A_r rfl rfl) ?_
 refine enk K8 ?_
 refine A_G rfl (fun h14=>?_) (fun h14=>?_)
 ·refine esp K7 ?_
  refine A_C fun _ K9=>?_
  refine A_K ?_
  refine A_C fun _ K10=>?_
  refine A_w 9 mixed (by kernel_rfl) (by kernel_rfl) (by kernel_rfl) ?_
  refine dw_o rfl (A_D rfl) ?_
  refine dw_o rfl (A_D rfl) ?_
  refine dw_o rfl (A_a 0 sl29 rfl rfl (by omega) (by omega)) ?_
  refine dw_o rfl (A_P ti3 rfl) ?_
  refine dw_o rfl (A_D rfl) ?_
  refine dw_o rfl (A_D rfl) ?_
  refine dw_o rfl (A_a 0 sl29 rfl rfl (by omega) (by omega)) ?_
  refine dw_o rfl (A_P ti3 rfl) ?_
  refine dw_o rfl (ok_neq rfl rfl) ?_
  refine dw_nil ?_
  refine enk K10 ?_
  refine A_G rfl (fun h25=>?_) (fun h25=>?_)
  ·refine esk rfl ?_
   refine A_Q ?_
   exact retR1 (.inr rfl) results40 (A_L (A_S rfl (cv_bool (by exact (decide_eq_false (fun h=>h25 (by rw [h]))).symm))))
  refine esp K9 ?_
  refine A_H ?_
  refine emm rfl ?_
  refine A_A rfl (A_n rfl rfl (by omega) (by omega)) ?_
  refine emm rfl ?_
  refine A_O ?_
  refine A_U (s:=(i)) (i+1) ⟨(by omega),‹_›,(fun j j0 j1=>by by_cases hj:j=i;(rw [hj];exact Classical.not_not.1 h25);exact hn j j0 (by omega))⟩ (by omega) (A_J ⟨rfl,rfl,rfl,trivial⟩ rfl)
 refine A_e ?_
 refine A_0 K5 ?_
 refine esk rfl ?_
 refine A_Q ?_
 exact retR1 (.inr rfl) results40 (A_L (A_S rfl (cv_bool (by exact (decide_eq_true (ext_ix 0 (by omega) (fun j j0 j1=>hn j j0 (by omega)))).symm))))

end Go.Proofs.Ytaipghchkamajaa

