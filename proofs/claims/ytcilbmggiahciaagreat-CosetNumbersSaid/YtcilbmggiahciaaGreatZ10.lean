/-
  Walks of functions of the program and the reference.
-/
import Derived.Test.YtcilbmggiahciaaGreatZ1
open Go Go.Cw
namespace Go.Proofs.YtcilbmggiahciaaGreat
open Tryz
set_option maxRecDepth 100000
set_option linter.unusedVariables false
set_option linter.unusedSimpArgs false

abbrev aMat (m:Mat):AV:=aAgg [aInt m.cols,aRows m.rows]

theorem add_ok (f:Fld) (r:Option Nat) (cap:Nat) (v:List Int) (a:Int) (u:List Int) (hF:FOk f) (hl:u.length=v.length):CtrW Tryz.prog 144 [oVec r cap 3 1 false aInt v] [aGF f,aEx (vec r v.length cap),aInt a,aSl 1 false aInt u] (fun (_:Unit)=>True) (fun (_:Unit)=>aAny) (fun (_:Unit)=>[oVec r cap 3 1 false aInt (addTo f v a u)]):=by
 refine ctrW_of Tryz.call144 func144 rfl rfl ?_
 intro w O
 refine ent_lenP 0 4 rfl rfl (fun hlen0_4=>?_)
 refine ent_lenP 0 5 rfl rfl (fun hlen0_5=>?_)
 refine A_x 3 rfl (fun hlen3=>?_)
 refine esr rfl fun _ K1=>?_
 refine A_A rfl (A_z rfl runUnderlying22 rfl) ?_
 refine emm rfl ?_
 refine enk K1 ?_
 refine A_K ?_
 refine A_g (fun (i:Int)=>(⟨[(0,aGF f),(1,aEx (vec r v.length cap)),(2,aInt a),(10,aSl 1 false aInt u),(11,aInt (↑u.length:Int)),(12,aInt i)],[oVec r cap 3 1 false aInt (mixL (addTo f v a u) v i)]⟩:St)) (fun (i:Int)=>(0<=i)/\(i<=u.length)) (fun (i:Int)=>(u.length-i).toNat) 0 ⟨(by omega),(by omega)⟩ (A_I ⟨rfl,rfl,rfl,rfl,rfl,A_W (A_i (show 0=(0:Int) by rfl)),trivial⟩ (A_N (A_n (show mixL (addTo f v a u) v (0:Int)=v by exact mixL_zero _ _)) (rfl))) ?_
 rintro i ⟨h0,h1⟩
 show Ent _ ⟨_,[_]⟩ _
 have lm:=length_mixL (addTo f v a u) v (i:=i) (length_addTo f v a u)
 refine esr rfl fun _ K2=>?_
 refine A_A rfl (A_o rfl rfl) ?_
 refine enk K2 ?_
 refine A_C fun _ K3=>?_
 refine A_E rfl (fun h13=>?_) (fun h13=>?_)
 ·refine esp K3 ?_
  refine A_C fun _ K4=>?_
  refine A_K ?_
  refine esr rfl fun _ K5=>?_
  refine A_A rfl (A_d 0 sl22 rfl rfl (by omega) (by omega)) ?_
  refine A_A rfl (A_V ti3 rfl) ?_
  refine emm rfl ?_
  refine enk K5 ?_
  refine esr rfl fun _ K6=>?_
  refine A_A rfl (A_y rfl rfl) ?_
  refine enk K6 ?_
  refine A_E rfl (fun h18=>?_) (fun h18=>?_)
  ·refine A_t 13 mixed (by kernel_rfl) (by kernel_rfl) (by kernel_rfl) ?_
   refine dw_o rfl (A_J rfl) ?_
   refine dw_o rfl (A_J rfl) ?_
   refine dw_o rfl (A_J rfl) ?_
   refine dw_o rfl (A_J rfl) ?_
   refine dw_o rfl (A_J rfl) ?_
   refine dw_o rfl (ok_indexV0 (k:=0) sl22 rfl rfl (by simp_all) rfl (by omega) (by omega)) ?_
   refine dw_o rfl (ok_loadV0 (k:=0) 0 ti3 rfl rfl (by omega) (by omega)) ?_
   refine dw_o rfl (A_J rfl) ?_
   refine dw_o rfl (A_J rfl) ?_
   refine dw_o rfl (A_J rfl) ?_
   refine dw_o rfl (A_S (Mul_ok f a (ix 0 u i) ‹_›) rfl) ?_
   refine dw_o rfl (A_S (Add_ok f (ix 0 (mixL (addTo f v a u) v i) i) (mulF f a (ix 0 u i)) ‹_›) rfl) ?_
   refine dw_o rfl (ok_indexV0 (k:=0) sl22 rfl rfl (by simp_all) rfl (by omega) (by omega)) ?_
   refine dw_nil ?_
   refine ent_storeV0 (k:=0) (z:=addF f (ix 0 (mixL (addTo f v a u) v i) i) (mulF f a (ix 0 u i))) ti3 rfl rfl rfl (A_u (A_F _)) (by omega) (by omega) ?_
   refine enk K4 ?_
   refine A_D ?_
   refine A_A rfl (A_m rfl rfl (by omega) (by omega)) ?_
   refine emm rfl ?_
   refine A_O ?_
   refine A_X (s:=(i)) (i+1) ⟨(by omega),‹_›⟩ (by omega) (A_I ⟨rfl,rfl,rfl,rfl,rfl,rfl,trivial⟩ (A_N (A_n (show mixL (addTo f v a u) v (i+1)=List.set (mixL (addTo f v a u) v i) (i).toNat (addF f (ix 0 (mixL (addTo f v a u) v i) i) (mulF f a (ix 0 u i))) by exact (addTo_set f v a u h0 (by omega) h18).symm)) (rfl)))
  refine esp K4 ?_
  refine A_D ?_
  refine A_A rfl (A_m rfl rfl (by omega) (by omega)) ?_
  refine emm rfl ?_
  refine A_O ?_
  refine A_X (s:=(i)) (i+1) ⟨(by omega),‹_›⟩ (by omega) (A_I ⟨rfl,rfl,rfl,rfl,rfl,rfl,trivial⟩ (A_N (A_n (show mixL (addTo f v a u) v (i+1)=mixL (addTo f v a u) v i by exact (addTo_stay f v a u h0 (by omega) (Classical.not_not.1 h18)).symm)) (rfl)))
 refine A_e ?_
 exact retW (.inl rfl) () (trivial) ((show ([oVec r cap 3 1 false aInt (addTo f v a u)]:List Own) = [oVec r cap 3 1 false aInt (mixL (addTo f v a u) v i)] from (A_N (A_n (show addTo f v a u=mixL (addTo f v a u) v i by exact (addTo_all f v a u (by omega)).symm)) (rfl))).symm) (resW0 results144 )

theorem entries_ok (f:Fld) (l:List Int)  : Ctr Tryz.prog 137 [aGF f,aSl 1 false aInt l] (aInt (entErr f l)):=by
 refine A_p Tryz.call137 func137 rfl rfl ?_
 intro w O
 refine ent_lenP 0 4 rfl rfl (fun hlen0_4=>?_)
 refine ent_lenP 0 5 rfl rfl (fun hlen0_5=>?_)
 refine A_x 1 rfl (fun hlen1=>?_)
 refine esk rfl ?_
 refine A_C fun _ K2=>?_
 refine esr rfl fun _ K3=>?_
 refine A_A rfl (A_z rfl runUnderlying22 rfl) ?_
 refine emm rfl ?_
 refine enk K3 ?_
 refine A_K ?_
 refine A_g (fun (i:Int)=>(⟨[(0,aGF f),(7,aSl 1 false aInt l),(8,aInt (↑l.length:Int)),(9,aInt i)],[]⟩:St)) (fun (i:Int)=>(0<=i)/\(i<=l.length)/\(¬outF f (l.take i.toNat))) (fun (i:Int)=>(l.length-i).toNat) 0 ⟨(by omega),(by omega),(by simp [outF])⟩ (A_I ⟨rfl,rfl,rfl,A_W (A_i (show 0=(0:Int) by rfl)),trivial⟩ rfl) ?_
 rintro i ⟨h0,h1,hn⟩
 show Ent _ ⟨_,[]⟩ _
 refine esr rfl fun _ K4=>?_
 refine A_A rfl (A_o rfl rfl) ?_
 refine enk K4 ?_
 refine A_C fun _ K5=>?_
 refine A_E rfl (fun h10=>?_) (fun h10=>?_)
 ·refine esp K5 ?_
  refine A_C fun _ K6=>?_
  refine A_K ?_
  refine esr rfl fun _ K7=>?_
  refine A_A rfl (A_d 0 sl22 rfl rfl (by omega) (by omega)) ?_
  refine A_A rfl (A_V ti3 rfl) ?_
  refine emm rfl ?_
  refine enk K7 ?_
  refine esr rfl fun _ K8=>?_
  refine A_A rfl (A_S (Is_ok f (ix 0 l i)) rfl) ?_
  refine A_A rfl (ok_notD rfl) ?_
  refine enk K8 ?_
  refine A_E rfl (fun h16=>?_) (fun h16=>?_)
  ·refine esk rfl ?_
   refine A_R ?_
   exact retR1 (.inr rfl) results137 (A_H (A_T rfl (A_a (by unfold entErr;rw [if_pos (outF_at h0 h10 h16)]))))
  refine esp K6 ?_
  refine A_D ?_
  refine A_A rfl (A_m rfl rfl (by omega) (by omega)) ?_
  refine emm rfl ?_
  refine A_O ?_
  refine A_X (s:=(i)) (i+1) ⟨(by omega),‹_›,(outF_succ h0 h10 hn (Classical.not_not.1 h16))⟩ (by omega) (A_I ⟨rfl,rfl,rfl,rfl,trivial⟩ rfl)
 refine A_e ?_
 refine A_s K2 ?_
 refine esk rfl ?_
 refine A_R ?_
 exact retR1 (.inr rfl) results137 (A_H (A_T rfl (A_a (by unfold entErr;rw [if_neg (by rw [List.take_of_length_le (by omega)] at hn;exact hn)]))))

theorem mcheck_ok (f:Fld) (m:Mat)  : Ctr Tryz.prog 125 [aGF f,aMat m] (aInt (matErr f m)):=by
 refine A_p Tryz.call125 func125 rfl rfl ?_
 intro w O
 refine ent_lenP 0 4 rfl rfl (fun hlen0_4=>?_)
 refine ent_lenP 0 5 rfl rfl (fun hlen0_5=>?_)
 refine A_Y 1 1 rfl rfl (fun hlen1_1=>?_)
 refine esr rfl fun _ K1=>?_
 refine A_h rfl rfl (AllOne.mem ⟨(A_F _),A_c,trivial⟩) (fun b3_1=>?_)
 refine emm rfl ?_
 refine enk K1 ?_
 refine A_C fun _ K2=>?_
 refine A_C fun _ K3=>?_
 refine ent_cut (⟨[(0,aGF f),(3,aEx (.pointer (some ⟨b3_1,0,none⟩))),(23,aBool (decide (((m.cols<0)\/(256<m.cols))\/(256<(↑m.rows.length:Int)))))],[oBox b3_1 107 [aInt m.cols,aSl 1 false aInts m.rows]]⟩) ?_ ?_
 ·refine A_D ?_
  refine A_A rfl (A_B runUnderlying107 rfl sizeOf3 (by decide) rfl) ?_
  refine A_A rfl (A_L (k:=0) isAgg3 rfl rfl rfl) ?_
  refine A_A rfl (A_o rfl rfl) ?_
  refine emm rfl ?_
  refine A_v rfl rfl rfl rfl (fun hg13=>?_) (fun hg13=>?_)
  ·refine A_A rfl (A_B runUnderlying107 rfl sizeOf3 (by decide) rfl) ?_
   refine A_M rfl rfl rfl rfl (decide_eq_false hg13) ?_
   refine A_A rfl (A_L (k:=0) isAgg3 rfl rfl rfl) ?_
   refine A_M rfl rfl rfl rfl (decide_eq_false hg13) ?_
   refine A_A rfl (ok_gtr rfl rfl) ?_
   refine A_A rfl (A_r rfl (decide_eq_false hg13) rfl) ?_
   refine emm rfl ?_
   refine A_v rfl rfl rfl rfl (fun hg18=>?_) (fun hg18=>?_)
   ·refine A_A rfl (A_B runUnderlying107 rfl sizeOf25 (by decide) rfl) ?_
    refine A_M rfl rfl rfl rfl (decide_eq_false hg18) ?_
    refine A_A rfl (A_L (k:=0) isAgg25 rfl rfl rfl) ?_
    refine A_M rfl rfl rfl rfl (decide_eq_false hg18) ?_
    refine A_A rfl (A_z rfl runUnderlying25 rfl) ?_
    refine A_M rfl rfl rfl rfl (decide_eq_false hg18) ?_
    refine A_A rfl (ok_gtr rfl rfl) ?_
    refine A_A rfl (A_r rfl (decide_eq_false hg18) rfl) ?_
    refine A_O ?_
    exact A_I ⟨rfl,rfl,A_Z (dq_Q ((or_iff_right (fun h=>h.elim hg13 hg18)).trans Iff.rfl)),trivial⟩ rfl
   refine A_G rfl rfl rfl rfl (decide_eq_true hg18) ?_
   refine A_G rfl rfl rfl rfl (decide_eq_true hg18) ?_
   refine A_G rfl rfl rfl rfl (decide_eq_true hg18) ?_
   refine A_A rfl (A_l rfl (decide_eq_true hg18) rfl) ?_
   refine A_O ?_
   exact A_I ⟨rfl,rfl,A_Z (dq_T rfl (Or.inl (Or.inr hg18))),trivial⟩ rfl
  refine A_G rfl rfl rfl rfl (decide_eq_true hg13) ?_
  refine A_G rfl rfl rfl rfl (decide_eq_true hg13) ?_
  refine A_A rfl (A_l rfl (decide_eq_true hg13) rfl) ?_
  refine emm rfl ?_
  refine A_G rfl rfl rfl rfl rfl ?_
  refine A_G rfl rfl rfl rfl rfl ?_
  refine A_G rfl rfl rfl rfl rfl ?_
  refine A_G rfl rfl rfl rfl rfl ?_
  refine A_A rfl (A_l rfl rfl rfl) ?_
  refine A_O ?_
  exact A_I ⟨rfl,rfl,A_Z (dq_T rfl (Or.inl (Or.inl hg13))),trivial⟩ rfl
 refine A_s K3 ?_
 refine A_E rfl (fun h23=>?_) (fun h23=>?_)
 ·refine esk rfl ?_
  refine A_R ?_
  exact retR1 (.inr rfl) results125 (A_H (A_T rfl (A_a (by exact (matErr_shape h23).symm))))
 refine esp K2 ?_
 refine A_C fun _ K5=>?_
 refine esr rfl fun _ K6=>?_
 refine A_A rfl (A_B runUnderlying107 rfl sizeOf25 (by decide) rfl) ?_
 refine A_A rfl (A_L (k:=0) isAgg25 rfl rfl rfl) ?_
 refine A_A rfl (A_z rfl runUnderlying25 rfl) ?_
 refine emm rfl ?_
 refine enk K6 ?_
 refine A_K ?_
 refine A_g (fun (i:Int)=>(⟨[(0,aGF f),(3,aEx (.pointer (some ⟨b3_1,0,none⟩))),(25,aSl 1 false aInts m.rows),(26,aInt (↑m.rows.length:Int)),(27,aInt i)],[oBox b3_1 107 [aInt m.cols,aSl 1 false aInts m.rows]]⟩:St)) (fun (i:Int)=>(0<=i)/\(i<=m.rows.length)/\(∀l∈m.rows.take i.toNat,(l.length:Int)=m.cols)) (fun (i:Int)=>(m.rows.length-i).toNat) 0 ⟨(by omega),(by omega),(by simp)⟩ (A_I ⟨rfl,rfl,rfl,rfl,A_W (A_i (show 0=(0:Int) by rfl)),trivial⟩ rfl) ?_
 rintro i ⟨h0,h1,hn⟩
 show Ent _ ⟨_,[_]⟩ _
 refine esr rfl fun _ K7=>?_
 refine A_A rfl (A_o rfl rfl) ?_
 refine enk K7 ?_
 refine A_C fun _ K8=>?_
 refine A_E rfl (fun h28=>?_) (fun h28=>?_)
 ·refine esp K8 ?_
  refine A_C fun _ K9=>?_
  refine A_K ?_
  refine esr rfl fun _ K10=>?_
  refine A_A rfl (A_d [] sl25 rfl rfl (by omega) (by omega)) ?_
  refine A_A rfl (A_V ti22 rfl) ?_
  refine emm rfl ?_
  refine enk K10 ?_
  refine esr rfl fun _ K11=>?_
  refine A_A rfl (A_z rfl runUnderlying22 rfl) ?_
  refine A_A rfl (A_B runUnderlying107 rfl sizeOf3 (by decide) rfl) ?_
  refine A_A rfl (A_L (k:=0) isAgg3 rfl rfl rfl) ?_
  refine A_A rfl (A_y rfl rfl) ?_
  refine enk K11 ?_
  refine A_E rfl (fun h35=>?_) (fun h35=>?_)
  ·refine esk rfl ?_
   refine A_R ?_
   exact retR1 (.inr rfl) results125 (A_H (A_T rfl (A_a (by exact (matErr_rag (ragged_at h0 h28 h35)).symm))))
  refine esp K9 ?_
  refine A_D ?_
  refine A_A rfl (A_m rfl rfl (by omega) (by omega)) ?_
  refine emm rfl ?_
  refine A_O ?_
  refine A_X (s:=(i)) (i+1) ⟨(by omega),‹_›,(not_take_succ [] h0 h28 hn (Classical.not_not.1 h35))⟩ (by omega) (A_I ⟨rfl,rfl,rfl,rfl,rfl,trivial⟩ rfl)
 refine A_e ?_
 refine A_s K5 ?_
 refine A_C fun _ K13=>?_
 refine esr rfl fun _ K14=>?_
 refine A_A rfl (A_B runUnderlying107 rfl sizeOf25 (by decide) rfl) ?_
 refine A_A rfl (A_L (k:=0) isAgg25 rfl rfl rfl) ?_
 refine A_A rfl (A_z rfl runUnderlying25 rfl) ?_
 refine emm rfl ?_
 refine enk K14 ?_
 refine A_K ?_
 refine A_g (fun (j:Int)=>(⟨[(0,aGF f),(38,aSl 1 false aInts m.rows),(39,aInt (↑m.rows.length:Int)),(40,aInt j)],[oBox b3_1 107 [aInt m.cols,aSl 1 false aInts m.rows]]⟩:St)) (fun (j:Int)=>(0<=j)/\(j<=m.rows.length)/\(∀l∈m.rows.take j.toNat,entErr f l=0)) (fun (j:Int)=>(m.rows.length-j).toNat) 0 ⟨(by omega),(by omega),(by simp)⟩ (A_I ⟨rfl,rfl,rfl,A_W (A_i (show 0=(0:Int) by rfl)),trivial⟩ rfl) ?_
 rintro j ⟨k0,k1,kn⟩
 show Ent _ ⟨_,[_]⟩ _
 refine esr rfl fun _ K15=>?_
 refine A_A rfl (A_o rfl rfl) ?_
 refine enk K15 ?_
 refine A_C fun _ K16=>?_
 refine A_E rfl (fun h41=>?_) (fun h41=>?_)
 ·refine esp K16 ?_
  refine A_C fun _ K17=>?_
  refine A_K ?_
  refine esr rfl fun _ K18=>?_
  refine A_A rfl (A_d [] sl25 rfl rfl (by omega) (by omega)) ?_
  refine A_A rfl (A_V ti22 rfl) ?_
  refine emm rfl ?_
  refine enk K18 ?_
  refine esr rfl fun _ K19=>?_
  refine A_A rfl (A_S (entries_ok f (ix [] m.rows j)) rfl) ?_
  refine emm rfl ?_
  refine enk K19 ?_
  refine esr rfl fun _ K20=>?_
  refine A_A rfl (A_y rfl rfl) ?_
  refine enk K20 ?_
  refine A_E rfl (fun h48=>?_) (fun h48=>?_)
  ·refine esk rfl ?_
   refine A_R ?_
   exact retR1 (.inr rfl) results125 (A_H (A_T rfl (A_a (by rw [entErr_two h48];exact (matErr_row h23 (not_ragged (take_all (by omega) hn)) (badRow_at k0 h41 h48)).symm))))
  refine esp K17 ?_
  refine A_D ?_
  refine A_A rfl (A_m rfl rfl (by omega) (by omega)) ?_
  refine emm rfl ?_
  refine A_O ?_
  refine A_X (s:=(j)) (j+1) ⟨(by omega),‹_›,(not_take_succ [] k0 h41 kn (Classical.not_not.1 h48))⟩ (by omega) (A_I ⟨rfl,rfl,rfl,rfl,trivial⟩ rfl)
 refine A_e ?_
 refine A_s K13 ?_
 refine esk rfl ?_
 refine A_R ?_
 exact retR1 (.inr rfl) results125 (A_H (A_T rfl (A_a (by exact (matErr_zero.2 ⟨h23,not_ragged (take_all (by omega) hn),not_badRow (take_all (by omega) kn)⟩).symm))))

theorem open_ok (f:Fld) (l:List Mat) (hF:FOk f) (hl:∀m∈l,matErr f m=0) (hn:l.length<=1000):Ctr Tryz.prog 110 [aFld f,aSl 2 true aMat l] (aTup [aGF f,aInt 0]):=by
 refine A_p Tryz.call110 func110 rfl rfl ?_
 intro w O
 refine A_Y 0 2 rfl rfl (fun hlen0_2=>?_)
 refine A_x 1 rfl (fun hlen1=>?_)
 refine esr rfl fun _ K1=>?_
 refine A_h rfl rfl (AllOne.mem ⟨(A_F _),(A_F _),A_c,trivial⟩) (fun b2_1=>?_)
 refine emm rfl ?_
 refine enk K1 ?_
 refine esr rfl fun _ K2=>?_
 refine A_A rfl (A_P (k:=0) ti24 rfl rfl rfl) ?_
 refine A_A rfl (A_S (CtrF.ctr (New_ok f hF)) rfl) ?_
 refine emm rfl ?_
 refine A_A rfl (A_Q rfl rfl) ?_
 refine A_A rfl (A_Q rfl rfl) ?_
 refine emm rfl ?_
 refine enk K2 ?_
 refine A_C fun _ K3=>?_
 refine esr rfl fun _ K4=>?_
 refine A_A rfl (A_y rfl rfl) ?_
 refine enk K4 ?_
 refine ent_condFP rfl (by decide) ?_
 refine esp K3 ?_
 refine A_C fun _ K5=>?_
 refine esr rfl fun _ K6=>?_
 refine A_A rfl (A_z rfl runUnderlying140 rfl) ?_
 refine emm rfl ?_
 refine enk K6 ?_
 refine A_K ?_
 refine A_g (fun (i:Int)=>(⟨[(6,aGF f),(18,aSl 2 true aMat l),(19,aInt (↑l.length:Int)),(20,aInt i)],[oBox b2_1 24 [aInt f.P,aInt f.M,aSl 1 false aInt f.mod]]⟩:St)) (fun (i:Int)=>(0<=i)/\(i<=l.length)) (fun (i:Int)=>(l.length-i).toNat) 0 ⟨(by omega),(by omega)⟩ (A_I ⟨rfl,rfl,rfl,A_W (A_i (show 0=(0:Int) by rfl)),trivial⟩ rfl) ?_
 rintro i ⟨h0,h1⟩
 show Ent _ ⟨_,[_]⟩ _
 refine esr rfl fun _ K7=>?_
 refine A_A rfl (A_o rfl rfl) ?_
 refine enk K7 ?_
 refine A_C fun _ K8=>?_
 refine A_E rfl (fun h21=>?_) (fun h21=>?_)
 ·have hi:=hl _ (ix_mem Mat.no l h0 h21)
  refine esp K8 ?_
  refine A_C fun _ K9=>?_
  refine A_K ?_
  refine esr rfl fun _ K10=>?_
  refine A_A rfl (A_d Mat.no sl140 rfl rfl (by omega) (by omega)) ?_
  refine A_A rfl (A_V ti107 rfl) ?_
  refine ent_alloc (z:=.agg #[.int .i64 0,.slice none 0 0]) [aInt 0,aEx (.slice none 0 0)] rfl zv107 rfl zc107 (fun b9_2=>?_)
  refine ent_storeBS (k:=0) sizeOf107 rfl rfl rfl (AllOne.mem ⟨(A_F _),A_c,trivial⟩) rfl rfl ?_
  show Ent _ ⟨_,[_,_]⟩ _
  refine enk K10 ?_
  refine esr rfl fun _ K11=>?_
  refine A_A rfl (A_P (k:=0) ti107 rfl rfl rfl) ?_
  refine A_A rfl (A_S (mcheck_ok f (ix Mat.no l i)) rfl) ?_
  refine emm rfl ?_
  refine enk K11 ?_
  refine esr rfl fun _ K12=>?_
  refine A_A rfl (A_y rfl rfl) ?_
  refine enk K12 ?_
  refine A_E rfl (fun h28=>?_) (fun h28=>?_)
  ·exact absurd hi h28
  refine esp K9 ?_
  refine A_D ?_
  refine A_A rfl (A_m rfl rfl (by omega) (by omega)) ?_
  refine emm rfl ?_
  refine A_O ?_
  refine ent_drop 0 ?_
  refine A_X (s:=(i)) (i+1) ⟨(by omega),‹_›⟩ (by omega) (A_I ⟨rfl,rfl,rfl,rfl,trivial⟩ rfl)
 refine A_e ?_
 refine A_s K5 ?_
 refine esk rfl ?_
 refine A_R ?_
 exact retR2 (.inr rfl) results110 (A_H (A_T rfl (cv_id sub_x))) (A_H (A_T rfl (A_a rfl)))

theorem rAddTo_ok (f:Fld) (v:List Int) (a:Int) (u:List Int) (hS:Shape f) (hl:v.length<=u.length) (hv:v.length<=100000):CtrF Tryz.prog 81 [aFld f,aSl 1 false aInt v,aInt a,aSl 1 false aInt u] (aVec 3 1 false aInt (addTo f v a u)):=by
 refine ctrF_of Tryz.call81 func81 rfl rfl ?_
 intro w O
 refine A_Y 0 2 rfl rfl (fun hlen0_2=>?_)
 refine A_x 1 rfl (fun hlen1=>?_)
 refine A_x 3 rfl (fun hlen3=>?_)
 refine esr rfl fun _ K1=>?_
 refine A_h rfl rfl (AllOne.mem ⟨(A_F _),(A_F _),A_c,trivial⟩) (fun b4_1=>?_)
 refine emm rfl ?_
 refine enk K1 ?_
 refine esr rfl fun _ K2=>?_
 refine A_A rfl (A_z rfl runUnderlying22 rfl) ?_
 refine ent_make aInt 0 rfl vt22 rfl rfl (by omega) (by omega) (by omega) (fun _ _=>rfl) (AllV.mem ⟨rfl,trivial⟩) (fun b13_2=>?_)
 refine emm rfl ?_
 refine enk K2 ?_
 refine A_C fun _ K3=>?_
 refine esk rfl ?_
 refine A_K ?_
 refine A_g (fun (i:Int)=>(⟨[(1,aSl 1 false aInt v),(2,aInt a),(3,aSl 1 false aInt u),(4,aEx (.pointer (some ⟨b4_1,0,none⟩))),(9,aEx (vec (some b13_2) (((↑v.length:Int)).toNat) (((↑v.length:Int)).toNat))),(10,aInt i)],[oVec (some b13_2) (((↑v.length:Int)).toNat) 3 1 false aInt (mixL (addTo f v a u) (List.replicate v.length 0) i),oBox b4_1 24 [aInt f.P,aInt f.M,aSl 1 false aInt f.mod]]⟩:St)) (fun (i:Int)=>(0<=i)/\(i<=v.length)) (fun (i:Int)=>(v.length-i).toNat) 0 ⟨(by omega),(by omega)⟩ (A_I ⟨rfl,rfl,rfl,rfl,rfl,A_W (A_i (show 0=(0:Int) by rfl)),trivial⟩ (A_N (A_n (show mixL (addTo f v a u) (List.replicate v.length 0) (0:Int)=List.replicate (((↑v.length:Int)).toNat) 0 by exact mixL_zero _ _)) (rfl))) ?_
 rintro i ⟨h0,h1⟩
 show Ent _ ⟨_,[_,_]⟩ _
 have lm:(mixL (addTo f v a u) (List.replicate v.length 0) i).length=v.length:=by rw [length_mixL _ _ (by simp)];simp
 have lm2:((mixL (addTo f v a u) (List.replicate v.length 0) i).set i.toNat (ix 0 v i)).length=v.length:=by rw [List.length_set];exact lm
 refine A_C fun _ K5=>?_
 refine esr rfl fun _ K6=>?_
 refine A_A rfl (A_z rfl runUnderlying22 rfl) ?_
 refine A_A rfl (A_o rfl rfl) ?_
 refine enk K6 ?_
 refine A_E rfl (fun h17=>?_) (fun h17=>?_)
 ·refine esp K5 ?_
  refine A_C fun _ K7=>?_
  refine A_K ?_
  refine esr rfl fun _ K8=>?_
  refine A_A rfl (A_d 0 sl22 rfl rfl (by omega) (by omega)) ?_
  refine A_A rfl (A_V ti3 rfl) ?_
  refine A_A rfl (A_k sl22 rfl rfl (by omega) (by omega)) ?_
  refine ent_storeV (k:=0) (z:=ix 0 v i) ti3 rfl rfl rfl (A_u (A_F _)) (by omega) (by omega) ?_
  refine enk K8 ?_
  refine esr rfl fun _ K9=>?_
  refine A_A rfl (A_d 0 sl22 rfl rfl (by omega) (by omega)) ?_
  refine A_A rfl (A_V ti3 rfl) ?_
  refine A_A rfl (A_y rfl rfl) ?_
  refine enk K9 ?_
  refine A_E rfl (fun h31=>?_) (fun h31=>?_)
  ·refine A_t 16 mixed (by kernel_rfl) (by kernel_rfl) (by kernel_rfl) ?_
   refine dw_o rfl (A_J rfl) ?_
   refine dw_o rfl (A_J rfl) ?_
   refine dw_o rfl (A_P (k:=1) ti24 rfl rfl rfl) ?_
   refine dw_o rfl (A_J rfl) ?_
   refine dw_o rfl (A_J rfl) ?_
   refine dw_o rfl (A_d 0 sl22 rfl rfl (by omega) (by omega)) ?_
   refine dw_o rfl (A_V ti3 rfl) ?_
   refine dw_o rfl (A_P (k:=1) ti24 rfl rfl rfl) ?_
   refine dw_o rfl (A_J rfl) ?_
   refine dw_o rfl (A_J rfl) ?_
   refine dw_o rfl (A_J rfl) ?_
   refine dw_o rfl (A_d 0 sl22 rfl rfl (by omega) (by omega)) ?_
   refine dw_o rfl (A_V ti3 rfl) ?_
   refine dw_o rfl (A_S (rMul_ok f a (ix 0 u i) ‹_›) rfl) ?_
   refine dw_o rfl (A_S (rAdd_ok f (ix 0 v i) (mulF f a (ix 0 u i)) ‹_›) rfl) ?_
   refine dw_o rfl (A_k sl22 rfl rfl (by omega) (by omega)) ?_
   refine dw_nil ?_
   refine ent_storeV (k:=0) (z:=addF f (ix 0 v i) (mulF f a (ix 0 u i))) ti3 rfl rfl rfl (A_u (A_F _)) (by omega) (by omega) ?_
   refine enk K7 ?_
   refine A_D ?_
   refine emm rfl ?_
   refine A_A rfl (A_m rfl rfl (by omega) (by omega)) ?_
   refine emm rfl ?_
   refine A_O ?_
   refine A_X (s:=(i)) (i+1) ⟨(by omega),‹_›⟩ (by omega) (A_I ⟨rfl,rfl,rfl,rfl,rfl,rfl,trivial⟩ (A_N (A_n (show mixL (addTo f v a u) (List.replicate v.length 0) (i+1)=List.set (List.set (mixL (addTo f v a u) (List.replicate v.length 0) i) (i).toNat (ix 0 v i)) (i).toNat (addF f (ix 0 v i) (mulF f a (ix 0 u i))) by exact addTo_set0 f v a u h0 h17 h31)) (rfl)))
  refine esp K7 ?_
  refine A_D ?_
  refine emm rfl ?_
  refine A_A rfl (A_m rfl rfl (by omega) (by omega)) ?_
  refine emm rfl ?_
  refine A_O ?_
  refine A_X (s:=(i)) (i+1) ⟨(by omega),‹_›⟩ (by omega) (A_I ⟨rfl,rfl,rfl,rfl,rfl,rfl,trivial⟩ (A_N (A_n (show mixL (addTo f v a u) (List.replicate v.length 0) (i+1)=List.set (mixL (addTo f v a u) (List.replicate v.length 0) i) (i).toNat (ix 0 v i) by exact addTo_stay0 f v a u h0 h17 (Classical.not_not.1 h31))) (rfl)))
 refine A_e ?_
 refine A_s K3 ?_
 refine esk rfl ?_
 refine A_R ?_
 exact retR1 (.inr rfl) results81 (A_H (A_T rfl (cvF_vecV (k:=0) flat_int rfl rfl (by simp_all) (by rw [mixL_all _ _ (by simp;omega) (by simp;omega)]))))

theorem rCombine_ok (f:Fld) (x:List Int) (rows:List (List Int)) (cols:Int) (hS:Shape f) (hc0:0<=cols) (hc1:cols<=1000) (hr:∀i:Int,0<=i->i<rows.length->((ix [] rows i).length:Int)=cols):Ctr Tryz.prog 53 [aFld f,aSl 1 false aInt x,aSl 1 false aInts rows,aInt cols] (aSl 1 false aInt (comb f x rows cols)):=by
 refine A_p Tryz.call53 func53 rfl rfl ?_
 intro w O
 refine A_Y 0 2 rfl rfl (fun hlen0_2=>?_)
 refine A_x 1 rfl (fun hlen1=>?_)
 refine A_x 2 rfl (fun hlen2=>?_)
 refine esr rfl fun _ K1=>?_
 refine A_h rfl rfl (AllOne.mem ⟨(A_F _),(A_F _),A_c,trivial⟩) (fun b4_1=>?_)
 refine emm rfl ?_
 refine enk K1 ?_
 refine esr rfl fun _ K2=>?_
 refine ent_make aInt 0 rfl vt22 rfl rfl (by omega) (by omega) (by omega) (fun _ _=>rfl) (AllV.mem ⟨rfl,trivial⟩) (fun b12_2=>?_)
 refine emm rfl ?_
 refine enk K2 ?_
 refine A_C fun _ K3=>?_
 refine A_C fun _ K4=>?_
 refine ent_give 0 9 rfl (cv_vec (k:=0) (off_erase rfl) (by simp) rfl) ?_
 refine A_D ?_
 refine emm rfl ?_
 refine enk K4 ?_
 refine A_K ?_
 refine A_g (fun (i:Int)=>(⟨[(1,aSl 1 false aInt x),(2,aSl 1 false aInts rows),(4,aEx (.pointer (some ⟨b4_1,0,none⟩))),(9,aSl 1 false aInt (combTo f x rows cols i.toNat)),(10,aInt i)],[oBox b4_1 24 [aInt f.P,aInt f.M,aSl 1 false aInt f.mod]]⟩:St)) (fun (i:Int)=>(0<=i)/\(i<=rows.length)/\(i<=x.length)) (fun (i:Int)=>(rows.length-i).toNat) 0 ⟨(by omega),(by omega),(by omega)⟩ (A_I ⟨rfl,rfl,rfl,A_W (av_sl (show List.replicate ((cols).toNat) 0=combTo f x rows cols (0:Int).toNat by rfl)),A_W (A_i (show 0=(0:Int) by rfl)),trivial⟩ rfl) ?_
 rintro i ⟨h0,h1,h2⟩
 show Ent _ ⟨_,[_]⟩ _
 refine A_C fun _ K5=>?_
 refine A_C fun _ K6=>?_
 refine ent_cut (⟨[(1,aSl 1 false aInt x),(2,aSl 1 false aInts rows),(4,aEx (.pointer (some ⟨b4_1,0,none⟩))),(9,aSl 1 false aInt (combTo f x rows cols i.toNat)),(10,aInt i),(22,aBool (decide ((i<(↑rows.length:Int))/\(i<(↑x.length:Int)))))],[oBox b4_1 24 [aInt f.P,aInt f.M,aSl 1 false aInt f.mod]]⟩) ?_ ?_
 ·refine A_D ?_
  refine emm rfl ?_
  refine A_A rfl (A_z rfl runUnderlying25 rfl) ?_
  refine A_A rfl (A_o rfl rfl) ?_
  refine emm rfl ?_
  refine ent_guardXDt rfl rfl rfl rfl (fun hg17=>?_) (fun hg17=>?_)
  ·refine emm rfl ?_
   refine A_M rfl rfl rfl rfl (decide_eq_true hg17) ?_
   refine emm rfl ?_
   refine A_M rfl rfl rfl rfl (decide_eq_true hg17) ?_
   refine A_A rfl (A_z rfl runUnderlying22 rfl) ?_
   refine A_M rfl rfl rfl rfl (decide_eq_true hg17) ?_
   refine A_A rfl (A_o rfl rfl) ?_
   refine A_A rfl (A_l rfl (decide_eq_true hg17) rfl) ?_
   refine A_O ?_
   exact A_I ⟨rfl,rfl,rfl,rfl,rfl,A_Z (dq_Q ((and_iff_right hg17).trans Iff.rfl)),trivial⟩ rfl
  refine A_G rfl rfl rfl rfl (decide_eq_false hg17) ?_
  refine A_G rfl rfl rfl rfl (decide_eq_false hg17) ?_
  refine A_G rfl rfl rfl rfl (decide_eq_false hg17) ?_
  refine A_A rfl (A_r rfl (decide_eq_false hg17) rfl) ?_
  refine A_O ?_
  exact A_I ⟨rfl,rfl,rfl,rfl,rfl,A_Z (dq_F rfl (fun h=>hg17 h.1)),trivial⟩ rfl
 refine A_s K6 ?_
 refine A_E rfl (fun h22=>?_) (fun h22=>?_)
 ·refine esp K5 ?_
  refine A_C fun _ K7=>?_
  refine A_K ?_
  refine esr rfl fun _ K8=>?_
  refine A_A rfl (A_d 0 sl22 rfl rfl (by omega) (by omega)) ?_
  refine A_A rfl (A_V ti3 rfl) ?_
  refine A_A rfl (A_y rfl rfl) ?_
  refine enk K8 ?_
  refine A_E rfl (fun h29=>?_) (fun h29=>?_)
  ·refine A_t 12 mixed (by kernel_rfl) (by kernel_rfl) (by kernel_rfl) ?_
   refine dw_o rfl (A_P (k:=0) ti24 rfl rfl rfl) ?_
   refine dw_o rfl (A_J rfl) ?_
   refine dw_o rfl (A_J rfl) ?_
   refine dw_o rfl (A_J rfl) ?_
   refine dw_o rfl (A_d 0 sl22 rfl rfl (by omega) (by omega)) ?_
   refine dw_o rfl (A_V ti3 rfl) ?_
   refine dw_o rfl (A_J rfl) ?_
   refine dw_o rfl (A_J rfl) ?_
   refine dw_o rfl (A_d [] sl25 rfl rfl (by omega) (by omega)) ?_
   refine dw_o rfl (A_V ti22 rfl) ?_
   refine dw_o rfl (A_S (CtrF.ctr (CtrF.sl (rAddTo_ok f (combTo f x rows cols i.toNat) (ix 0 x i) (ix [] rows i) ‹_› (by have:=hr i h0 (by omega);rw [length_combTo];omega) (by rw [length_combTo];omega)))) rfl) ?_
   refine dw_o rfl (ok_assign rfl) ?_
   refine dw_nil ?_
   refine enk K7 ?_
   refine A_D ?_
   refine emm rfl ?_
   refine A_A rfl (A_m rfl rfl (by omega) (by omega)) ?_
   refine emm rfl ?_
   refine A_O ?_
   refine A_X (s:=(i)) (i+1) ⟨(by omega),(by omega),(by omega)⟩ (by omega) (A_I ⟨rfl,rfl,rfl,A_W (av_sl (show addTo f (combTo f x rows cols i.toNat) (ix 0 x i) (ix [] rows i)=combTo f x rows cols (i+1).toNat by exact combTo_step f x rows cols h0 h29)),rfl,trivial⟩ rfl)
  refine esp K7 ?_
  refine A_D ?_
  refine emm rfl ?_
  refine A_A rfl (A_m rfl rfl (by omega) (by omega)) ?_
  refine emm rfl ?_
  refine A_O ?_
  refine A_X (s:=(i)) (i+1) ⟨(by omega),(by omega),(by omega)⟩ (by omega) (A_I ⟨rfl,rfl,rfl,A_W (av_sl (show combTo f x rows cols i.toNat=combTo f x rows cols (i+1).toNat by exact combTo_stay f x rows cols h0 (Classical.not_not.1 h29))),rfl,trivial⟩ rfl)
 refine A_e ?_
 refine A_s K3 ?_
 refine esk rfl ?_
 refine A_R ?_
 exact retR1 (.inr rfl) results53 (A_H (A_T rfl (cv_sl sub_x (by unfold comb;congr 1;omega))))

theorem SameInts_ok (a b:List Int)  : Ctr Tryz.prog 115 [aSl 1 false aInt a,aSl 1 false aInt b] (aBool (decide (a=b))):=by
 refine A_p Tryz.call115 func115 rfl rfl ?_
 intro w O
 refine A_x 0 rfl (fun hlen0=>?_)
 refine A_x 1 rfl (fun hlen1=>?_)
 refine esk rfl ?_
 refine A_C fun _ K2=>?_
 refine esr rfl fun _ K3=>?_
 refine A_A rfl (A_z rfl runUnderlying22 rfl) ?_
 refine emm rfl ?_
 refine A_A rfl (A_z rfl runUnderlying22 rfl) ?_
 refine A_A rfl (A_y rfl rfl) ?_
 refine enk K3 ?_
 refine A_E rfl (fun h10=>?_) (fun h10=>?_)
 ·refine esk rfl ?_
  refine A_R ?_
  exact retR1 (.inr rfl) results115 (A_H (A_T rfl (cv_bool (by exact (decide_eq_false (fun h=>h10 (by rw [h]))).symm))))
 refine esp K2 ?_
 refine A_C fun _ K5=>?_
 refine esk rfl ?_
 refine A_K ?_
 refine A_g (fun (i:Int)=>(⟨[(0,aSl 1 false aInt a),(1,aSl 1 false aInt b),(5,aInt i)],[]⟩:St)) (fun (i:Int)=>(0<=i)/\(i<=a.length)/\(∀j:Int,0<=j->j<i->ix 0 a j=ix 0 b j)) (fun (i:Int)=>(a.length-i).toNat) 0 ⟨(by omega),(by omega),(fun j j0 j1=>by omega)⟩ (A_I ⟨rfl,rfl,A_W (A_i (show 0=(0:Int) by rfl)),trivial⟩ rfl) ?_
 rintro i ⟨h0,h1,hn⟩
 show Ent _ ⟨_,[]⟩ _
 refine A_C fun _ K7=>?_
 refine esr rfl fun _ K8=>?_
 refine A_A rfl (A_z rfl runUnderlying22 rfl) ?_
 refine A_A rfl (A_o rfl rfl) ?_
 refine enk K8 ?_
 refine A_E rfl (fun h14=>?_) (fun h14=>?_)
 ·refine esp K7 ?_
  refine A_C fun _ K9=>?_
  refine A_K ?_
  refine A_C fun _ K10=>?_
  refine A_t 9 mixed (by kernel_rfl) (by kernel_rfl) (by kernel_rfl) ?_
  refine dw_o rfl (A_J rfl) ?_
  refine dw_o rfl (A_J rfl) ?_
  refine dw_o rfl (A_d 0 sl22 rfl rfl (by omega) (by omega)) ?_
  refine dw_o rfl (A_V ti3 rfl) ?_
  refine dw_o rfl (A_J rfl) ?_
  refine dw_o rfl (A_J rfl) ?_
  refine dw_o rfl (A_d 0 sl22 rfl rfl (by omega) (by omega)) ?_
  refine dw_o rfl (A_V ti3 rfl) ?_
  refine dw_o rfl (A_y rfl rfl) ?_
  refine dw_nil ?_
  refine enk K10 ?_
  refine A_E rfl (fun h25=>?_) (fun h25=>?_)
  ·refine esk rfl ?_
   refine A_R ?_
   exact retR1 (.inr rfl) results115 (A_H (A_T rfl (cv_bool (by exact (decide_eq_false (fun h=>h25 (by rw [h]))).symm))))
  refine esp K9 ?_
  refine A_D ?_
  refine emm rfl ?_
  refine A_A rfl (A_m rfl rfl (by omega) (by omega)) ?_
  refine emm rfl ?_
  refine A_O ?_
  refine A_X (s:=(i)) (i+1) ⟨(by omega),‹_›,(fun j j0 j1=>by by_cases hj:j=i;(rw [hj];exact Classical.not_not.1 h25);exact hn j j0 (by omega))⟩ (by omega) (A_I ⟨rfl,rfl,rfl,trivial⟩ rfl)
 refine A_e ?_
 refine A_s K5 ?_
 refine esk rfl ?_
 refine A_R ?_
 exact retR1 (.inr rfl) results115 (A_H (A_T rfl (cv_bool (by exact (decide_eq_true (ext_ix 0 (by omega) (fun j j0 j1=>hn j j0 (by omega)))).symm))))

theorem SameRows_ok (a b:List (List Int))  : Ctr Tryz.prog 100 [aSl 1 false aInts a,aSl 1 false aInts b] (aBool (decide (a=b))):=by
 refine A_p Tryz.call100 func100 rfl rfl ?_
 intro w O
 refine A_x 0 rfl (fun hlen0=>?_)
 refine A_x 1 rfl (fun hlen1=>?_)
 refine esk rfl ?_
 refine A_C fun _ K2=>?_
 refine esr rfl fun _ K3=>?_
 refine A_A rfl (A_z rfl runUnderlying25 rfl) ?_
 refine emm rfl ?_
 refine A_A rfl (A_z rfl runUnderlying25 rfl) ?_
 refine A_A rfl (A_y rfl rfl) ?_
 refine enk K3 ?_
 refine A_E rfl (fun h10=>?_) (fun h10=>?_)
 ·refine esk rfl ?_
  refine A_R ?_
  exact retR1 (.inr rfl) results100 (A_H (A_T rfl (cv_bool (by exact (decide_eq_false (fun h=>h10 (by rw [h]))).symm))))
 refine esp K2 ?_
 refine A_C fun _ K5=>?_
 refine esk rfl ?_
 refine A_K ?_
 refine A_g (fun (i:Int)=>(⟨[(0,aSl 1 false aInts a),(1,aSl 1 false aInts b),(5,aInt i)],[]⟩:St)) (fun (i:Int)=>(0<=i)/\(i<=a.length)/\(∀j:Int,0<=j->j<i->ix [] a j=ix [] b j)) (fun (i:Int)=>(a.length-i).toNat) 0 ⟨(by omega),(by omega),(fun j j0 j1=>by omega)⟩ (A_I ⟨rfl,rfl,A_W (A_i (show 0=(0:Int) by rfl)),trivial⟩ rfl) ?_
 rintro i ⟨h0,h1,hn⟩
 show Ent _ ⟨_,[]⟩ _
 refine A_C fun _ K7=>?_
 refine esr rfl fun _ K8=>?_
 refine A_A rfl (A_z rfl runUnderlying25 rfl) ?_
 refine A_A rfl (A_o rfl rfl) ?_
 refine enk K8 ?_
 refine A_E rfl (fun h14=>?_) (fun h14=>?_)
 ·refine esp K7 ?_
  refine A_C fun _ K9=>?_
  refine A_K ?_
  refine A_C fun _ K10=>?_
  refine A_t 10 mixed (by kernel_rfl) (by kernel_rfl) (by kernel_rfl) ?_
  refine dw_o rfl (A_J rfl) ?_
  refine dw_o rfl (A_J rfl) ?_
  refine dw_o rfl (A_d [] sl25 rfl rfl (by omega) (by omega)) ?_
  refine dw_o rfl (A_V ti22 rfl) ?_
  refine dw_o rfl (A_J rfl) ?_
  refine dw_o rfl (A_J rfl) ?_
  refine dw_o rfl (A_d [] sl25 rfl rfl (by omega) (by omega)) ?_
  refine dw_o rfl (A_V ti22 rfl) ?_
  refine dw_o rfl (A_S (SameInts_ok (ix [] a i) (ix [] b i)) rfl) ?_
  refine dw_o rfl (ok_notD rfl) ?_
  refine dw_nil ?_
  refine enk K10 ?_
  refine A_E rfl (fun h26=>?_) (fun h26=>?_)
  ·refine esk rfl ?_
   refine A_R ?_
   exact retR1 (.inr rfl) results100 (A_H (A_T rfl (cv_bool (by exact (decide_eq_false (fun h=>h26 (by rw [h]))).symm))))
  refine esp K9 ?_
  refine A_D ?_
  refine emm rfl ?_
  refine A_A rfl (A_m rfl rfl (by omega) (by omega)) ?_
  refine emm rfl ?_
  refine A_O ?_
  refine A_X (s:=(i)) (i+1) ⟨(by omega),‹_›,(fun j j0 j1=>by by_cases hj:j=i;(rw [hj];exact Classical.not_not.1 h26);exact hn j j0 (by omega))⟩ (by omega) (A_I ⟨rfl,rfl,rfl,trivial⟩ rfl)
 refine A_e ?_
 refine A_s K5 ?_
 refine esk rfl ?_
 refine A_R ?_
 exact retR1 (.inr rfl) results100 (A_H (A_T rfl (cv_bool (by exact (decide_eq_true (ext_ix [] (by omega) (fun j j0 j1=>hn j j0 (by omega)))).symm))))
end Go.Proofs.YtcilbmggiahciaaGreat

