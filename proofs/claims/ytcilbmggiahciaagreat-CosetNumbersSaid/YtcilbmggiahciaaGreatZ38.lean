/-
  Walks of functions of the program and the reference.
-/
import Derived.Test.YtcilbmggiahciaaGreatZ37
open Go Go.Cw
namespace Go.Proofs.YtcilbmggiahciaaGreat
open Tryz
set_option maxRecDepth 100000
set_option linter.unusedVariables false
set_option linter.unusedSimpArgs false

abbrev aLab (t:Lab):AV:=aAgg [aInt t.1,aInt t.2.1,aInt t.2.2]

theorem proves_ok (c:Cod) (ls:List Lab) (hc:csE c=0) (h64:∀t∈ls,-9223372036854775808<=t.1/\t.1<=9223372036854775807):Ctr Tryz.prog 58 [aSp c,aSl 3 true aLab ls] (aBool (decide (Prv c ls))):=by
 have hcs:=csE_zero.1 hc
 have hk:=hcs.1
 have hqb:=hk.fld.1.bd
 have hq2:=hk.q2
 have hdd:=hk.dim_dua
 have hn64:=hk.n64
 have hn1:=hk.n1
 have hp1:=pow_pos_of c.F.q hq2 (dua c).Gen.length
 have hct:=hcs.2
 have ltn:=length_turnL (dua c).Gen c.N
 refine A_p Tryz.call58 func58 rfl rfl ?_
 intro w O
 refine ent_lenP 0 5 rfl rfl (fun hlen0_5=>?_)
 refine A_x 1 rfl (fun hlen1=>?_)
 refine esk rfl ?_
 refine A_C fun _ K2=>?_
 refine A_C fun _ K3=>?_
 refine ent_cut (⟨[(0,aSp c),(1,aSl 3 true aLab ls),(26,aBool (decide (((↑ls.length:Int)≠(c.F.q^(dua c).Gen.length))\/([(ix (0,0,0) ls 0).1,(ix (0,0,0) ls 0).2.1,(ix (0,0,0) ls 0).2.2]≠[0,0,0]))))],[]⟩) ?_ ?_
 ·refine A_D ?_
  refine emm rfl ?_
  refine A_A rfl (A_z rfl runUnderlying28 rfl) ?_
  refine emm rfl ?_
  refine A_A rfl (A_q rfl) ?_
  refine A_A rfl (A_f runUnderlying70 rfl sizeOf3 rfl rfl) ?_
  refine A_A rfl (A_V ti3 rfl) ?_
  refine A_A rfl (A_y rfl rfl) ?_
  refine emm rfl ?_
  refine A_v rfl rfl rfl rfl (fun hg20=>?_) (fun hg20=>?_)
  ·refine emm rfl ?_
   refine A_M rfl rfl rfl rfl (decide_eq_false hg20) ?_
   refine A_A rfl (A_d (0,0,0) sl28 rfl rfl (by omega) (by omega)) ?_
   refine A_M rfl rfl rfl rfl (decide_eq_false hg20) ?_
   refine A_A rfl (A_V ti45 rfl) ?_
   refine A_M rfl rfl rfl rfl (decide_eq_false hg20) ?_
   refine A_A rfl (ok_build st45 (As:=[aInt 0,aInt 0,aInt 0]) z45 (rfl)) ?_
   refine A_M rfl rfl rfl rfl (decide_eq_false hg20) ?_
   refine A_A rfl (ok_neqIs (ms:=[(ix (0,0,0) ls 0).1,(ix (0,0,0) ls 0).2.1,(ix (0,0,0) ls 0).2.2]) (ns:=[0,0,0]) is45 rfl rfl rfl rfl) ?_
   refine A_A rfl (A_r rfl (decide_eq_false hg20) rfl) ?_
   refine A_O ?_
   exact A_I ⟨rfl,rfl,A_Z (dq_Q ((or_iff_right hg20).trans Iff.rfl)),trivial⟩ rfl
  refine A_G rfl rfl rfl rfl (decide_eq_true hg20) ?_
  refine A_G rfl rfl rfl rfl (decide_eq_true hg20) ?_
  refine A_G rfl rfl rfl rfl (decide_eq_true hg20) ?_
  refine A_G rfl rfl rfl rfl (decide_eq_true hg20) ?_
  refine A_A rfl (A_l rfl (decide_eq_true hg20) rfl) ?_
  refine A_O ?_
  exact A_I ⟨rfl,rfl,A_Z (dq_T rfl (Or.inl hg20)),trivial⟩ rfl
 refine A_s K3 ?_
 refine A_E rfl (fun h26=>?_) (fun h26=>?_)
 ·refine esk rfl ?_
  refine A_R ?_
  exact retR1 (.inr rfl) results58 (A_H (A_T rfl (cv_bool (by refine (decide_eq_false (fun h=>?_)).symm;exact h26.elim (fun g=>g h.len) (fun g=>lab_neq g h.zero)))))
 have hlen:(ls.length:Int)=c.F.q^(dua c).Gen.length:=Classical.not_not.1 fun h=>h26 (.inl h)
 have hz0:ix (0,0,0) ls 0=(0,0,0):=lab_zero (fun h=>h26 (.inr h))
 refine esp K2 ?_
 refine A_C fun _ K5=>?_
 refine esr rfl fun _ K6=>?_
 refine A_A rfl (A_z rfl runUnderlying28 rfl) ?_
 refine emm rfl ?_
 refine enk K6 ?_
 refine A_K ?_
 refine A_g (fun (x:Int)=>(⟨[(0,aSp c),(1,aSl 3 true aLab ls),(27,aSl 3 true aLab ls),(28,aInt (↑ls.length:Int)),(29,aInt x)],[]⟩:St)) (fun (x:Int)=>(0<=x)/\(x<=ls.length)/\(∀z:Int,1<=z->z<x->LabOk c ls z)) (fun (x:Int)=>(ls.length-x).toNat) 0 ⟨(by omega),(by omega),(fun z z0 z1=>by omega)⟩ (A_I ⟨rfl,rfl,rfl,rfl,A_W (A_i (show 0=(0:Int) by rfl)),trivial⟩ rfl) ?_
 rintro x ⟨x0,x1,h2⟩
 show Ent _ ⟨_,[]⟩ _
 refine esr rfl fun _ K7=>?_
 refine A_A rfl (A_o rfl rfl) ?_
 refine enk K7 ?_
 refine A_C fun _ K8=>?_
 refine A_E rfl (fun h30=>?_) (fun h30=>?_)
 ·refine esp K8 ?_
  refine A_C fun _ K9=>?_
  refine A_K ?_
  refine esr rfl fun _ K10=>?_
  refine A_A rfl (A_d (0,0,0) sl28 rfl rfl (by omega) (by omega)) ?_
  refine A_A rfl (A_V ti45 rfl) ?_
  refine ent_alloc (z:=.agg #[.int .i64 0,.int .i64 0,.int .i64 0]) [aInt 0,aInt 0,aInt 0] rfl zv45 rfl zc45 (fun b6_1=>?_)
  refine emm rfl ?_
  refine ent_storeBS (k:=0) sizeOf45 rfl rfl rfl (AllOne.mem ⟨(A_F _),(A_F _),(A_F _),trivial⟩) rfl rfl ?_
  show Ent _ ⟨_,[_]⟩ _
  refine enk K10 ?_
  refine esr rfl fun _ K11=>?_
  refine A_A rfl (ok_gtr rfl rfl) ?_
  refine enk K11 ?_
  refine A_E rfl (fun h35=>?_) (fun h35=>?_)
  ·refine A_C fun _ K12=>?_
   refine A_C fun _ K13=>?_
   refine ent_cut (⟨[(0,aSp c),(1,aSl 3 true aLab ls),(5,aInt x),(6,aEx (.pointer (some ⟨b6_1,0,none⟩))),(27,aSl 3 true aLab ls),(28,aInt (↑ls.length:Int)),(29,aInt x),(61,aBool (decide ((((((ix (0,0,0) ls x).2.1)<0)\/(c.N<=((ix (0,0,0) ls x).2.1)))\/(((ix (0,0,0) ls x).2.2)<1))\/(c.F.q<=((ix (0,0,0) ls x).2.2)))))],[oBox b6_1 45 [aInt ((ix (0,0,0) ls x).1),aInt ((ix (0,0,0) ls x).2.1),aInt ((ix (0,0,0) ls x).2.2)]]⟩) ?_ ?_
   ·refine A_t 26 mixed (by kernel_rfl) (drawQ_F (by kernel_rfl)) (by kernel_rfl) ?_
    refine dw_o rfl (A_B runUnderlying45 rfl sizeOf3 (by decide) rfl) ?_
    refine dw_o rfl (A_L (k:=0) isAgg3 rfl rfl rfl) ?_
    refine dw_o rfl (A_o rfl rfl) ?_
    refine dw_o rfl (A_J rfl) ?_
    refine dw_guardDf rfl rfl rfl rfl (fun hg39=>?_) (fun hg39=>?_)
    ·refine dw_o rfl (A_B runUnderlying45 rfl sizeOf3 (by decide) rfl) ?_
     refine A_b rfl rfl rfl rfl (decide_eq_false hg39) ?_
     refine dw_o rfl (A_L (k:=0) isAgg3 rfl rfl rfl) ?_
     refine A_b rfl rfl rfl rfl (decide_eq_false hg39) ?_
     refine dw_o rfl (A_J rfl) ?_
     refine A_b rfl rfl rfl rfl (decide_eq_false hg39) ?_
     refine dw_o rfl (A_q rfl) ?_
     refine A_b rfl rfl rfl rfl (decide_eq_false hg39) ?_
     refine dw_o rfl (A_f runUnderlying70 rfl sizeOf3 rfl rfl) ?_
     refine A_b rfl rfl rfl rfl (decide_eq_false hg39) ?_
     refine dw_o rfl (A_V ti3 rfl) ?_
     refine A_b rfl rfl rfl rfl (decide_eq_false hg39) ?_
     refine dw_o rfl (ok_geq rfl rfl) ?_
     refine dw_o rfl (A_r rfl (decide_eq_false hg39) rfl) ?_
     refine dw_o rfl (A_J rfl) ?_
     refine dw_guardDf rfl rfl rfl rfl (fun hg48=>?_) (fun hg48=>?_)
     ·refine dw_o rfl (A_B runUnderlying45 rfl sizeOf3 (by decide) rfl) ?_
      refine A_b rfl rfl rfl rfl (decide_eq_false hg48) ?_
      refine dw_o rfl (A_L (k:=0) isAgg3 rfl rfl rfl) ?_
      refine A_b rfl rfl rfl rfl (decide_eq_false hg48) ?_
      refine dw_o rfl (A_o rfl rfl) ?_
      refine dw_o rfl (A_r rfl (decide_eq_false hg48) rfl) ?_
      refine dw_o rfl (A_J rfl) ?_
      refine dw_guardDf rfl rfl rfl rfl (fun hg53=>?_) (fun hg53=>?_)
      ·refine dw_o rfl (A_B runUnderlying45 rfl sizeOf3 (by decide) rfl) ?_
       refine A_b rfl rfl rfl rfl (decide_eq_false hg53) ?_
       refine dw_o rfl (A_L (k:=0) isAgg3 rfl rfl rfl) ?_
       refine A_b rfl rfl rfl rfl (decide_eq_false hg53) ?_
       refine dw_o rfl (A_J rfl) ?_
       refine A_b rfl rfl rfl rfl (decide_eq_false hg53) ?_
       refine dw_o rfl (A_q rfl) ?_
       refine A_b rfl rfl rfl rfl (decide_eq_false hg53) ?_
       refine dw_o rfl (A_f runUnderlying70 rfl sizeOf3 rfl rfl) ?_
       refine A_b rfl rfl rfl rfl (decide_eq_false hg53) ?_
       refine dw_o rfl (A_V ti3 rfl) ?_
       refine A_b rfl rfl rfl rfl (decide_eq_false hg53) ?_
       refine dw_o rfl (ok_geq rfl rfl) ?_
       refine dw_o rfl (A_r rfl (decide_eq_false hg53) rfl) ?_
       refine dw_nil ?_
       refine A_O ?_
       exact A_I ⟨rfl,rfl,rfl,rfl,rfl,rfl,rfl,A_Z (dq_Q ((or_iff_right (fun h=>h.elim (fun h=>h.elim hg39 hg48) hg53)).trans Iff.rfl)),trivial⟩ rfl
      refine A_U rfl rfl rfl rfl (decide_eq_true hg53) ?_
      refine A_U rfl rfl rfl rfl (decide_eq_true hg53) ?_
      refine A_U rfl rfl rfl rfl (decide_eq_true hg53) ?_
      refine A_U rfl rfl rfl rfl (decide_eq_true hg53) ?_
      refine A_U rfl rfl rfl rfl (decide_eq_true hg53) ?_
      refine A_U rfl rfl rfl rfl (decide_eq_true hg53) ?_
      refine dw_o rfl (A_l rfl (decide_eq_true hg53) rfl) ?_
      refine dw_nil ?_
      refine A_O ?_
      exact A_I ⟨rfl,rfl,rfl,rfl,rfl,rfl,rfl,A_Z (dq_T rfl (Or.inl (Or.inr hg53))),trivial⟩ rfl
     refine A_U rfl rfl rfl rfl (decide_eq_true hg48) ?_
     refine A_U rfl rfl rfl rfl (decide_eq_true hg48) ?_
     refine dw_o rfl (A_l rfl (decide_eq_true hg48) rfl) ?_
     refine dw_o rfl (A_J rfl) ?_
     refine A_U rfl rfl rfl rfl rfl ?_
     refine A_U rfl rfl rfl rfl rfl ?_
     refine A_U rfl rfl rfl rfl rfl ?_
     refine A_U rfl rfl rfl rfl rfl ?_
     refine A_U rfl rfl rfl rfl rfl ?_
     refine A_U rfl rfl rfl rfl rfl ?_
     refine A_U rfl rfl rfl rfl rfl ?_
     refine dw_o rfl (A_l rfl rfl rfl) ?_
     refine dw_nil ?_
     refine A_O ?_
     exact A_I ⟨rfl,rfl,rfl,rfl,rfl,rfl,rfl,A_Z (dq_T rfl (Or.inl (Or.inl (Or.inr hg48)))),trivial⟩ rfl
    refine A_U rfl rfl rfl rfl (decide_eq_true hg39) ?_
    refine A_U rfl rfl rfl rfl (decide_eq_true hg39) ?_
    refine A_U rfl rfl rfl rfl (decide_eq_true hg39) ?_
    refine A_U rfl rfl rfl rfl (decide_eq_true hg39) ?_
    refine A_U rfl rfl rfl rfl (decide_eq_true hg39) ?_
    refine A_U rfl rfl rfl rfl (decide_eq_true hg39) ?_
    refine dw_o rfl (A_l rfl (decide_eq_true hg39) rfl) ?_
    refine dw_o rfl (A_J rfl) ?_
    refine A_U rfl rfl rfl rfl rfl ?_
    refine A_U rfl rfl rfl rfl rfl ?_
    refine A_U rfl rfl rfl rfl rfl ?_
    refine dw_o rfl (A_l rfl rfl rfl) ?_
    refine dw_o rfl (A_J rfl) ?_
    refine A_U rfl rfl rfl rfl rfl ?_
    refine A_U rfl rfl rfl rfl rfl ?_
    refine A_U rfl rfl rfl rfl rfl ?_
    refine A_U rfl rfl rfl rfl rfl ?_
    refine A_U rfl rfl rfl rfl rfl ?_
    refine A_U rfl rfl rfl rfl rfl ?_
    refine A_U rfl rfl rfl rfl rfl ?_
    refine dw_o rfl (A_l rfl rfl rfl) ?_
    refine dw_nil ?_
    refine A_O ?_
    exact A_I ⟨rfl,rfl,rfl,rfl,rfl,rfl,rfl,A_Z (dq_T rfl (Or.inl (Or.inl (Or.inl hg39)))),trivial⟩ rfl
   refine A_s K13 ?_
   refine A_E rfl (fun h61=>?_) (fun h61=>?_)
   ·refine esk rfl ?_
    refine A_R ?_
    exact retR1 (.inr rfl) results58 (A_H (A_T rfl (cv_bool (by refine (decide_eq_false (fun h=>?_)).symm;have hl:=h.two x (by omega) (by omega);unfold LabOk lbl at hl;omega))))
   have hpj:0<=(ix (0,0,0) ls x).2.1/\(ix (0,0,0) ls x).2.1<c.N/\1<=(ix (0,0,0) ls x).2.2/\(ix (0,0,0) ls x).2.2<c.F.q:=by omega
   refine esp K12 ?_
   refine esr rfl fun _ K15=>?_
   refine A_A rfl (A_B runUnderlying45 rfl sizeOf3 (by decide) rfl) ?_
   refine A_A rfl (A_L (k:=0) isAgg3 rfl rfl rfl) ?_
   refine A_A rfl (A_B runUnderlying45 rfl sizeOf3 (by decide) rfl) ?_
   refine A_A rfl (A_L (k:=0) isAgg3 rfl rfl rfl) ?_
   refine A_A rfl (A_S (minus_ok c x ((ix (0,0,0) ls x).2.1) ((ix (0,0,0) ls x).2.2) hk hct ‹_› (by omega) (by omega) (by omega)) rfl) ?_
   refine emm rfl ?_
   refine enk K15 ?_
   refine A_C fun _ K16=>?_
   refine ent_cut (⟨[(0,aSp c),(1,aSl 3 true aLab ls),(27,aSl 3 true aLab ls),(28,aInt (↑ls.length:Int)),(29,aInt x),(82,aBool (decide ((((ix (0,0,0) ls x).1)<1)\/(((ix (0,0,0) ls (minV c x ((ix (0,0,0) ls x).2.1) ((ix (0,0,0) ls x).2.2))).1)≠(((ix (0,0,0) ls x).1)-1)))))],[oBox b6_1 45 [aInt ((ix (0,0,0) ls x).1),aInt ((ix (0,0,0) ls x).2.1),aInt ((ix (0,0,0) ls x).2.2)]]⟩) ?_ ?_
   ·have hw64:=h64 _ (ix_mem (0,0,0) ls x0 (by omega))
    have hmv:=min_dig hk x (ix (0,0,0) ls x).2.1 (ix (0,0,0) ls x).2.2
    refine A_t 14 mixed (by kernel_rfl) (by kernel_rfl) (by kernel_rfl) ?_
    refine dw_o rfl (A_B runUnderlying45 rfl sizeOf3 (by decide) rfl) ?_
    refine dw_o rfl (A_L (k:=0) isAgg3 rfl rfl rfl) ?_
    refine dw_o rfl (A_o rfl rfl) ?_
    refine dw_o rfl (A_J rfl) ?_
    refine dw_guardDf rfl rfl rfl rfl (fun hg72=>?_) (fun hg72=>?_)
    ·refine dw_o rfl (A_J rfl) ?_
     refine A_b rfl rfl rfl rfl (decide_eq_false hg72) ?_
     refine dw_o rfl (A_J rfl) ?_
     refine A_b rfl rfl rfl rfl (decide_eq_false hg72) ?_
     refine dw_o rfl (A_d (0,0,0) sl28 rfl rfl (by omega) (by omega)) ?_
     refine A_b rfl rfl rfl rfl (decide_eq_false hg72) ?_
     refine dw_o rfl (A_f runUnderlying45 rfl sizeOf3 rfl rfl) ?_
     refine A_b rfl rfl rfl rfl (decide_eq_false hg72) ?_
     refine dw_o rfl (A_V ti3 rfl) ?_
     refine A_b rfl rfl rfl rfl (decide_eq_false hg72) ?_
     refine dw_o rfl (A_B runUnderlying45 rfl sizeOf3 (by decide) rfl) ?_
     refine A_b rfl rfl rfl rfl (decide_eq_false hg72) ?_
     refine dw_o rfl (A_L (k:=0) isAgg3 rfl rfl rfl) ?_
     refine A_b rfl rfl rfl rfl (decide_eq_false hg72) ?_
     refine dw_o rfl (ok_sub rfl rfl (by omega) (by omega)) ?_
     refine A_b rfl rfl rfl rfl (decide_eq_false hg72) ?_
     refine dw_o rfl (A_y rfl rfl) ?_
     refine dw_o rfl (A_r rfl (decide_eq_false hg72) rfl) ?_
     refine dw_nil ?_
     refine A_O ?_
     exact A_I ⟨rfl,rfl,rfl,rfl,rfl,A_Z (dq_Q ((or_iff_right hg72).trans Iff.rfl)),trivial⟩ rfl
    refine A_U rfl rfl rfl rfl (decide_eq_true hg72) ?_
    refine A_U rfl rfl rfl rfl (decide_eq_true hg72) ?_
    refine A_U rfl rfl rfl rfl (decide_eq_true hg72) ?_
    refine A_U rfl rfl rfl rfl (decide_eq_true hg72) ?_
    refine A_U rfl rfl rfl rfl (decide_eq_true hg72) ?_
    refine A_U rfl rfl rfl rfl (decide_eq_true hg72) ?_
    refine A_U rfl rfl rfl rfl (decide_eq_true hg72) ?_
    refine A_U rfl rfl rfl rfl (decide_eq_true hg72) ?_
    refine dw_o rfl (A_l rfl (decide_eq_true hg72) rfl) ?_
    refine dw_nil ?_
    refine A_O ?_
    exact A_I ⟨rfl,rfl,rfl,rfl,rfl,A_Z (dq_T rfl (Or.inl hg72)),trivial⟩ rfl
   refine A_s K16 ?_
   refine A_E rfl (fun h82=>?_) (fun h82=>?_)
   ·refine esk rfl ?_
    refine A_R ?_
    exact retR1 (.inr rfl) results58 (A_H (A_T rfl (cv_bool (by refine (decide_eq_false (fun h=>?_)).symm;have hl:=h.two x (by omega) (by omega);unfold LabOk lbl at hl;omega))))
   have hlx:LabOk c ls x:=by unfold LabOk lbl;omega
   refine esp K9 ?_
   refine A_D ?_
   refine A_A rfl (A_m rfl rfl (by omega) (by omega)) ?_
   refine emm rfl ?_
   refine A_O ?_
   refine ent_drop 0 ?_
   refine A_X (s:=(x)) (x+1) ⟨(by omega),‹_›,(fun z z0 z1=>by by_cases hz:z=x;(rw [hz];first | exact hlx | omega);exact h2 z z0 (by omega))⟩ (by omega) (A_I ⟨rfl,rfl,rfl,rfl,rfl,trivial⟩ rfl)
  refine esp K9 ?_
  refine A_D ?_
  refine A_A rfl (A_m rfl rfl (by omega) (by omega)) ?_
  refine emm rfl ?_
  refine A_O ?_
  refine ent_drop 0 ?_
  refine A_X (s:=(x)) (x+1) ⟨(by omega),‹_›,(fun z z0 z1=>by by_cases hz:z=x;(rw [hz];first | exact hlx | omega);exact h2 z z0 (by omega))⟩ (by omega) (A_I ⟨rfl,rfl,rfl,rfl,rfl,trivial⟩ rfl)
 refine A_e ?_
 refine A_s K5 ?_
 refine A_C fun _ K18=>?_
 refine A_C fun _ K19=>?_
 have htwo:∀z:Int,1<=z->z<c.F.q^(dua c).Gen.length->LabOk c ls z:=fun z z0 z1=>h2 z z0 (by omega)
 refine A_D ?_
 refine emm rfl ?_
 refine A_A rfl (A_z rfl runUnderlying28 rfl) ?_
 refine emm rfl ?_
 refine enk K19 ?_
 refine A_K ?_
 refine A_g (fun (u:Int)=>(⟨[(0,aSp c),(1,aSl 3 true aLab ls),(84,aSl 3 true aLab ls),(85,aInt (↑ls.length:Int)),(86,aInt u)],[]⟩:St)) (fun (u:Int)=>(0<=u)/\(u<=ls.length)/\(∀z j2 a2:Int,0<=z->z<u->0<=j2->j2<c.N->1<=a2->a2<c.F.q->Step3 c ls z j2 a2)) (fun (u:Int)=>(ls.length-u).toNat) 0 ⟨(by omega),(by omega),(fun z j2 a2 z0 z1=>by omega)⟩ (A_I ⟨rfl,rfl,rfl,rfl,A_W (A_i (show 0=(0:Int) by rfl)),trivial⟩ rfl) ?_
 rintro u ⟨u0,u1,h3⟩
 show Ent _ ⟨_,[]⟩ _
 refine esr rfl fun _ K20=>?_
 refine A_A rfl (A_o rfl rfl) ?_
 refine enk K20 ?_
 refine A_C fun _ K21=>?_
 refine A_E rfl (fun h87=>?_) (fun h87=>?_)
 ·refine esp K21 ?_
  refine A_C fun _ K22=>?_
  refine A_K ?_
  refine esr rfl fun _ K23=>?_
  refine A_A rfl (A_d (0,0,0) sl28 rfl rfl (by omega) (by omega)) ?_
  refine A_A rfl (A_V ti45 rfl) ?_
  refine ent_alloc (z:=.agg #[.int .i64 0,.int .i64 0,.int .i64 0]) [aInt 0,aInt 0,aInt 0] rfl zv45 rfl zc45 (fun b9_2=>?_)
  refine emm rfl ?_
  refine ent_storeBS (k:=0) sizeOf45 rfl rfl rfl (AllOne.mem ⟨(A_F _),(A_F _),(A_F _),trivial⟩) rfl rfl ?_
  show Ent _ ⟨_,[_]⟩ _
  refine enk K23 ?_
  refine esr rfl fun _ K24=>?_
  refine A_A rfl (A_q rfl) ?_
  refine A_A rfl (A_f runUnderlying70 rfl sizeOf25 rfl rfl) ?_
  refine A_A rfl (A_V ti25 rfl) ?_
  refine A_A rfl (A_z rfl runUnderlying25 rfl) ?_
  refine emm rfl ?_
  refine enk K24 ?_
  refine A_K ?_
  refine A_g (fun (j:Int)=>(⟨[(0,aSp c),(1,aSl 3 true aLab ls),(8,aInt u),(9,aEx (.pointer (some ⟨b9_2,0,none⟩))),(84,aSl 3 true aLab ls),(85,aInt (↑ls.length:Int)),(86,aInt u),(95,aInt (↑(turnL (dua c).Gen c.N).length:Int)),(96,aInt j)],[oBox b9_2 45 [aInt ((ix (0,0,0) ls u).1),aInt ((ix (0,0,0) ls u).2.1),aInt ((ix (0,0,0) ls u).2.2)]]⟩:St)) (fun (j:Int)=>(0<=j)/\(j<=c.N)/\(∀j2 a2:Int,0<=j2->j2<j->1<=a2->a2<c.F.q->Step3 c ls u j2 a2)) (fun (j:Int)=>(c.N-j).toNat) 0 ⟨(by omega),(by omega),(fun j2 a2 z0 z1=>by omega)⟩ (A_I ⟨rfl,rfl,rfl,rfl,rfl,rfl,rfl,rfl,A_W (A_i (show 0=(0:Int) by rfl)),trivial⟩ rfl) ?_
  rintro j ⟨j0,j1,h4⟩
  show Ent _ ⟨_,[_]⟩ _
  refine esr rfl fun _ K25=>?_
  refine A_A rfl (A_o rfl rfl) ?_
  refine enk K25 ?_
  refine A_C fun _ K26=>?_
  refine A_E rfl (fun h97=>?_) (fun h97=>?_)
  ·refine esp K26 ?_
   refine A_C fun _ K27=>?_
   refine A_K ?_
   refine esk rfl ?_
   refine esk rfl ?_
   refine A_K ?_
   refine A_g (fun (a:Int)=>(⟨[(0,aSp c),(1,aSl 3 true aLab ls),(8,aInt u),(9,aEx (.pointer (some ⟨b9_2,0,none⟩))),(10,aInt j),(11,aInt a),(84,aSl 3 true aLab ls),(85,aInt (↑ls.length:Int)),(86,aInt u),(95,aInt (↑(turnL (dua c).Gen c.N).length:Int)),(96,aInt j)],[oBox b9_2 45 [aInt ((ix (0,0,0) ls u).1),aInt ((ix (0,0,0) ls u).2.1),aInt ((ix (0,0,0) ls u).2.2)]]⟩:St)) (fun (a:Int)=>(1<=a)/\(a<=c.F.q)/\(∀a2:Int,1<=a2->a2<a->Step3 c ls u j a2)) (fun (a:Int)=>(c.F.q-a).toNat) 1 ⟨(by omega),(by omega),(fun a2 z0 z1=>by omega)⟩ (A_I ⟨rfl,rfl,rfl,rfl,rfl,A_W (A_i (show 1=(1:Int) by rfl)),rfl,rfl,rfl,rfl,rfl,trivial⟩ rfl) ?_
   rintro a ⟨a0,a1,h5⟩
   show Ent _ ⟨_,[_]⟩ _
   refine A_C fun _ K30=>?_
   refine esr rfl fun _ K31=>?_
   refine A_A rfl (A_q rfl) ?_
   refine A_A rfl (A_f runUnderlying70 rfl sizeOf3 rfl rfl) ?_
   refine A_A rfl (A_V ti3 rfl) ?_
   refine A_A rfl (A_o rfl rfl) ?_
   refine enk K31 ?_
   refine A_E rfl (fun h104=>?_) (fun h104=>?_)
   ·have hmu:=min_dig hk u j a
    have hbu:0<=(ix (0,0,0) ls u).1/\(ix (0,0,0) ls u).1<c.F.q^(dua c).Gen.length:=two_bd hk hz0 htwo u0 (by omega)
    refine esp K30 ?_
    refine A_C fun _ K32=>?_
    refine A_K ?_
    refine esr rfl fun _ K33=>?_
    refine A_A rfl (A_S (minus_ok c u j a hk hct ‹_› (by omega) ‹_› (by omega)) rfl) ?_
    refine A_A rfl (A_d (0,0,0) sl28 rfl rfl (by omega) (by omega)) ?_
    refine A_A rfl (A_f runUnderlying45 rfl sizeOf3 rfl rfl) ?_
    refine A_A rfl (A_V ti3 rfl) ?_
    refine emm rfl ?_
    refine enk K33 ?_
    refine A_C fun _ K34=>?_
    refine ent_cut (⟨[(0,aSp c),(1,aSl 3 true aLab ls),(8,aInt u),(9,aEx (.pointer (some ⟨b9_2,0,none⟩))),(10,aInt j),(11,aInt a),(84,aSl 3 true aLab ls),(85,aInt (↑ls.length:Int)),(86,aInt u),(95,aInt (↑(turnL (dua c).Gen c.N).length:Int)),(96,aInt j),(127,aBool (decide (((((ix (0,0,0) ls u).1)+1)<((ix (0,0,0) ls (minV c u j a)).1))\/(((ix (0,0,0) ls (minV c u j a)).1)<(((ix (0,0,0) ls u).1)-1)))))],[oBox b9_2 45 [aInt ((ix (0,0,0) ls u).1),aInt ((ix (0,0,0) ls u).2.1),aInt ((ix (0,0,0) ls u).2.2)]]⟩) ?_ ?_
    ·refine A_D ?_
     refine emm rfl ?_
     refine A_A rfl (A_B runUnderlying45 rfl sizeOf3 (by decide) rfl) ?_
     refine A_A rfl (A_L (k:=0) isAgg3 rfl rfl rfl) ?_
     refine A_A rfl (A_m rfl rfl (by omega) (by omega)) ?_
     refine A_A rfl (ok_gtr rfl rfl) ?_
     refine emm rfl ?_
     refine A_v rfl rfl rfl rfl (fun hg121=>?_) (fun hg121=>?_)
     ·refine emm rfl ?_
      refine A_M rfl rfl rfl rfl (decide_eq_false hg121) ?_
      refine A_A rfl (A_B runUnderlying45 rfl sizeOf3 (by decide) rfl) ?_
      refine A_M rfl rfl rfl rfl (decide_eq_false hg121) ?_
      refine A_A rfl (A_L (k:=0) isAgg3 rfl rfl rfl) ?_
      refine A_M rfl rfl rfl rfl (decide_eq_false hg121) ?_
      refine A_A rfl (ok_sub rfl rfl (by omega) (by omega)) ?_
      refine A_M rfl rfl rfl rfl (decide_eq_false hg121) ?_
      refine A_A rfl (A_o rfl rfl) ?_
      refine A_A rfl (A_r rfl (decide_eq_false hg121) rfl) ?_
      refine A_O ?_
      exact A_I ⟨rfl,rfl,rfl,rfl,rfl,rfl,rfl,rfl,rfl,rfl,rfl,A_Z (dq_Q ((or_iff_right hg121).trans Iff.rfl)),trivial⟩ rfl
     refine A_G rfl rfl rfl rfl (decide_eq_true hg121) ?_
     refine A_G rfl rfl rfl rfl (decide_eq_true hg121) ?_
     refine A_G rfl rfl rfl rfl (decide_eq_true hg121) ?_
     refine A_G rfl rfl rfl rfl (decide_eq_true hg121) ?_
     refine A_A rfl (A_l rfl (decide_eq_true hg121) rfl) ?_
     refine A_O ?_
     exact A_I ⟨rfl,rfl,rfl,rfl,rfl,rfl,rfl,rfl,rfl,rfl,rfl,A_Z (dq_T rfl (Or.inl hg121)),trivial⟩ rfl
    refine A_s K34 ?_
    refine A_E rfl (fun h127=>?_) (fun h127=>?_)
    ·refine esk rfl ?_
     refine A_R ?_
     exact retR1 (.inr rfl) results58 (A_H (A_T rfl (cv_bool (by refine (decide_eq_false (fun h=>?_)).symm;exact h.three u j a u0 (by omega) j0 (by omega) a0 (by omega) h127))))
    refine esp K32 ?_
    refine A_D ?_
    refine emm rfl ?_
    refine A_A rfl (A_m rfl rfl (by omega) (by omega)) ?_
    refine emm rfl ?_
    refine A_O ?_
    refine A_X (s:=(a)) (a+1) ⟨(by omega),‹_›,(fun a2 b0 b1=>by by_cases hz:a2=a;(rw [hz];exact h127);exact h5 a2 b0 (by omega))⟩ (by omega) (A_I ⟨rfl,rfl,rfl,rfl,rfl,rfl,rfl,rfl,rfl,rfl,rfl,trivial⟩ rfl)
   refine A_e ?_
   refine A_s K27 ?_
   refine A_D ?_
   refine A_A rfl (A_m rfl rfl (by omega) (by omega)) ?_
   refine emm rfl ?_
   refine A_O ?_
   refine A_X (s:=(j)) (j+1) ⟨(by omega),(by omega),(fun j2 a2 b0 b1 c0 c1=>by by_cases hz:j2=j;(rw [hz];exact h5 a2 c0 (by omega));exact h4 j2 a2 b0 (by omega) c0 c1)⟩ (by omega) (A_I ⟨rfl,rfl,rfl,rfl,rfl,rfl,rfl,rfl,rfl,trivial⟩ rfl)
  refine A_e ?_
  refine A_s K22 ?_
  refine A_D ?_
  refine A_A rfl (A_m rfl rfl (by omega) (by omega)) ?_
  refine emm rfl ?_
  refine A_O ?_
  refine ent_drop 0 ?_
  refine A_X (s:=(u)) (u+1) ⟨(by omega),‹_›,(fun z j2 a2 z0 z1 b0 b1 c0 c1=>by by_cases hz:z=u;(rw [hz];exact h4 j2 a2 b0 (by omega) c0 c1);exact h3 z j2 a2 z0 (by omega) b0 b1 c0 c1)⟩ (by omega) (A_I ⟨rfl,rfl,rfl,rfl,rfl,trivial⟩ rfl)
 refine A_e ?_
 refine A_s K18 ?_
 refine esk rfl ?_
 refine A_R ?_
 exact retR1 (.inr rfl) results58 (A_H (A_T rfl (cv_bool (by exact (decide_eq_true (⟨hlen,hz0,htwo,fun z j2 a2 z0 z1 b0 b1 c0 c1=>h3 z j2 a2 z0 (by omega) b0 b1 c0 c1⟩:Prv c ls)).symm))))

theorem rProves_ok (c:Cod) (ls:List Lab) (hc:csE c=0):Ctr Tryz.prog 34 [aCod c,aSl 3 true aLab ls] (aBool (decide (Prv c ls))):=by
 have hcs:=csE_zero.1 hc
 have hk:=hcs.1
 have hqb:=hk.fld.1.bd
 have hq2:=hk.q2
 have hdd:=hk.dim_dua
 have hn64:=hk.n64
 have hn1:=hk.n1
 have hp1:=pow_pos_of c.F.q hq2 (dua c).Gen.length
 have hct:=hcs.2
 have ltn:=length_turnL (dua c).Gen c.N
 have lnb:(nbL c).length=(c.F.q^(dua c).Gen.length).toNat:=A_j _ _
 have hmb:c.N*(c.F.q-1)<=64*255:=Int.mul_le_mul (by omega) (by omega) (by omega) (by decide)
 refine A_p Tryz.call34 func34 rfl rfl ?_
 intro w O
 refine A_Y 0 2 rfl rfl (fun hlen0_2=>?_)
 refine A_Y 0 4 rfl rfl (fun hlen0_4=>?_)
 refine A_x 1 rfl (fun hlen1=>?_)
 refine esr rfl fun _ K1=>?_
 refine A_h rfl rfl (AllOne.mem ⟨(A_F _),(A_F _),A_c,(A_F _),A_c,trivial⟩) (fun b2_1=>?_)
 refine emm rfl ?_
 refine enk K1 ?_
 refine esr rfl fun _ K2=>?_
 refine A_A rfl (A_P (k:=0) ti27 rfl rfl rfl) ?_
 refine A_A rfl (A_S (rNbr_ok c hc) rfl) ?_
 refine emm rfl ?_
 refine enk K2 ?_
 refine esr rfl fun _ K3=>?_
 refine A_A rfl (A_B runUnderlying27 rfl sizeOf24 (by decide) rfl) ?_
 refine A_A rfl (A_P (k:=0) ti24 rfl rfl rfl) ?_
 refine A_A rfl (A_S (rOrder_ok c.F) rfl) ?_
 refine emm rfl ?_
 refine enk K3 ?_
 refine A_C fun _ K4=>?_
 refine A_C fun _ K5=>?_
 refine ent_cut (⟨[(1,aSl 3 true aLab ls),(2,aEx (.pointer (some ⟨b2_1,0,none⟩))),(5,aSl 1 false aInts (nbL c)),(6,aInt c.F.q),(27,aBool (decide (((↑ls.length:Int)≠(↑(nbL c).length:Int))\/([(ix (0,0,0) ls 0).1,(ix (0,0,0) ls 0).2.1,(ix (0,0,0) ls 0).2.2]≠[0,0,0]))))],[oBox b2_1 27 [aInt c.F.P,aInt c.F.M,aSl 1 false aInt c.F.mod,aInt c.N,aSl 1 false aInts c.Gen]]⟩) ?_ ?_
 ·refine A_D ?_
  refine emm rfl ?_
  refine A_A rfl (A_z rfl runUnderlying28 rfl) ?_
  refine emm rfl ?_
  refine A_A rfl (A_z rfl runUnderlying25 rfl) ?_
  refine A_A rfl (A_y rfl rfl) ?_
  refine emm rfl ?_
  refine A_v rfl rfl rfl rfl (fun hg21=>?_) (fun hg21=>?_)
  ·refine emm rfl ?_
   refine A_M rfl rfl rfl rfl (decide_eq_false hg21) ?_
   refine A_A rfl (A_d (0,0,0) sl28 rfl rfl (by omega) (by omega)) ?_
   refine A_M rfl rfl rfl rfl (decide_eq_false hg21) ?_
   refine A_A rfl (A_V ti45 rfl) ?_
   refine A_M rfl rfl rfl rfl (decide_eq_false hg21) ?_
   refine A_A rfl (ok_build st45 (As:=[aInt 0,aInt 0,aInt 0]) z45 (rfl)) ?_
   refine A_M rfl rfl rfl rfl (decide_eq_false hg21) ?_
   refine A_A rfl (ok_neqIs (ms:=[(ix (0,0,0) ls 0).1,(ix (0,0,0) ls 0).2.1,(ix (0,0,0) ls 0).2.2]) (ns:=[0,0,0]) is45 rfl rfl rfl rfl) ?_
   refine A_A rfl (A_r rfl (decide_eq_false hg21) rfl) ?_
   refine A_O ?_
   exact A_I ⟨rfl,rfl,rfl,rfl,A_Z (dq_Q ((or_iff_right hg21).trans Iff.rfl)),trivial⟩ rfl
  refine A_G rfl rfl rfl rfl (decide_eq_true hg21) ?_
  refine A_G rfl rfl rfl rfl (decide_eq_true hg21) ?_
  refine A_G rfl rfl rfl rfl (decide_eq_true hg21) ?_
  refine A_G rfl rfl rfl rfl (decide_eq_true hg21) ?_
  refine A_A rfl (A_l rfl (decide_eq_true hg21) rfl) ?_
  refine A_O ?_
  exact A_I ⟨rfl,rfl,rfl,rfl,A_Z (dq_T rfl (Or.inl hg21)),trivial⟩ rfl
 refine A_s K5 ?_
 refine A_E rfl (fun h27=>?_) (fun h27=>?_)
 ·refine esk rfl ?_
  refine A_R ?_
  exact retR1 (.inr rfl) results34 (A_H (A_T rfl (cv_bool (by rw [decide_eq_decide.2 (prv_iff hk ls)];refine (decide_eq_false (fun h=>?_)).symm;exact h27.elim (fun g=>g (by have:=h.len;omega)) (fun g=>lab_neq g h.zero)))))
 have hlen:(ls.length:Int)=c.F.q^(dua c).Gen.length:=Classical.not_not.1 fun h=>h27 (.inl (by omega))
 have hz0:ix (0,0,0) ls 0=(0,0,0):=lab_zero (fun h=>h27 (.inr h))
 refine esp K4 ?_
 refine A_C fun _ K7=>?_
 refine esk rfl ?_
 refine A_K ?_
 refine A_g (fun (x:Int)=>(⟨[(1,aSl 3 true aLab ls),(2,aEx (.pointer (some ⟨b2_1,0,none⟩))),(5,aSl 1 false aInts (nbL c)),(6,aInt c.F.q),(7,aInt x)],[oBox b2_1 27 [aInt c.F.P,aInt c.F.M,aSl 1 false aInt c.F.mod,aInt c.N,aSl 1 false aInts c.Gen]]⟩:St)) (fun (x:Int)=>(1<=x)/\(x<=ls.length)/\(∀z:Int,1<=z->z<x->LabOk c ls z/\(lbl ls z).1<=c.N)) (fun (x:Int)=>(ls.length-x).toNat) 1 ⟨(by omega),(by omega),(fun z z0 z1=>by omega)⟩ (A_I ⟨rfl,rfl,rfl,rfl,A_W (A_i (show 1=(1:Int) by rfl)),trivial⟩ rfl) ?_
 rintro x ⟨x0,x1,h2⟩
 show Ent _ ⟨_,[_]⟩ _
 refine A_C fun _ K9=>?_
 refine esr rfl fun _ K10=>?_
 refine A_A rfl (A_z rfl runUnderlying28 rfl) ?_
 refine A_A rfl (A_o rfl rfl) ?_
 refine enk K10 ?_
 refine A_E rfl (fun h31=>?_) (fun h31=>?_)
 ·refine esp K9 ?_
  refine A_C fun _ K11=>?_
  refine A_K ?_
  refine esr rfl fun _ K12=>?_
  refine A_A rfl (A_d (0,0,0) sl28 rfl rfl (by omega) (by omega)) ?_
  refine A_A rfl (A_V ti45 rfl) ?_
  refine ent_alloc (z:=.agg #[.int .i64 0,.int .i64 0,.int .i64 0]) [aInt 0,aInt 0,aInt 0] rfl zv45 rfl zc45 (fun b8_2=>?_)
  refine ent_storeBS (k:=0) sizeOf45 rfl rfl rfl (AllOne.mem ⟨(A_F _),(A_F _),(A_F _),trivial⟩) rfl rfl ?_
  show Ent _ ⟨_,[_,_]⟩ _
  refine enk K12 ?_
  refine A_C fun _ K13=>?_
  refine A_C fun _ K14=>?_
  refine ent_cut (⟨[(1,aSl 3 true aLab ls),(2,aEx (.pointer (some ⟨b2_1,0,none⟩))),(5,aSl 1 false aInts (nbL c)),(6,aInt c.F.q),(7,aInt x),(8,aEx (.pointer (some ⟨b8_2,0,none⟩))),(58,aBool (decide ((((((ix (0,0,0) ls x).2.1)<0)\/(c.N<=((ix (0,0,0) ls x).2.1)))\/(((ix (0,0,0) ls x).2.2)<1))\/(c.F.q<=((ix (0,0,0) ls x).2.2)))))],[oBox b8_2 45 [aInt ((ix (0,0,0) ls x).1),aInt ((ix (0,0,0) ls x).2.1),aInt ((ix (0,0,0) ls x).2.2)],oBox b2_1 27 [aInt c.F.P,aInt c.F.M,aSl 1 false aInt c.F.mod,aInt c.N,aSl 1 false aInts c.Gen]]⟩) ?_ ?_
  ·refine A_D ?_
   refine A_A rfl (A_B runUnderlying45 rfl sizeOf3 (by decide) rfl) ?_
   refine A_A rfl (A_L (k:=0) isAgg3 rfl rfl rfl) ?_
   refine A_A rfl (A_o rfl rfl) ?_
   refine emm rfl ?_
   refine A_v rfl rfl rfl rfl (fun hg41=>?_) (fun hg41=>?_)
   ·refine A_A rfl (A_B runUnderlying45 rfl sizeOf3 (by decide) rfl) ?_
    refine A_M rfl rfl rfl rfl (decide_eq_false hg41) ?_
    refine A_A rfl (A_L (k:=0) isAgg3 rfl rfl rfl) ?_
    refine A_M rfl rfl rfl rfl (decide_eq_false hg41) ?_
    refine A_A rfl (A_B runUnderlying27 rfl sizeOf3 (by decide) rfl) ?_
    refine A_M rfl rfl rfl rfl (decide_eq_false hg41) ?_
    refine A_A rfl (A_L (k:=1) isAgg3 rfl rfl rfl) ?_
    refine A_M rfl rfl rfl rfl (decide_eq_false hg41) ?_
    refine A_A rfl (ok_geq rfl rfl) ?_
    refine A_A rfl (A_r rfl (decide_eq_false hg41) rfl) ?_
    refine emm rfl ?_
    refine A_v rfl rfl rfl rfl (fun hg48=>?_) (fun hg48=>?_)
    ·refine A_A rfl (A_B runUnderlying45 rfl sizeOf3 (by decide) rfl) ?_
     refine A_M rfl rfl rfl rfl (decide_eq_false hg48) ?_
     refine A_A rfl (A_L (k:=0) isAgg3 rfl rfl rfl) ?_
     refine A_M rfl rfl rfl rfl (decide_eq_false hg48) ?_
     refine A_A rfl (A_o rfl rfl) ?_
     refine A_A rfl (A_r rfl (decide_eq_false hg48) rfl) ?_
     refine emm rfl ?_
     refine A_v rfl rfl rfl rfl (fun hg53=>?_) (fun hg53=>?_)
     ·refine A_A rfl (A_B runUnderlying45 rfl sizeOf3 (by decide) rfl) ?_
      refine A_M rfl rfl rfl rfl (decide_eq_false hg53) ?_
      refine A_A rfl (A_L (k:=0) isAgg3 rfl rfl rfl) ?_
      refine A_M rfl rfl rfl rfl (decide_eq_false hg53) ?_
      refine emm rfl ?_
      refine A_M rfl rfl rfl rfl (decide_eq_false hg53) ?_
      refine A_A rfl (ok_geq rfl rfl) ?_
      refine A_A rfl (A_r rfl (decide_eq_false hg53) rfl) ?_
      refine A_O ?_
      exact A_I ⟨rfl,rfl,rfl,rfl,rfl,rfl,A_Z (dq_Q ((or_iff_right (fun h=>h.elim (fun h=>h.elim hg41 hg48) hg53)).trans Iff.rfl)),trivial⟩ rfl
     refine A_G rfl rfl rfl rfl (decide_eq_true hg53) ?_
     refine A_G rfl rfl rfl rfl (decide_eq_true hg53) ?_
     refine A_G rfl rfl rfl rfl (decide_eq_true hg53) ?_
     refine A_A rfl (A_l rfl (decide_eq_true hg53) rfl) ?_
     refine A_O ?_
     exact A_I ⟨rfl,rfl,rfl,rfl,rfl,rfl,A_Z (dq_T rfl (Or.inl (Or.inr hg53))),trivial⟩ rfl
    refine A_G rfl rfl rfl rfl (decide_eq_true hg48) ?_
    refine A_G rfl rfl rfl rfl (decide_eq_true hg48) ?_
    refine A_A rfl (A_l rfl (decide_eq_true hg48) rfl) ?_
    refine emm rfl ?_
    refine A_G rfl rfl rfl rfl rfl ?_
    refine A_G rfl rfl rfl rfl rfl ?_
    refine A_G rfl rfl rfl rfl rfl ?_
    refine A_G rfl rfl rfl rfl rfl ?_
    refine A_A rfl (A_l rfl rfl rfl) ?_
    refine A_O ?_
    exact A_I ⟨rfl,rfl,rfl,rfl,rfl,rfl,A_Z (dq_T rfl (Or.inl (Or.inl (Or.inr hg48)))),trivial⟩ rfl
   refine A_G rfl rfl rfl rfl (decide_eq_true hg41) ?_
   refine A_G rfl rfl rfl rfl (decide_eq_true hg41) ?_
   refine A_G rfl rfl rfl rfl (decide_eq_true hg41) ?_
   refine A_G rfl rfl rfl rfl (decide_eq_true hg41) ?_
   refine A_A rfl (A_l rfl (decide_eq_true hg41) rfl) ?_
   refine emm rfl ?_
   refine A_G rfl rfl rfl rfl rfl ?_
   refine A_G rfl rfl rfl rfl rfl ?_
   refine A_G rfl rfl rfl rfl rfl ?_
   refine A_A rfl (A_l rfl rfl rfl) ?_
   refine emm rfl ?_
   refine A_G rfl rfl rfl rfl rfl ?_
   refine A_G rfl rfl rfl rfl rfl ?_
   refine A_G rfl rfl rfl rfl rfl ?_
   refine A_G rfl rfl rfl rfl rfl ?_
   refine A_A rfl (A_l rfl rfl rfl) ?_
   refine A_O ?_
   exact A_I ⟨rfl,rfl,rfl,rfl,rfl,rfl,A_Z (dq_T rfl (Or.inl (Or.inl (Or.inl hg41)))),trivial⟩ rfl
  refine A_s K14 ?_
  refine A_E rfl (fun h58=>?_) (fun h58=>?_)
  ·refine esk rfl ?_
   refine A_R ?_
   exact retR1 (.inr rfl) results34 (A_H (A_T rfl (cv_bool (by rw [decide_eq_decide.2 (prv_iff hk ls)];refine (decide_eq_false (fun h=>?_)).symm;have hl:=h.two x (by omega) (by omega);unfold LabOk lbl at hl;omega))))
  have hpj:0<=(ix (0,0,0) ls x).2.1/\(ix (0,0,0) ls x).2.1<c.N/\1<=(ix (0,0,0) ls x).2.2/\(ix (0,0,0) ls x).2.2<c.F.q:=by omega
  have hnl:=nb_lt hq2 hpj.1 hpj.2.1 hpj.2.2.1 hpj.2.2.2
  have hmv:=min_dig hk x (ix (0,0,0) ls x).2.1 (ix (0,0,0) ls x).2.2
  have hnb:ix 0 (ix [] (nbL c) x) ((ix (0,0,0) ls x).2.1*(c.F.q-1)+(ix (0,0,0) ls x).2.2-1)=minV c x (ix (0,0,0) ls x).2.1 (ix (0,0,0) ls x).2.2:=nb_ent hq2 (by omega) (by omega) hpj.1 hpj.2.1 hpj.2.2.1 hpj.2.2.2
  have lrw:(ix [] (nbL c) x).length=(c.N*(c.F.q-1)).toNat:=by rw [ix_nbL c (by omega) (by omega),A_j]
  refine esp K13 ?_
  refine A_C fun _ K16=>?_
  refine ent_cut (⟨[(1,aSl 3 true aLab ls),(2,aEx (.pointer (some ⟨b2_1,0,none⟩))),(5,aSl 1 false aInts (nbL c)),(6,aInt c.F.q),(7,aInt x),(93,aBool (decide (((((ix (0,0,0) ls x).1)<1)\/(c.N<((ix (0,0,0) ls x).1)))\/(((ix (0,0,0) ls (ix 0 (ix [] (nbL c) x) (((((ix (0,0,0) ls x).2.1)*(c.F.q-1))+((ix (0,0,0) ls x).2.2))-1))).1)≠(((ix (0,0,0) ls x).1)-1)))))],[oBox b8_2 45 [aInt ((ix (0,0,0) ls x).1),aInt ((ix (0,0,0) ls x).2.1),aInt ((ix (0,0,0) ls x).2.2)],oBox b2_1 27 [aInt c.F.P,aInt c.F.M,aSl 1 false aInt c.F.mod,aInt c.N,aSl 1 false aInts c.Gen]]⟩) ?_ ?_
  ·refine A_t 35 mixed (by kernel_rfl) (drawQ_F (by kernel_rfl)) (by kernel_rfl) ?_
   refine dw_o rfl (A_B runUnderlying45 rfl sizeOf3 (by decide) rfl) ?_
   refine dw_o rfl (A_L (k:=0) isAgg3 rfl rfl rfl) ?_
   refine dw_o rfl (A_o rfl rfl) ?_
   refine dw_o rfl (A_J rfl) ?_
   refine dw_guardDf rfl rfl rfl rfl (fun hg62=>?_) (fun hg62=>?_)
   ·refine dw_o rfl (A_B runUnderlying45 rfl sizeOf3 (by decide) rfl) ?_
    refine A_b rfl rfl rfl rfl (decide_eq_false hg62) ?_
    refine dw_o rfl (A_L (k:=0) isAgg3 rfl rfl rfl) ?_
    refine A_b rfl rfl rfl rfl (decide_eq_false hg62) ?_
    refine dw_o rfl (A_B runUnderlying27 rfl sizeOf3 (by decide) rfl) ?_
    refine A_b rfl rfl rfl rfl (decide_eq_false hg62) ?_
    refine dw_o rfl (A_L (k:=1) isAgg3 rfl rfl rfl) ?_
    refine A_b rfl rfl rfl rfl (decide_eq_false hg62) ?_
    refine dw_o rfl (ok_gtr rfl rfl) ?_
    refine dw_o rfl (A_r rfl (decide_eq_false hg62) rfl) ?_
    refine dw_o rfl (A_J rfl) ?_
    refine dw_guardDf rfl rfl rfl rfl (fun hg69=>?_) (fun hg69=>?_)
    ·refine dw_o rfl (A_J rfl) ?_
     refine A_b rfl rfl rfl rfl (decide_eq_false hg69) ?_
     refine dw_o rfl (A_J rfl) ?_
     refine A_b rfl rfl rfl rfl (decide_eq_false hg69) ?_
     refine dw_o rfl (A_J rfl) ?_
     refine A_b rfl rfl rfl rfl (decide_eq_false hg69) ?_
     refine dw_o rfl (A_d [] sl25 rfl rfl (by omega) (by omega)) ?_
     refine A_b rfl rfl rfl rfl (decide_eq_false hg69) ?_
     refine dw_o rfl (A_V ti22 rfl) ?_
     refine A_b rfl rfl rfl rfl (decide_eq_false hg69) ?_
     refine dw_o rfl (A_B runUnderlying45 rfl sizeOf3 (by decide) rfl) ?_
     refine A_b rfl rfl rfl rfl (decide_eq_false hg69) ?_
     refine dw_o rfl (A_L (k:=0) isAgg3 rfl rfl rfl) ?_
     refine A_b rfl rfl rfl rfl (decide_eq_false hg69) ?_
     refine dw_o rfl (A_J rfl) ?_
     refine A_b rfl rfl rfl rfl (decide_eq_false hg69) ?_
     refine dw_o rfl (ok_sub rfl rfl (by omega) (by omega)) ?_
     refine A_b rfl rfl rfl rfl (decide_eq_false hg69) ?_
     refine dw_o rfl (ok_mul rfl rfl (by omega) (by omega)) ?_
     refine A_b rfl rfl rfl rfl (decide_eq_false hg69) ?_
     refine dw_o rfl (A_B runUnderlying45 rfl sizeOf3 (by decide) rfl) ?_
     refine A_b rfl rfl rfl rfl (decide_eq_false hg69) ?_
     refine dw_o rfl (A_L (k:=0) isAgg3 rfl rfl rfl) ?_
     refine A_b rfl rfl rfl rfl (decide_eq_false hg69) ?_
     refine dw_o rfl (A_m rfl rfl (by omega) (by omega)) ?_
     refine A_b rfl rfl rfl rfl (decide_eq_false hg69) ?_
     refine dw_o rfl (ok_sub rfl rfl (by omega) (by omega)) ?_
     refine A_b rfl rfl rfl rfl (decide_eq_false hg69) ?_
     refine dw_o rfl (A_d 0 sl22 rfl rfl (by omega) (by omega)) ?_
     refine A_b rfl rfl rfl rfl (decide_eq_false hg69) ?_
     refine dw_o rfl (A_V ti3 rfl) ?_
     refine A_b rfl rfl rfl rfl (decide_eq_false hg69) ?_
     refine dw_o rfl (A_d (0,0,0) sl28 rfl rfl (by omega) (by omega)) ?_
     refine A_b rfl rfl rfl rfl (decide_eq_false hg69) ?_
     refine dw_o rfl (A_f runUnderlying45 rfl sizeOf3 rfl rfl) ?_
     refine A_b rfl rfl rfl rfl (decide_eq_false hg69) ?_
     refine dw_o rfl (A_V ti3 rfl) ?_
     refine A_b rfl rfl rfl rfl (decide_eq_false hg69) ?_
     refine dw_o rfl (A_B runUnderlying45 rfl sizeOf3 (by decide) rfl) ?_
     refine A_b rfl rfl rfl rfl (decide_eq_false hg69) ?_
     refine dw_o rfl (A_L (k:=0) isAgg3 rfl rfl rfl) ?_
     refine A_b rfl rfl rfl rfl (decide_eq_false hg69) ?_
     refine dw_o rfl (ok_sub rfl rfl (by omega) (by omega)) ?_
     refine A_b rfl rfl rfl rfl (decide_eq_false hg69) ?_
     refine dw_o rfl (A_y rfl rfl) ?_
     refine dw_o rfl (A_r rfl (decide_eq_false hg69) rfl) ?_
     refine dw_nil ?_
     refine A_O ?_
     exact A_I ⟨rfl,rfl,rfl,rfl,rfl,A_Z (dq_Q ((or_iff_right (fun h=>h.elim hg62 hg69)).trans Iff.rfl)),trivial⟩ rfl
    refine A_U rfl rfl rfl rfl (decide_eq_true hg69) ?_
    refine A_U rfl rfl rfl rfl (decide_eq_true hg69) ?_
    refine A_U rfl rfl rfl rfl (decide_eq_true hg69) ?_
    refine A_U rfl rfl rfl rfl (decide_eq_true hg69) ?_
    refine A_U rfl rfl rfl rfl (decide_eq_true hg69) ?_
    refine A_U rfl rfl rfl rfl (decide_eq_true hg69) ?_
    refine A_U rfl rfl rfl rfl (decide_eq_true hg69) ?_
    refine A_U rfl rfl rfl rfl (decide_eq_true hg69) ?_
    refine A_U rfl rfl rfl rfl (decide_eq_true hg69) ?_
    refine A_U rfl rfl rfl rfl (decide_eq_true hg69) ?_
    refine A_U rfl rfl rfl rfl (decide_eq_true hg69) ?_
    refine A_U rfl rfl rfl rfl (decide_eq_true hg69) ?_
    refine A_U rfl rfl rfl rfl (decide_eq_true hg69) ?_
    refine A_U rfl rfl rfl rfl (decide_eq_true hg69) ?_
    refine A_U rfl rfl rfl rfl (decide_eq_true hg69) ?_
    refine A_U rfl rfl rfl rfl (decide_eq_true hg69) ?_
    refine A_U rfl rfl rfl rfl (decide_eq_true hg69) ?_
    refine A_U rfl rfl rfl rfl (decide_eq_true hg69) ?_
    refine A_U rfl rfl rfl rfl (decide_eq_true hg69) ?_
    refine A_U rfl rfl rfl rfl (decide_eq_true hg69) ?_
    refine A_U rfl rfl rfl rfl (decide_eq_true hg69) ?_
    refine A_U rfl rfl rfl rfl (decide_eq_true hg69) ?_
    refine dw_o rfl (A_l rfl (decide_eq_true hg69) rfl) ?_
    refine dw_nil ?_
    refine A_O ?_
    exact A_I ⟨rfl,rfl,rfl,rfl,rfl,A_Z (dq_T rfl (Or.inl (Or.inr hg69))),trivial⟩ rfl
   refine A_U rfl rfl rfl rfl (decide_eq_true hg62) ?_
   refine A_U rfl rfl rfl rfl (decide_eq_true hg62) ?_
   refine A_U rfl rfl rfl rfl (decide_eq_true hg62) ?_
   refine A_U rfl rfl rfl rfl (decide_eq_true hg62) ?_
   refine dw_o rfl (A_l rfl (decide_eq_true hg62) rfl) ?_
   refine dw_o rfl (A_J rfl) ?_
   refine A_U rfl rfl rfl rfl rfl ?_
   refine A_U rfl rfl rfl rfl rfl ?_
   refine A_U rfl rfl rfl rfl rfl ?_
   refine A_U rfl rfl rfl rfl rfl ?_
   refine A_U rfl rfl rfl rfl rfl ?_
   refine A_U rfl rfl rfl rfl rfl ?_
   refine A_U rfl rfl rfl rfl rfl ?_
   refine A_U rfl rfl rfl rfl rfl ?_
   refine A_U rfl rfl rfl rfl rfl ?_
   refine A_U rfl rfl rfl rfl rfl ?_
   refine A_U rfl rfl rfl rfl rfl ?_
   refine A_U rfl rfl rfl rfl rfl ?_
   refine A_U rfl rfl rfl rfl rfl ?_
   refine A_U rfl rfl rfl rfl rfl ?_
   refine A_U rfl rfl rfl rfl rfl ?_
   refine A_U rfl rfl rfl rfl rfl ?_
   refine A_U rfl rfl rfl rfl rfl ?_
   refine A_U rfl rfl rfl rfl rfl ?_
   refine A_U rfl rfl rfl rfl rfl ?_
   refine A_U rfl rfl rfl rfl rfl ?_
   refine A_U rfl rfl rfl rfl rfl ?_
   refine A_U rfl rfl rfl rfl rfl ?_
   refine A_U rfl rfl rfl rfl rfl ?_
   refine dw_o rfl (A_l rfl rfl rfl) ?_
   refine dw_nil ?_
   refine A_O ?_
   exact A_I ⟨rfl,rfl,rfl,rfl,rfl,A_Z (dq_T rfl (Or.inl (Or.inl hg62))),trivial⟩ rfl
  refine A_s K16 ?_
  refine A_E rfl (fun h93=>?_) (fun h93=>?_)
  ·refine esk rfl ?_
   refine A_R ?_
   exact retR1 (.inr rfl) results34 (A_H (A_T rfl (cv_bool (by rw [decide_eq_decide.2 (prv_iff hk ls)];refine (decide_eq_false (fun h=>?_)).symm;have hl:=h.two x (by omega) (by omega);rw [hnb] at h93;unfold LabOk lbl at hl;omega))))
  have hlx:LabOk c ls x/\(lbl ls x).1<=c.N:=by rw [hnb] at h93;unfold LabOk lbl;omega
  refine esp K11 ?_
  refine A_D ?_
  refine emm rfl ?_
  refine A_A rfl (A_m rfl rfl (by omega) (by omega)) ?_
  refine emm rfl ?_
  refine A_O ?_
  refine ent_drop 0 ?_
  refine A_X (s:=(x)) (x+1) ⟨(by omega),‹_›,(fun z z0 z1=>by by_cases hz:z=x;(rw [hz];exact hlx);exact h2 z z0 (by omega))⟩ (by omega) (A_I ⟨rfl,rfl,rfl,rfl,rfl,trivial⟩ rfl)
 refine A_e ?_
 refine A_s K7 ?_
 refine A_C fun _ K18=>?_
 refine esk rfl ?_
 refine A_K ?_
 refine A_g (fun (u:Int)=>(⟨[(1,aSl 3 true aLab ls),(5,aSl 1 false aInts (nbL c)),(9,aInt u)],[oBox b2_1 27 [aInt c.F.P,aInt c.F.M,aSl 1 false aInt c.F.mod,aInt c.N,aSl 1 false aInts c.Gen]]⟩:St)) (fun (u:Int)=>(0<=u)/\(u<=ls.length)/\(∀z k2:Int,0<=z->z<u->0<=k2->k2<c.N*(c.F.q-1)->¬((lbl ls z).1+1<(lbl ls (nbG c z k2)).1))) (fun (u:Int)=>(ls.length-u).toNat) 0 ⟨(by omega),(by omega),(fun z k2 z0 z1=>by omega)⟩ (A_I ⟨rfl,rfl,A_W (A_i (show 0=(0:Int) by rfl)),trivial⟩ rfl) ?_
 rintro u ⟨u0,u1,h3⟩
 show Ent _ ⟨_,[_]⟩ _
 refine A_C fun _ K20=>?_
 refine esr rfl fun _ K21=>?_
 refine A_A rfl (A_z rfl runUnderlying28 rfl) ?_
 refine A_A rfl (A_o rfl rfl) ?_
 refine enk K21 ?_
 refine A_E rfl (fun h97=>?_) (fun h97=>?_)
 ·have lru:(ix [] (nbL c) u).length=(c.N*(c.F.q-1)).toNat:=by rw [ix_nbL c u0 (by omega),A_j]
  have hbu:0<=(ix (0,0,0) ls u).1/\(ix (0,0,0) ls u).1<=64:=by
    by_cases e:u=0
    ·rw [e,hz0];exact ⟨Int.le_refl 0,by decide⟩
    have hl:=h2 u (by omega) (by omega);unfold LabOk lbl at hl;omega
  refine esp K20 ?_
  refine A_C fun _ K22=>?_
  refine A_K ?_
  refine esk rfl ?_
  refine A_K ?_
  refine A_g (fun (k:Int)=>(⟨[(1,aSl 3 true aLab ls),(5,aSl 1 false aInts (nbL c)),(9,aInt u),(10,aInt k)],[oBox b2_1 27 [aInt c.F.P,aInt c.F.M,aSl 1 false aInt c.F.mod,aInt c.N,aSl 1 false aInts c.Gen]]⟩:St)) (fun (k:Int)=>(0<=k)/\(k<=(ix [] (nbL c) u).length)/\(∀k2:Int,0<=k2->k2<k->¬((lbl ls u).1+1<(lbl ls (nbG c u k2)).1))) (fun (k:Int)=>((ix [] (nbL c) u).length-k).toNat) 0 ⟨(by omega),(by omega),(fun k2 z0 z1=>by omega)⟩ (A_I ⟨rfl,rfl,rfl,A_W (A_i (show 0=(0:Int) by rfl)),trivial⟩ rfl) ?_
  rintro k ⟨k0,k1,h4⟩
  show Ent _ ⟨_,[_]⟩ _
  refine A_C fun _ K24=>?_
  refine esr rfl fun _ K25=>?_
  refine A_A rfl (A_d [] sl25 rfl rfl (by omega) (by omega)) ?_
  refine A_A rfl (A_V ti22 rfl) ?_
  refine A_A rfl (A_z rfl runUnderlying22 rfl) ?_
  refine A_A rfl (A_o rfl rfl) ?_
  refine enk K25 ?_
  refine A_E rfl (fun h106=>?_) (fun h106=>?_)
  ·have hnu:ix 0 (ix [] (nbL c) u) k=nbG c u k:=by rw [ix_nbL c u0 (by omega),A_w 0 _ k0 (by omega)]
   have hmu:0<=nbG c u k/\nbG c u k<c.F.q^(dua c).Gen.length:=⟨(min_dig hk _ _ _).1,(min_dig hk _ _ _).2.1⟩
   refine esp K24 ?_
   refine A_C fun _ K26=>?_
   refine A_K ?_
   refine A_C fun _ K27=>?_
   refine A_t 18 mixed (by kernel_rfl) (by kernel_rfl) (by kernel_rfl) ?_
   refine dw_o rfl (A_J rfl) ?_
   refine dw_o rfl (A_J rfl) ?_
   refine dw_o rfl (A_J rfl) ?_
   refine dw_o rfl (A_d [] sl25 rfl rfl (by omega) (by omega)) ?_
   refine dw_o rfl (A_V ti22 rfl) ?_
   refine dw_o rfl (A_J rfl) ?_
   refine dw_o rfl (A_d 0 sl22 rfl rfl (by omega) (by omega)) ?_
   refine dw_o rfl (A_V ti3 rfl) ?_
   refine dw_o rfl (A_d (0,0,0) sl28 rfl rfl (by omega) (by omega)) ?_
   refine dw_o rfl (A_f runUnderlying45 rfl sizeOf3 rfl rfl) ?_
   refine dw_o rfl (A_V ti3 rfl) ?_
   refine dw_o rfl (A_J rfl) ?_
   refine dw_o rfl (A_J rfl) ?_
   refine dw_o rfl (A_d (0,0,0) sl28 rfl rfl (by omega) (by omega)) ?_
   refine dw_o rfl (A_f runUnderlying45 rfl sizeOf3 rfl rfl) ?_
   refine dw_o rfl (A_V ti3 rfl) ?_
   refine dw_o rfl (A_m rfl rfl (by omega) (by omega)) ?_
   refine dw_o rfl (ok_gtr rfl rfl) ?_
   refine dw_nil ?_
   refine enk K27 ?_
   refine A_E rfl (fun h126=>?_) (fun h126=>?_)
   ·refine esk rfl ?_
    refine A_R ?_
    exact retR1 (.inr rfl) results34 (A_H (A_T rfl (cv_bool (by rw [decide_eq_decide.2 (prv_iff hk ls)];refine (decide_eq_false (fun h=>?_)).symm;have hs:=nb_split hq2 k0 (show k<c.N*(c.F.q-1) by omega);rw [hnu] at h126;exact h.three u (k/(c.F.q-1)) (k%(c.F.q-1)+1) u0 (by omega) hs.1 hs.2.1 hs.2.2.1 hs.2.2.2 h126))))
   refine esp K26 ?_
   refine A_D ?_
   refine emm rfl ?_
   refine A_A rfl (A_m rfl rfl (by omega) (by omega)) ?_
   refine emm rfl ?_
   refine A_O ?_
   refine A_X (s:=(k)) (k+1) ⟨(by omega),‹_›,(fun k2 b0 b1=>by by_cases hz:k2=k;(rw [hz];rw [hnu] at h126;exact h126);exact h4 k2 b0 (by omega))⟩ (by omega) (A_I ⟨rfl,rfl,rfl,rfl,trivial⟩ rfl)
  refine A_e ?_
  refine A_s K22 ?_
  refine A_D ?_
  refine emm rfl ?_
  refine A_A rfl (A_m rfl rfl (by omega) (by omega)) ?_
  refine emm rfl ?_
  refine A_O ?_
  refine A_X (s:=(u)) (u+1) ⟨(by omega),‹_›,(fun z k2 z0 z1 b0 b1=>by by_cases hz:z=u;(rw [hz];exact h4 k2 b0 (by omega));exact h3 z k2 z0 (by omega) b0 b1)⟩ (by omega) (A_I ⟨rfl,rfl,rfl,trivial⟩ rfl)
 refine A_e ?_
 refine A_s K18 ?_
 refine esk rfl ?_
 refine A_R ?_
 exact retR1 (.inr rfl) results34 (A_H (A_T rfl (cv_bool (by rw [decide_eq_decide.2 (prv_iff hk ls)];exact (decide_eq_true (⟨hlen,hz0,fun z z0 z1=>h2 z z0 (by omega),fun z j2 a2 z0 z1 b0 b1 c0 c1=>by have hn:=nb_lt hq2 b0 b1 c0 c1;have hh:=h3 z (j2*(c.F.q-1)+a2-1) z0 (by omega) (by omega) hn.2;rw [nbG_at c hq2 z c0 c1] at hh;exact hh⟩:PrvR c ls)).symm))))
end Go.Proofs.YtcilbmggiahciaaGreat

