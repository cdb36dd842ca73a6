/-
  Walks of functions of the program and the reference.
-/
import Derived.Test.YtcilbmggiahciaaGreatCkLib
import Derived.Test.YtcilbmggiahciaaGreatZ54
open Go Go.Cw
namespace Go.Proofs.YtcilbmggiahciaaGreat
open Tryz
set_option maxRecDepth 100000
set_option linter.unusedVariables false
set_option linter.unusedSimpArgs false
theorem mt77:MapTy Tryz.prog 77 3 3:=⟨underlying77,underlying3,underlying3,Tryz.zeroValue3⟩

theorem cnt_step (c:Cod) (ls:List Lab) (bm m:Nat) (s:MSt) (x:Int) (hc:csE c=0) (hp:Prv c ls) (hs:c.F.q^(dua c).Gen.length<=1024) (x0:0<=x) (x1:x<c.F.q^(dua c).Gen.length) (hw:(lbl ls x).1=(m:Int)) (hI:MInv c ls s) (IH:∀(y:Int) (s:MSt),0<=y->y<c.F.q^(dua c).Gen.length->(lbl ls y).1+1=(m:Int)->MInv c ls s->CtrW Tryz.prog 43 [oMp Tryz.prog 3 3 bm s] [aInt y,aAt 1 false (aEx (.map (some bm))),aAt 1 false (aSp c),aAt 1 false (aSl 3 true aLab ls),aFrm 43 [aAt 1 false (aEx (.map (some bm))),aAt 1 false (aSp c),aAt 1 false (aSl 3 true aLab ls)] m] (fun (s2:MSt)=>MInv c ls s2/\∀z:Int,(lbl ls y).1<(lbl ls z).1->s2.1 z=s.1 z) (fun (s2:MSt)=>aInt (numL c ls y)) (fun (s2:MSt)=>[oMp Tryz.prog 3 3 bm s2])):CtrW Tryz.prog 43 [oMp Tryz.prog 3 3 bm s] [aInt x,aAt 1 false (aEx (.map (some bm))),aAt 1 false (aSp c),aAt 1 false (aSl 3 true aLab ls),aFrm 43 [aAt 1 false (aEx (.map (some bm))),aAt 1 false (aSp c),aAt 1 false (aSl 3 true aLab ls)] (m+1)] (fun (s2:MSt)=>MInv c ls s2/\∀z:Int,(lbl ls x).1<(lbl ls z).1->s2.1 z=s.1 z) (fun (s2:MSt)=>aInt (numL c ls x)) (fun (s2:MSt)=>[oMp Tryz.prog 3 3 bm s2]):=by
 have hcs:=csE_zero.1 hc
 have hk:=hcs.1
 have hqb:=hk.fld.1.bd
 have hq2:=hk.q2
 have hn64:=hk.n64
 have hn1:=hk.n1
 have hlen:=hp.len
 have ltn:=length_turnL (dua c).Gen c.N
 have hrx:=prv_rng hk hp x0 (by omega)
 have hct:=hcs.2
 refine ctrW_of Tryz.call43 func43 rfl rfl ?_
 intro w O
 refine ent_cv 4 rfl (cv_eq sub_refl (show _=aAt 1 false (aClo 43 [aAt 1 false (aEx (.map (some bm))),aAt 1 false (aSp c),aAt 1 false (aSl 3 true aLab ls),aFrm 43 [aAt 1 false (aEx (.map (some bm))),aAt 1 false (aSp c),aAt 1 false (aSl 3 true aLab ls)] m]) from rfl)) ?_
 refine esk rfl ?_
 refine A_C fun _ K2=>?_
 refine esr rfl fun _ K3=>?_
 refine A_A rfl (A_V ti77 rfl) ?_
 refine emm rfl ?_
 refine A_A rfl (ok_lookT (j:=0) mt77 rfl rfl rfl (by constructor <;> omega)) ?_
 refine emm rfl ?_
 refine A_A rfl (A_Q rfl rfl) ?_
 refine A_A rfl (A_Q rfl rfl) ?_
 refine emm rfl ?_
 refine enk K3 ?_
 refine esk rfl ?_
 refine A_E rfl (fun h19=>?_) (fun h19=>?_)
 ·have hgt:=hI.get x0 x1 h19
  refine esk rfl ?_
  refine A_R ?_
  exact retW (.inr rfl) (s) (⟨hI,fun z _=>rfl⟩) ((show ([oMp Tryz.prog 3 3 bm s]:List Own) = [oMp Tryz.prog 3 3 bm s] from rfl).symm) (resW1 results43 (A_H (A_T rfl (A_a (by exact hgt)))))
 have hnx:=none_of h19
 have hlx:=hI.pos hp x0 x1 hnx
 have hl1:1<=(lbl ls x).1:=hlx.2.1
 obtain ⟨w,hw1⟩:∃w:Nat,(lbl ls x).1=((w+1:Nat):Int):=⟨m-1,by omega⟩
 have hlz:ix (0,0,0) ls x=lbl ls x:=rfl
 have hlz1:(ix (0,0,0) ls x).1=(lbl ls x).1:=rfl
 refine esp K2 ?_
 refine esk rfl ?_
 refine A_C fun _ K7=>?_
 refine esr rfl fun _ K8=>?_
 refine A_A rfl (A_V ti64 rfl) ?_
 refine A_A rfl (A_q rfl) ?_
 refine A_A rfl (A_f runUnderlying70 rfl sizeOf25 rfl rfl) ?_
 refine A_A rfl (A_V ti25 rfl) ?_
 refine A_A rfl (A_z rfl runUnderlying25 rfl) ?_
 refine emm rfl ?_
 refine enk K8 ?_
 refine A_K ?_
 refine A_g (fun (ss:Int×MSt)=>match ss with | (j,sj)=>(⟨[(0,aInt x),(1,aAt 1 false (aEx (.map (some bm)))),(2,aAt 1 false (aSp c)),(3,aAt 1 false (aSl 3 true aLab ls)),(4,aAt 1 false (aClo 43 [aAt 1 false (aEx (.map (some bm))),aAt 1 false (aSp c),aAt 1 false (aSl 3 true aLab ls),aFrm 43 [aAt 1 false (aEx (.map (some bm))),aAt 1 false (aSp c),aAt 1 false (aSl 3 true aLab ls)] m])),(9,aInt (sJ c ls x j)),(25,aInt (↑(turnL (dua c).Gen c.N).length:Int)),(26,aInt j)],[oMp Tryz.prog 3 3 bm sj]⟩:St)) (fun (ss:Int×MSt)=>match ss with | (j,sj)=>(0<=j)/\(j<=c.N)/\(MInv c ls sj)/\(∀z:Int,(lbl ls x).1<=(lbl ls z).1->sj.1 z=s.1 z)) (fun (ss:Int×MSt)=>match ss with | (j,sj)=>(c.N-j).toNat) (0,s) ⟨(by omega),(by omega),hI,(fun z _=>rfl)⟩ (A_I ⟨rfl,rfl,rfl,rfl,rfl,A_W (A_i (show 0=sJ c ls x (0:Int) by exact sJ_zero c ls x)),rfl,A_W (A_i (show 0=(0:Int) by rfl)),trivial⟩ rfl) ?_
 rintro ⟨j,sj⟩ ⟨j0,j1,hJ,hU⟩
 show Ent _ ⟨_,[_]⟩ _
 refine esr rfl fun _ K9=>?_
 refine A_A rfl (A_o rfl rfl) ?_
 refine enk K9 ?_
 refine A_C fun _ K10=>?_
 refine A_E rfl (fun h27=>?_) (fun h27=>?_)
 ·refine esp K10 ?_
  refine A_C fun _ K11=>?_
  refine A_K ?_
  refine esk rfl ?_
  refine esk rfl ?_
  refine A_K ?_
  refine A_g (fun (ss:Int×MSt)=>match ss with | (a,sa)=>(⟨[(0,aInt x),(1,aAt 1 false (aEx (.map (some bm)))),(2,aAt 1 false (aSp c)),(3,aAt 1 false (aSl 3 true aLab ls)),(4,aAt 1 false (aClo 43 [aAt 1 false (aEx (.map (some bm))),aAt 1 false (aSp c),aAt 1 false (aSl 3 true aLab ls),aFrm 43 [aAt 1 false (aEx (.map (some bm))),aAt 1 false (aSp c),aAt 1 false (aSl 3 true aLab ls)] m])),(9,aInt (sA c ls x j a)),(10,aInt j),(11,aInt a),(25,aInt (↑(turnL (dua c).Gen c.N).length:Int)),(26,aInt j)],[oMp Tryz.prog 3 3 bm sa]⟩:St)) (fun (ss:Int×MSt)=>match ss with | (a,sa)=>(1<=a)/\(a<=c.F.q)/\(MInv c ls sa)/\(∀z:Int,(lbl ls x).1<=(lbl ls z).1->sa.1 z=s.1 z)) (fun (ss:Int×MSt)=>match ss with | (a,sa)=>(c.F.q-a).toNat) (1,sj) ⟨(by omega),(by omega),hJ,hU⟩ (A_I ⟨rfl,rfl,rfl,rfl,rfl,A_W (A_i (show sJ c ls x j=sA c ls x j (1:Int) by exact (sA_one c ls x j).symm)),rfl,A_W (A_i (show 1=(1:Int) by rfl)),rfl,rfl,trivial⟩ rfl) ?_
  rintro ⟨a,sa⟩ ⟨a0,a1,hA,hUa⟩
  show Ent _ ⟨_,[_]⟩ _
  refine A_C fun _ K14=>?_
  refine esr rfl fun _ K15=>?_
  refine A_A rfl (A_V ti64 rfl) ?_
  refine A_A rfl (A_q rfl) ?_
  refine A_A rfl (A_f runUnderlying70 rfl sizeOf3 rfl rfl) ?_
  refine A_A rfl (A_V ti3 rfl) ?_
  refine A_A rfl (A_o rfl rfl) ?_
  refine enk K15 ?_
  refine A_E rfl (fun h34=>?_) (fun h34=>?_)
  ·have hmv:=min_dig hk x j a
   have hry:=prv_rng hk hp hmv.1 (by omega)
   have hlz2:(ix (0,0,0) ls (minV c x j a)).1=(lbl ls (minV c x j a)).1:=rfl
   have hsb:=sA_small hk hp hc hs x0 x1 hw1 j0 (a:=a+1) (by omega) (by omega) (pa_le hq2 (by omega) (by omega))
   have hst:=sA_step c ls x j a0
   have hsb0:=sA_small hk hp hc hs x0 x1 hw1 j0 (a:=a) (by omega) (by omega) (pa_le hq2 (by omega) (by omega))
   refine esp K14 ?_
   refine A_C fun _ K16=>?_
   refine A_K ?_
   refine esr rfl fun _ K17=>?_
   refine A_A rfl (A_V ti64 rfl) ?_
   refine emm rfl ?_
   refine A_A rfl (A_S (minus_ok c x j a hk hct ‹_› (by omega) ‹_› (by omega)) rfl) ?_
   refine emm rfl ?_
   refine enk K17 ?_
   refine A_C fun _ K18=>?_
   refine A_t 12 mixed (by kernel_rfl) (by kernel_rfl) (by kernel_rfl) ?_
   refine dw_o rfl (A_V ti28 rfl) ?_
   refine dw_o rfl (A_J rfl) ?_
   refine dw_o rfl (A_d (0,0,0) sl28 rfl rfl (by omega) (by omega)) ?_
   refine dw_o rfl (A_f runUnderlying45 rfl sizeOf3 rfl rfl) ?_
   refine dw_o rfl (A_V ti3 rfl) ?_
   refine dw_o rfl (A_V ti28 rfl) ?_
   refine dw_o rfl (A_J rfl) ?_
   refine dw_o rfl (A_d (0,0,0) sl28 rfl rfl (by omega) (by omega)) ?_
   refine dw_o rfl (A_f runUnderlying45 rfl sizeOf3 rfl rfl) ?_
   refine dw_o rfl (A_V ti3 rfl) ?_
   refine dw_o rfl (ok_sub rfl rfl (by omega) (by omega)) ?_
   refine dw_o rfl (ok_eql rfl rfl) ?_
   refine dw_nil ?_
   refine enk K18 ?_
   refine A_E rfl (fun h53=>?_) (fun h53=>?_)
   ·have hgl:gL c ls x j a=numL c ls (minV c x j a):=if_pos h53
    rw [hgl] at hst
    have hyw:(lbl ls (minV c x j a)).1=(lbl ls x).1-1:=h53
    refine A_D ?_
    refine emm rfl ?_
    refine A_A rfl (A_V ti78 rfl) ?_
    refine emm rfl ?_
    refine ent_callWP (As:=[aInt (minV c x j a)]) (Bs:=[aAt 1 false (aEx (.map (some bm))),aAt 1 false (aSp c),aAt 1 false (aSl 3 true aLab ls),aFrm 43 [aAt 1 false (aEx (.map (some bm))),aAt 1 false (aSp c),aAt 1 false (aSl 3 true aLab ls)] m]) (rs:=[]) [] rfl (IH (minV c x j a) sa hmv.1 hmv.2.1 (by omega) hA) rfl rfl (.inl rfl) rfl ⟨arg_a rfl (cv_id (sub_lent _)),trivial⟩ ?_
    rintro s2_1 h57_1
    show Ent _ ⟨_::_,[_]⟩ _
    have hIH:=h57_1
    refine A_A rfl (A_m rfl rfl (by omega) (by omega)) ?_
    refine emm rfl ?_
    refine enk K16 ?_
    refine A_D ?_
    refine emm rfl ?_
    refine A_A rfl (A_m rfl rfl (by omega) (by omega)) ?_
    refine emm rfl ?_
    refine A_O ?_
    refine A_X (s:=(a,sa)) (a+1,s2_1) ⟨(by omega),(by omega),(by exact hIH.1),(by exact fun z hz=>(hIH.2 z (by omega)).trans (hUa z hz))⟩ (by dsimp only;omega) (A_I ⟨rfl,rfl,rfl,rfl,rfl,A_W (A_i (show (sA c ls x j a)+(numL c ls (minV c x j a))=sA c ls x j (a+1) by omega)),rfl,rfl,rfl,rfl,trivial⟩ rfl)
   have hgl:gL c ls x j a=0:=if_neg h53
   rw [hgl] at hst
   refine esp K16 ?_
   refine A_D ?_
   refine emm rfl ?_
   refine A_A rfl (A_m rfl rfl (by omega) (by omega)) ?_
   refine emm rfl ?_
   refine A_O ?_
   refine A_X (s:=(a,sa)) (a+1,sa) ⟨(by omega),(by omega),(by exact hA),(by exact hUa)⟩ (by dsimp only;omega) (A_I ⟨rfl,rfl,rfl,rfl,rfl,A_W (A_i (show sA c ls x j a=sA c ls x j (a+1) by omega)),rfl,rfl,rfl,rfl,trivial⟩ rfl)
  refine A_e ?_
  refine A_s K11 ?_
  refine A_D ?_
  refine A_A rfl (A_m rfl rfl (by omega) (by omega)) ?_
  refine emm rfl ?_
  refine A_O ?_
  refine A_X (s:=(j,sj)) (j+1,sa) ⟨(by omega),(by omega),hA,hUa⟩ (by dsimp only;omega) (A_I ⟨rfl,rfl,rfl,rfl,rfl,A_W (A_i (show sA c ls x j a=sJ c ls x (j+1) by exact sJ_step c ls x j0 (show a=c.F.q by omega))),rfl,rfl,trivial⟩ rfl)
 have hall:=sJ_all hk hp hc x0 x1 (n:=j) (by omega)
 have hsz:=sA_small hk hp hc hs x0 x1 hw1 j0 (a:=1) (by omega) (by omega) (by rw [show j=c.N by omega];omega)
 rw [sA_one] at hsz
 have hqe:sJ c ls x j/(ix (0,0,0) ls x).1=numL c ls x:=by rw [hall];exact Int.mul_ediv_cancel_left _ (by omega)
 have hroom:=hJ.room hct
 have hnj:sj.1 x=none:=(hU x (Int.le_refl _)).trans hnx
 have hput:=hJ.put (y:=sJ c ls x j/(ix (0,0,0) ls x).1) x0 x1 hnj hqe
 have hdv:0<=sJ c ls x j/(ix (0,0,0) ls x).1/\sJ c ls x j/(ix (0,0,0) ls x).1<=sJ c ls x j:=⟨Int.ediv_nonneg hsz.1 (by omega),Int.ediv_le_self _ hsz.1⟩
 refine A_e ?_
 refine A_s K7 ?_
 refine A_C fun _ K19=>?_
 refine A_t 9 mixed (by kernel_rfl) (by kernel_rfl) (by kernel_rfl) ?_
 refine dw_o rfl (A_V ti77 rfl) ?_
 refine dw_o rfl (A_J rfl) ?_
 refine dw_o rfl (A_J rfl) ?_
 refine dw_o rfl (A_V ti28 rfl) ?_
 refine dw_o rfl (A_J rfl) ?_
 refine dw_o rfl (A_d (0,0,0) sl28 rfl rfl (by omega) (by omega)) ?_
 refine dw_o rfl (A_f runUnderlying45 rfl sizeOf3 rfl rfl) ?_
 refine dw_o rfl (A_V ti3 rfl) ?_
 refine dw_o rfl (ok_quo rfl rfl (by omega) (by omega) (by omega)) ?_
 refine dw_nil ?_
 refine ent_mapUpd (j:=0) (.inl rfl) mt77 rfl rfl rfl rfl (by constructor <;> omega) (by constructor <;> omega) (by exact hroom) ?_
 show Ent _ ⟨_,[_]⟩ _
 refine enk K19 ?_
 refine esr rfl fun _ K20=>?_
 refine A_A rfl (A_V ti77 rfl) ?_
 refine emm rfl ?_
 refine A_A rfl (ok_lookF (j:=0) mt77 rfl rfl rfl (by constructor <;> omega)) ?_
 refine emm rfl ?_
 refine enk K20 ?_
 refine A_R ?_
 exact retW (.inr rfl) (mput sj x ((sJ c ls x j)/((ix (0,0,0) ls x).1))) (⟨hput,fun z hz=>by unfold mput;dsimp only;rw [if_neg (fun e=>by rw [e] at hz;omega)];exact hU z (by omega)⟩) ((show ([oMp Tryz.prog 3 3 bm (mput sj x ((sJ c ls x j)/((ix (0,0,0) ls x).1)))]:List Own) = [oMp Tryz.prog 3 3 bm (mput sj x ((sJ c ls x j)/((ix (0,0,0) ls x).1)))] from rfl).symm) (resW1 results43 (A_H (A_T rfl (A_a (by rw [if_pos rfl];exact hqe)))))

theorem cnt_ok (c:Cod) (ls:List Lab) (bm:Nat) (hc:csE c=0) (hp:Prv c ls) (hs:c.F.q^(dua c).Gen.length<=1024):∀(m:Nat) (x:Int) (s:MSt),0<=x->x<c.F.q^(dua c).Gen.length->(lbl ls x).1=(m:Int)->MInv c ls s->CtrW Tryz.prog 43 [oMp Tryz.prog 3 3 bm s] [aInt x,aAt 1 false (aEx (.map (some bm))),aAt 1 false (aSp c),aAt 1 false (aSl 3 true aLab ls),aFrm 43 [aAt 1 false (aEx (.map (some bm))),aAt 1 false (aSp c),aAt 1 false (aSl 3 true aLab ls)] (m+1)] (fun (s2:MSt)=>MInv c ls s2/\∀z:Int,(lbl ls x).1<(lbl ls z).1->s2.1 z=s.1 z) (fun (s2:MSt)=>aInt (numL c ls x)) (fun (s2:MSt)=>[oMp Tryz.prog 3 3 bm s2])
 | 0,x,s,x0,x1,hw,hI=>cnt_step c ls bm 0 s x hc hp hs x0 x1 hw hI fun y s y0 y1 hyw _=>by
  have:=(prv_rng (csE_zero.1 hc).1 hp y0 (by have:=hp.len;omega)).1
  omega
 | m+1,x,s,x0,x1,hw,hI=>cnt_step c ls bm (m+1) s x hc hp hs x0 x1 hw hI fun y s y0 y1 hyw hI2=>cnt_ok c ls bm hc hp hs m y s y0 y1 (by omega) hI2

theorem cnt_top (c:Cod) (ls:List Lab) (bm m:Nat) (s:MSt) (x:Int) (hc:csE c=0) (hp:Prv c ls) (hs:c.F.q^(dua c).Gen.length<=1024) (x0:0<=x) (x1:x<c.F.q^(dua c).Gen.length) (hw:(lbl ls x).1=(m:Int)) (hI:MInv c ls s):CtrW Tryz.prog 43 [oMp Tryz.prog 3 3 bm s] [aInt x,aAt 1 false (aEx (.map (some bm))),aAt 1 false (aSp c),aAt 1 false (aSl 3 true aLab ls),aFrm 43 [aAt 1 false (aEx (.map (some bm))),aAt 1 false (aSp c),aAt 1 false (aSl 3 true aLab ls)] (m+1)] (fun (s2:MSt)=>MInv c ls s2/\∀z:Int,(lbl ls x).1<(lbl ls z).1->s2.1 z=s.1 z) (fun (s2:MSt)=>aInt (numL c ls x)) (fun (s2:MSt)=>[oMp Tryz.prog 3 3 bm s2]):=cnt_ok c ls bm hc hp hs m x s x0 x1 hw hI
end Go.Proofs.YtcilbmggiahciaaGreat

