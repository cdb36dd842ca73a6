/-
  Walks of functions of the program and the reference.
-/
import Derived.Test.YtcilbmggiahciaaGreatZ45
open Go Go.Cw
namespace Go.Proofs.YtcilbmggiahciaaGreat
open Tryz
set_option maxRecDepth 100000
set_option linter.unusedVariables false
set_option linter.unusedSimpArgs false
theorem rDistance_ok (a b:List Int)  : Ctr Tryz.prog 28 [aSl 1 false aInt a,aSl 1 false aInt b] (aInt (dst a b)):=by
 refine A_p Tryz.call28 func28 rfl rfl ?_
 intro w O
 refine A_x 0 rfl (fun hlen0=>?_)
 refine A_x 1 rfl (fun hlen1=>?_)
 refine esk rfl ?_
 refine esk rfl ?_
 refine A_C fun _ K3=>?_
 refine esk rfl ?_
 refine A_K ?_
 refine A_g (fun (i:Int)=>(⟨[(0,aSl 1 false aInt a),(1,aSl 1 false aInt b),(5,aInt (dstTo a b i.toNat)),(6,aInt i)],[]⟩:St)) (fun (i:Int)=>(0<=i)/\(i<=a.length)/\(i<=b.length)) (fun (i:Int)=>(a.length-i).toNat) 0 ⟨(by omega),(by omega),(by omega)⟩ (A_I ⟨rfl,rfl,A_W (A_i (show 0=dstTo a b (0:Int).toNat by rfl)),A_W (A_i (show 0=(0:Int) by rfl)),trivial⟩ rfl) ?_
 rintro i ⟨h0,h1,h2⟩
 show Ent _ ⟨_,[]⟩ _
 have hdb:=dstTo_bd a b i.toNat
 refine A_C fun _ K5=>?_
 refine A_C fun _ K6=>?_
 refine ent_cut (⟨[(0,aSl 1 false aInt a),(1,aSl 1 false aInt b),(5,aInt (dstTo a b i.toNat)),(6,aInt i),(16,aBool (decide ((i<(↑a.length:Int))/\(i<(↑b.length:Int)))))],[]⟩) ?_ ?_
 ·refine A_D ?_
  refine emm rfl ?_
  refine A_A rfl (A_z rfl runUnderlying22 rfl) ?_
  refine A_A rfl (A_o rfl rfl) ?_
  refine emm rfl ?_
  refine ent_guardXDt rfl rfl rfl rfl (fun hg11=>?_) (fun hg11=>?_)
  ·refine emm rfl ?_
   refine A_M rfl rfl rfl rfl (decide_eq_true hg11) ?_
   refine emm rfl ?_
   refine A_M rfl rfl rfl rfl (decide_eq_true hg11) ?_
   refine A_A rfl (A_z rfl runUnderlying22 rfl) ?_
   refine A_M rfl rfl rfl rfl (decide_eq_true hg11) ?_
   refine A_A rfl (A_o rfl rfl) ?_
   refine A_A rfl (A_l rfl (decide_eq_true hg11) rfl) ?_
   refine A_O ?_
   exact A_I ⟨rfl,rfl,rfl,rfl,A_Z (dq_Q ((and_iff_right hg11).trans Iff.rfl)),trivial⟩ rfl
  refine A_G rfl rfl rfl rfl (decide_eq_false hg11) ?_
  refine A_G rfl rfl rfl rfl (decide_eq_false hg11) ?_
  refine A_G rfl rfl rfl rfl (decide_eq_false hg11) ?_
  refine A_A rfl (A_r rfl (decide_eq_false hg11) rfl) ?_
  refine A_O ?_
  exact A_I ⟨rfl,rfl,rfl,rfl,A_Z (dq_F rfl (fun h=>hg11 h.1)),trivial⟩ rfl
 refine A_s K6 ?_
 refine A_E rfl (fun h16=>?_) (fun h16=>?_)
 ·refine esp K5 ?_
  refine A_C fun _ K7=>?_
  refine A_K ?_
  refine A_C fun _ K8=>?_
  refine A_t 9 mixed (by kernel_rfl) (by kernel_rfl) (by kernel_rfl) ?_
  refine dw_o rfl (A_J rfl) ?_
  refine dw_o rfl (A_J rfl) ?_
  refine dw_o rfl (A_d 0 sl22 rfl rfl (by omega) (by omega)) ?_
  refine dw_o rfl (A_V ti3 rfl) ?_
  refine dw_o rfl (A_J rfl) ?_
  refine dw_o rfl (A_J rfl) ?_
  refine dw_o rfl (A_d 0 sl22 rfl rfl (by omega) (by omega)) ?_
  refine dw_o rfl (A_V ti3 rfl) ?_
  refine dw_o rfl (A_y rfl rfl) ?_
  refine dw_nil ?_
  refine enk K8 ?_
  refine A_E rfl (fun h27=>?_) (fun h27=>?_)
  ·refine A_D ?_
   refine emm rfl ?_
   refine A_A rfl (A_m rfl rfl (by omega) (by omega)) ?_
   refine emm rfl ?_
   refine enk K7 ?_
   refine A_D ?_
   refine emm rfl ?_
   refine A_A rfl (A_m rfl rfl (by omega) (by omega)) ?_
   refine emm rfl ?_
   refine A_O ?_
   refine A_X (s:=(i)) (i+1) ⟨(by omega),(by omega),(by omega)⟩ (by omega) (A_I ⟨rfl,rfl,A_W (A_i (show (dstTo a b i.toNat)+1=dstTo a b (i+1).toNat by exact dstTo_yes h0 h27)),rfl,trivial⟩ rfl)
  refine esp K7 ?_
  refine A_D ?_
  refine emm rfl ?_
  refine A_A rfl (A_m rfl rfl (by omega) (by omega)) ?_
  refine emm rfl ?_
  refine A_O ?_
  refine A_X (s:=(i)) (i+1) ⟨(by omega),(by omega),(by omega)⟩ (by omega) (A_I ⟨rfl,rfl,A_W (A_i (show dstTo a b i.toNat=dstTo a b (i+1).toNat by exact dstTo_no h0 h27)),rfl,trivial⟩ rfl)
 refine A_e ?_
 refine A_s K3 ?_
 refine esk rfl ?_
 refine A_R ?_
 exact retR1 (.inr rfl) results28 (A_H (A_T rfl (A_a (by unfold dst;rw [show i.toNat=min a.length b.length by omega]))))

end Go.Proofs.YtcilbmggiahciaaGreat

