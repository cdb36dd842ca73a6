/-
  Walks of functions of the program and the reference.
-/
import Derived.Test.YtcilbmggiahciaaGreatPlainG
import Derived.Test.YtcilbmggiahciaaGreatCzLib
import Derived.Test.YtcilbmggiahciaaGreatZ9
set_option linter.unnecessarySimpa false
open Go Go.Cw
namespace Go.Proofs.YtcilbmggiahciaaGreat
open Tryz
set_option maxRecDepth 100000
set_option linter.unusedVariables false
set_option linter.unusedSimpArgs false
theorem Index_ok (l:List Int) (x:Int)  : Ctr Tryz.prog 128 [aSl 1 false aInt l,aInt x] (aInt (ixOf l x)):=by
 refine A_p Tryz.call128 func128 rfl rfl ?_
 intro w O
 refine A_x 0 rfl (fun hlen0=>?_)
 refine esk rfl ?_
 refine A_C fun _ K2=>?_
 refine esr rfl fun _ K3=>?_
 refine A_A rfl (A_z rfl runUnderlying22 rfl) ?_
 refine emm rfl ?_
 refine enk K3 ?_
 refine A_K ?_
 refine A_g (fun (i:Int)=>(⟨[(0,aSl 1 false aInt l),(1,aInt x),(7,aInt (↑l.length:Int)),(8,aInt i)],[]⟩:St)) (fun (i:Int)=>(0<=i)/\(i<=l.length)/\(x∉l.take i.toNat)) (fun (i:Int)=>(l.length-i).toNat) 0 ⟨(by omega),(by omega),(by simp)⟩ (A_I ⟨rfl,rfl,rfl,A_W (A_i (show 0=(0:Int) by rfl)),trivial⟩ rfl) ?_
 rintro i ⟨h0,h1,hn⟩
 show Ent _ ⟨_,[]⟩ _
 refine esr rfl fun _ K4=>?_
 refine A_A rfl (A_o rfl rfl) ?_
 refine enk K4 ?_
 refine A_C fun _ K5=>?_
 refine A_E rfl (fun h9=>?_) (fun h9=>?_)
 ·refine esp K5 ?_
  refine A_C fun _ K6=>?_
  refine A_K ?_
  refine esk rfl ?_
  refine esr rfl fun _ K8=>?_
  refine A_A rfl (A_d 0 sl22 rfl rfl (by omega) (by omega)) ?_
  refine A_A rfl (A_V ti3 rfl) ?_
  refine A_A rfl (ok_eql rfl rfl) ?_
  refine enk K8 ?_
  refine A_E rfl (fun h16=>?_) (fun h16=>?_)
  ·refine esk rfl ?_
   refine A_R ?_
   exact retR1 (.inr rfl) results128 (A_H (A_T rfl (A_a (by exact (ixOf_at l x h0 h9 h16.symm hn).symm))))
  refine esp K6 ?_
  refine A_D ?_
  refine A_A rfl (A_m rfl rfl (by omega) (by omega)) ?_
  refine emm rfl ?_
  refine A_O ?_
  refine A_X (s:=(i)) (i+1) ⟨(by omega),‹_›,(by rw [take_succ_ix 0 l h0 h9,List.mem_append,not_or];exact ⟨hn,by simpa [ix] using h16⟩)⟩ (by omega) (A_I ⟨rfl,rfl,rfl,rfl,trivial⟩ rfl)
 refine A_e ?_
 refine A_s K2 ?_
 refine esk rfl ?_
 refine A_R ?_
 exact retR1 (.inr rfl) results128 (A_H (A_T rfl (A_a (by exact (ixOf_none l x (by rw [List.take_of_length_le (by omega)] at hn;exact hn)).symm))))

theorem Contains_ok (l:List Int) (x:Int)  : Ctr Tryz.prog 112 [aSl 1 false aInt l,aInt x] (aBool (decide (x∈l))):=by
 refine A_p Tryz.call112 func112 rfl rfl ?_
 intro w O
 refine A_x 0 rfl (fun hlen0=>?_)
 refine esk rfl ?_
 refine esr rfl fun _ K2=>?_
 refine A_A rfl (A_S (Index_ok l x) rfl) ?_
 refine A_A rfl (ok_geq rfl rfl) ?_
 refine emm rfl ?_
 refine enk K2 ?_
 refine A_R ?_
 exact retR1 (.inr rfl) results112 (A_H (A_T rfl (cv_bool (by exact decide_eq_decide.2 (ixOf_pos l x)))))
end Go.Proofs.YtcilbmggiahciaaGreat

