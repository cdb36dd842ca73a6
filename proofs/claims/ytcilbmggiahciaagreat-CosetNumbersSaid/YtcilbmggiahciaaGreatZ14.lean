/-
  Walks of functions of the program and the reference.
-/
import Derived.Test.YtcilbmggiahciaaGreatZ13
open Go Go.Cw
namespace Go.Proofs.YtcilbmggiahciaaGreat
open Tryz
set_option maxRecDepth 100000
set_option linter.unusedVariables false
set_option linter.unusedSimpArgs false
theorem canon_ok (f:Fld) (X:List (List Int)) (cols:Int) (wd:Nat) (hF:FOk f) (hg:good f wd X) (hc0:0<=cols) (hc1:cols<=wd) (hw:wd<=100000) (hx:X.length<=100000):Ctr Tryz.prog 111 [aGF f,aSl 1 false aInts X,aInt cols] (aTup [aSl 1 false aInts (canR (elim f X [] cols.toNat)),aSl 1 false aInt ((elim f X [] cols.toNat).piv)]):=by
 have hpl:=piv_le f X [] cols.toNat
 have hel:=(length_elim f X [] cols.toNat).1
 refine A_p Tryz.call111 func111 rfl rfl ?_
 intro w O
 refine ent_lenP 0 4 rfl rfl (fun hlen0_4=>?_)
 refine ent_lenP 0 5 rfl rfl (fun hlen0_5=>?_)
 refine A_x 1 rfl (fun hlen1=>?_)
 refine esk rfl ?_
 refine esr rfl fun _ K2=>?_
 refine ent_callW (rs:=[]) [] rfl (clone_ok X (by omega) (fun x hx=>by have:=(hg x hx).1;omega)) rfl rfl (.inl rfl) ⟨arg_a rfl (cv_id (sub_lent _)),trivial⟩ ?_
 rintro ⟨r_1,c_1,Hs_1⟩ h12_1
 show Ent _ ⟨_::_,[_,_]⟩ _
 refine emm rfl ?_
 refine enk K2 ?_
 refine esr rfl fun _ K3=>?_
 refine ent_open 22 1 false aH (fun _=>rfl) ?_
 refine ent_rows0 3 aInt ?_
 refine ent_pm 4 [0,1,3,2] rfl (by decide) rfl ?_
 refine ent_callW (rs:=[]) [] rfl (eliminate_ok f r_1 c_1 Hs_1 X cols none 0 [] [] wd 0 ‹_› ‹_› rfl (.inl rfl) hg (wide_nil 0) ‹_› ‹_› hw (by omega) hx) rfl rfl (.inl rfl) ⟨arg_a rfl (cv_id (sub_lent _)),arg_a rfl (cv_ex (congrArg (fun n=>vec r_1 n c_1) (show Hs_1.length=Hs_1.length by rfl))),arg_a rfl (cv_id (sub_lent _)),arg_a rfl (cv_ex (congrArg (fun n=>vec none n 0) (show 0 = [].length by rfl))),trivial⟩ ?_
 rintro ⟨Hn_3,Kn_3,rp_3,cp_3⟩ h17_3
 show Ent _ ⟨_::_,[_,_,_,_,_]⟩ _
 refine ent_pm 5 [1,0,2,3,4] rfl (by decide) rfl ?_
 refine emm rfl ?_
 refine A_A rfl (A_Q rfl rfl) ?_
 refine A_A rfl (A_Q rfl rfl) ?_
 refine emm rfl ?_
 refine enk K3 ?_
 refine esr rfl fun _ K4=>?_
 refine A_A rfl (ok_lenEx rfl runUnderlying22 rfl) ?_
 refine emm rfl ?_
 refine A_A rfl (ok_lenEx rfl runUnderlying22 rfl) ?_
 refine ent_frzRows 3 4 rfl rfl (by decide) ?_
 refine ent_give 3 20 rfl (cv_vec (k:=3) (off_erase rfl) (by simp_all) rfl) ?_
 refine A_A rfl (ok_slice3To sl25 rfl rfl rfl (by omega) (by omega)) ?_
 refine emm rfl ?_
 refine enk K4 ?_
 refine A_R ?_
 exact retR2 (.inr rfl) results111 (A_H (A_T rfl (cv_sl sub_x rfl))) (A_H (A_T rfl (cv_vec (k:=0) (off_x rfl) rfl rfl)))

theorem open_no (f:Fld) (l:List Mat) (hN:opErr f l≠0):Ctr Tryz.prog 110 [aFld f,aSl 2 true aMat l] (aTup [aEx (.pointer none),aInt (opErr f l)]):=by
 refine A_p Tryz.call110 func110 rfl rfl ?_
 intro w O
 refine A_Y 0 2 rfl rfl (fun hlen0_2=>?_)
 refine A_x 1 rfl (fun hlen1=>?_)
 refine esr rfl fun _ K1=>?_
 refine A_h rfl rfl (AllOne.mem ⟨(A_F _),(A_F _),A_c,trivial⟩) (fun b2_1=>?_)
 refine emm rfl ?_
 refine enk K1 ?_
 refine esr rfl fun _ K2=>?_
 refine A_A rfl (A_P (k:=0) ti24 rfl rfl rfl) ?_
 rcases Classical.em (FOk f) with hF | hF
 ·refine A_A rfl (A_S (CtrF.ctr (New_ok f hF)) rfl) ?_
  refine emm rfl ?_
  refine A_A rfl (A_Q rfl rfl) ?_
  refine A_A rfl (A_Q rfl rfl) ?_
  refine emm rfl ?_
  refine enk K2 ?_
  refine A_C fun _ K3=>?_
  refine esr rfl fun _ K4=>?_
  refine A_A rfl (A_y rfl rfl) ?_
  refine enk K4 ?_
  refine ent_condFP rfl (by decide) ?_
  refine esp K3 ?_
  refine A_C fun _ K5=>?_
  refine esr rfl fun _ K6=>?_
  refine A_A rfl (A_z rfl runUnderlying140 rfl) ?_
  refine emm rfl ?_
  refine enk K6 ?_
  refine A_K ?_
  refine A_g (fun (i:Int)=>(⟨[(6,aGF f),(18,aSl 2 true aMat l),(19,aInt (↑l.length:Int)),(20,aInt i)],[oBox b2_1 24 [aInt f.P,aInt f.M,aSl 1 false aInt f.mod]]⟩:St)) (fun (i:Int)=>(0<=i)/\(i<=l.length)/\(∀m∈l.take i.toNat,matErr f m=0)) (fun (i:Int)=>(l.length-i).toNat) 0 ⟨(by omega),(by omega),(by simp)⟩ (A_I ⟨rfl,rfl,rfl,A_W (A_i (show 0=(0:Int) by rfl)),trivial⟩ rfl) ?_
  rintro i ⟨h0,h1,hp⟩
  show Ent _ ⟨_,[_]⟩ _
  refine esr rfl fun _ K7=>?_
  refine A_A rfl (A_o rfl rfl) ?_
  refine enk K7 ?_
  refine A_C fun _ K8=>?_
  refine A_E rfl (fun h21=>?_) (fun h21=>?_)
  ·refine esp K8 ?_
   refine A_C fun _ K9=>?_
   refine A_K ?_
   refine esr rfl fun _ K10=>?_
   refine A_A rfl (A_d Mat.no sl140 rfl rfl (by omega) (by omega)) ?_
   refine A_A rfl (A_V ti107 rfl) ?_
   refine ent_alloc (z:=.agg #[.int .i64 0,.slice none 0 0]) [aInt 0,aEx (.slice none 0 0)] rfl zv107 rfl zc107 (fun b9_2=>?_)
   refine ent_storeBS (k:=0) sizeOf107 rfl rfl rfl (AllOne.mem ⟨(A_F _),A_c,trivial⟩) rfl rfl ?_
   show Ent _ ⟨_,[_,_]⟩ _
   refine enk K10 ?_
   refine esr rfl fun _ K11=>?_
   refine A_A rfl (A_P (k:=0) ti107 rfl rfl rfl) ?_
   refine A_A rfl (A_S (mcheck_ok f (ix Mat.no l i)) rfl) ?_
   refine emm rfl ?_
   refine enk K11 ?_
   refine esr rfl fun _ K12=>?_
   refine A_A rfl (A_y rfl rfl) ?_
   refine enk K12 ?_
   refine A_E rfl (fun h28=>?_) (fun h28=>?_)
   ·refine esk rfl ?_
    refine A_R ?_
    exact retR2 (.inr rfl) results110 (A_H (A_T rfl (cv_id sub_x))) (A_H (A_T rfl (A_a (by unfold opErr;rw [if_pos hF];exact (matsErr_at h0 h21 hp h28).symm))))
   refine esp K9 ?_
   refine A_D ?_
   refine A_A rfl (A_m rfl rfl (by omega) (by omega)) ?_
   refine emm rfl ?_
   refine A_O ?_
   refine ent_drop 0 ?_
   refine A_X (s:=(i)) (i+1) ⟨(by omega),‹_›,(not_take_succ Mat.no h0 h21 hp (Classical.not_not.1 h28))⟩ (by omega) (A_I ⟨rfl,rfl,rfl,rfl,trivial⟩ rfl)
  exact absurd (opErr_zero.2 ⟨hF,fun m hm=>by rw [List.take_of_length_le (by omega)] at hp;exact hp m hm⟩) hN
 refine A_A rfl (A_S (New_no f hF) rfl) ?_
 refine emm rfl ?_
 refine A_A rfl (A_Q rfl rfl) ?_
 refine A_A rfl (A_Q rfl rfl) ?_
 refine emm rfl ?_
 refine enk K2 ?_
 refine A_C fun _ K14=>?_
 refine esr rfl fun _ K15=>?_
 refine A_A rfl (A_y rfl rfl) ?_
 refine enk K15 ?_
 refine ent_condTP rfl (by decide) ?_
 refine esk rfl ?_
 refine A_R ?_
 exact retR2 (.inr rfl) results110 (A_H (A_T rfl (cv_id sub_x))) (A_H (A_T rfl (A_a (by unfold opErr;exact (if_neg hF).symm))))
end Go.Proofs.YtcilbmggiahciaaGreat

