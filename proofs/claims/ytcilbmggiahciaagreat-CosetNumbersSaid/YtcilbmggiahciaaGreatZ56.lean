/-
  Walks of functions of the program and the reference.
-/
import Derived.Test.YtcilbmggiahciaaGreatZ55
open Go Go.Cw
namespace Go.Proofs.YtcilbmggiahciaaGreat
open Tryz
set_option maxRecDepth 100000
set_option linter.unusedVariables false
set_option linter.unusedSimpArgs false
theorem cLds_yes (c:Cod) (ls:List Lab) (s:Int) (h64:∀t∈ls,-9223372036854775808<=t.1/\t.1<=9223372036854775807) (hsm:csE c≠0\/csV c<=1024) (ho:chkL c ls=0):Ctr Tryz.prog 21 [aCod c,aSl 3 true aLab ls,aInt s] (aTup [aInt (lsV c ls s),aInt (ldE c ls s)]):=by
 have hcz:=chk_zero ho
 have hkk:=csE_zero.1 hcz.1
 have hk:=hkk.1
 have hpv:=hcz.2
 have hlen:=hpv.len
 have hcv:csV c=c.F.q^(dua c).Gen.length:=if_pos hcz.1
 have hs1:c.F.q^(dua c).Gen.length<=1024:=hcv ▸ hsm.resolve_left (fun h=>h hcz.1)
 refine A_p Tryz.call21 func21 rfl rfl ?_
 intro w O
 refine A_Y 0 2 rfl rfl (fun hlen0_2=>?_)
 refine A_Y 0 4 rfl rfl (fun hlen0_4=>?_)
 refine A_x 1 rfl (fun hlen1=>?_)
 refine esr rfl fun _ K1=>?_
 refine A_h rfl rfl (AllOne.mem ⟨(A_F _),(A_F _),A_c,(A_F _),A_c,trivial⟩) (fun b3_1=>?_)
 refine ent_box1 rfl rfl A_c (fun b4_2=>?_)
 refine emm rfl ?_
 refine enk K1 ?_
 refine esr rfl fun _ K2=>?_
 refine A_A rfl (A_P (k:=1) ti27 rfl rfl rfl) ?_
 refine A_A rfl (A_L (k:=0) isAgg28 rfl rfl rfl) ?_
 refine A_A rfl (ok_callA (proved_ok c ls [] false ho ‹_›) ⟨arg_a rfl (cv_id sub_refl),arg_a rfl (cv_id sub_refl),arg_a rfl (cv_nil (fun _=>rfl) rfl),arg_a rfl (cv_id sub_refl),trivial⟩) ?_
 refine emm rfl ?_
 refine A_A rfl (A_Q rfl rfl) ?_
 refine A_A rfl (A_Q rfl rfl) ?_
 refine ent_alloc (z:=(.pointer none)) [aEx (.pointer none)] rfl zv64 rfl zc64 (fun b8_3=>?_)
 refine ent_storeB (k:=0) sizeOf64 rfl rfl rfl one_at rfl ?_
 refine emm rfl ?_
 refine enk K2 ?_
 refine A_C fun _ K3=>?_
 refine esr rfl fun _ K4=>?_
 refine A_A rfl (A_y rfl rfl) ?_
 refine enk K4 ?_
 refine ent_condFP rfl (by decide) ?_
 refine esp K3 ?_
 refine A_C fun _ K5=>?_
 refine A_C fun _ K6=>?_
 refine ent_cut (⟨[(2,aInt s),(4,aEx (.pointer (some ⟨b4_2,0,none⟩))),(8,aEx (.pointer (some ⟨b8_3,0,none⟩))),(30,aBool (decide ((s<0)\/((c.F.q^(dua c).Gen.length)<=s))))],[oBox b8_3 64 [aSp c],oBox b4_2 28 [aSl 3 true aLab ls],oBox b3_1 27 [aInt c.F.P,aInt c.F.M,aSl 1 false aInt c.F.mod,aInt c.N,aSl 1 false aInts c.Gen]]⟩) ?_ ?_
 ·refine A_D ?_
  refine emm rfl ?_
  refine A_A rfl (A_o rfl rfl) ?_
  refine emm rfl ?_
  refine A_v rfl rfl rfl rfl (fun hg23=>?_) (fun hg23=>?_)
  ·refine emm rfl ?_
   refine A_M rfl rfl rfl rfl (decide_eq_false hg23) ?_
   refine A_A rfl (A_L (k:=0) isAgg64 rfl rfl rfl) ?_
   refine A_M rfl rfl rfl rfl (decide_eq_false hg23) ?_
   refine A_A rfl (A_q rfl) ?_
   refine A_M rfl rfl rfl rfl (decide_eq_false hg23) ?_
   refine A_A rfl (A_f runUnderlying70 rfl sizeOf3 rfl rfl) ?_
   refine A_M rfl rfl rfl rfl (decide_eq_false hg23) ?_
   refine A_A rfl (A_V ti3 rfl) ?_
   refine A_M rfl rfl rfl rfl (decide_eq_false hg23) ?_
   refine A_A rfl (ok_geq rfl rfl) ?_
   refine A_A rfl (A_r rfl (decide_eq_false hg23) rfl) ?_
   refine A_O ?_
   exact A_I ⟨rfl,rfl,rfl,A_Z (dq_Q ((or_iff_right hg23).trans Iff.rfl)),trivial⟩ rfl
  refine A_G rfl rfl rfl rfl (decide_eq_true hg23) ?_
  refine A_G rfl rfl rfl rfl (decide_eq_true hg23) ?_
  refine A_G rfl rfl rfl rfl (decide_eq_true hg23) ?_
  refine A_G rfl rfl rfl rfl (decide_eq_true hg23) ?_
  refine A_G rfl rfl rfl rfl (decide_eq_true hg23) ?_
  refine A_A rfl (A_l rfl (decide_eq_true hg23) rfl) ?_
  refine A_O ?_
  exact A_I ⟨rfl,rfl,rfl,A_Z (dq_T rfl (Or.inl hg23)),trivial⟩ rfl
 refine A_s K6 ?_
 refine A_E rfl (fun h30=>?_) (fun h30=>?_)
 ·refine esk rfl ?_
  refine A_R ?_
  exact retR2 (.inr rfl) results21 (A_H (A_T rfl (A_a (by unfold lsV;rw [if_neg (by rw [ldE_rng ho,if_pos h30];decide)])))) (A_H (A_T rfl (A_a (by rw [ldE_rng ho];first | exact (if_pos h30).symm | exact (if_neg h30).symm))))
 have hrs:=prv_rng hk hpv (x:=s) (by omega) (by omega)
 have hst:=MInv.start hk hpv hcz.1
 refine esp K5 ?_
 refine esr rfl fun _ K8=>?_
 refine ent_makeMap mt77 rfl (fun b31_4=>?_)
 refine ent_mapUpd (j:=0) (.inr rfl) mt77 rfl rfl rfl rfl (by constructor <;> omega) (by constructor <;> omega) (by decide) ?_
 show Ent _ ⟨_,[_,_,_,_]⟩ _
 refine emm rfl ?_
 refine ent_alloc (z:=(.map none)) [aEx (.map none)] rfl zv77 rfl zc77 (fun b10_5=>?_)
 refine ent_storeB (k:=0) sizeOf77 rfl rfl rfl (one_ex rfl) rfl ?_
 refine enk K8 ?_
 refine esr rfl fun _ K9=>?_
 refine ent_alloc (z:=(.nilFunc)) [aEx .nilFunc] rfl zv78 rfl zc78 (fun b11_6=>?_)
 refine enk K9 ?_
 refine esr rfl fun _ K10=>?_
 refine A_A rfl (ok_makeFunc (us:=[.pointer (some ⟨b10_5,0,none⟩),.pointer (some ⟨b8_3,0,none⟩),.pointer (some ⟨b4_2,0,none⟩),.pointer (some ⟨b11_6,0,none⟩)]) rfl) ?_
 refine ent_storeB (k:=0) sizeOf78 rfl rfl rfl (one_ex rfl) rfl ?_
 refine enk K10 ?_
 refine A_C fun _ K11=>?_
 refine ent_giveF (A':=aAt 1 false (aEx (.map (some b31_4)))) 1 (.pointer (some ⟨b10_5,0,none⟩)) (cv_box1 (k:=1) (off_erase rfl) (cv_id (sub_erase _))) ?_
 refine ent_giveF (A':=aAt 1 false (aSp c)) 3 (.pointer (some ⟨b8_3,0,none⟩)) (cv_box1 (k:=3) (off_erase rfl) (cv_id (sub_erase _))) ?_
 refine ent_giveF (A':=aAt 1 false (aSl 3 true aLab ls)) 4 (.pointer (some ⟨b4_2,0,none⟩)) (cv_box1 (k:=4) (off_erase rfl) (cv_id (sub_erase _))) ?_
 refine ent_giveF (A':=aFrm 43 [aAt 1 false (aEx (.map (some b31_4))),aAt 1 false (aSp c),aAt 1 false (aSl 3 true aLab ls)] ((lbl ls s).1.toNat+1+1)) 3 (.pointer (some ⟨b11_6,0,none⟩)) (cv_knot (k:=3) (us:=[(.pointer (some ⟨b10_5,0,none⟩)),(.pointer (some ⟨b8_3,0,none⟩)),(.pointer (some ⟨b4_2,0,none⟩))]) (As:=[aAt 1 false (aEx (.map (some b31_4))),aAt 1 false (aSp c),aAt 1 false (aSl 3 true aLab ls)]) rfl ⟨cv_fact (k:=2) rfl (sub_erase _),cv_fact (k:=1) rfl (sub_erase _),cv_fact (k:=0) rfl (sub_erase _),trivial⟩ ((lbl ls s).1.toNat+1+1)) ?_
 refine ent_cv (A':=aAt 1 false (aClo 43 [aAt 1 false (aEx (.map (some b31_4))),aAt 1 false (aSp c),aAt 1 false (aSl 3 true aLab ls),aFrm 43 [aAt 1 false (aEx (.map (some b31_4))),aAt 1 false (aSp c),aAt 1 false (aSl 3 true aLab ls)] ((lbl ls s).1.toNat+1)])) 11 rfl (cv_fact (k:=0) rfl sub_refl) ?_
 refine A_D ?_
 refine A_A rfl (A_V ti78 rfl) ?_
 refine emm rfl ?_
 refine ent_pm 6 [5,3,2,1,0,4] rfl (by decide) rfl ?_
 refine ent_callWP (As:=[aInt s]) (Bs:=[aAt 1 false (aEx (.map (some b31_4))),aAt 1 false (aSp c),aAt 1 false (aSl 3 true aLab ls),aFrm 43 [aAt 1 false (aEx (.map (some b31_4))),aAt 1 false (aSp c),aAt 1 false (aSl 3 true aLab ls)] (((lbl ls s).1.toNat)+1)]) (rs:=[oFact (.pointer (some ⟨b11_6,0,none⟩)) (aFrm 43 [aAt 1 false (aEx (.map (some b31_4))),aAt 1 false (aSp c),aAt 1 false (aSl 3 true aLab ls)] ((lbl ls s).1.toNat+1+1)),oFact (.pointer (some ⟨b4_2,0,none⟩)) (aAt 1 false (aSl 3 true aLab ls)),oFact (.pointer (some ⟨b8_3,0,none⟩)) (aAt 1 false (aSp c)),oFact (.pointer (some ⟨b10_5,0,none⟩)) (aAt 1 false (aEx (.map (some b31_4)))),oBox b3_1 27 [aInt c.F.P,aInt c.F.M,aSl 1 false aInt c.F.mod,aInt c.N,aSl 1 false aInts c.Gen]]) [] rfl (cnt_top c ls b31_4 ((lbl ls s).1.toNat) (mput (fun _=>none,0) 0 1) s hcz.1 hpv hs1 (by omega) (by omega) (by omega) hst) rfl rfl (.inl rfl) rfl ⟨arg_a rfl (cv_id (sub_lent _)),trivial⟩ ?_
 rintro s2_7 h36_7
 show Ent _ ⟨_::_,[_,_,_,_,_,_]⟩ _
 refine ent_pm 6 [5,0,4,3,2,1] rfl (by decide) rfl ?_
 refine emm rfl ?_
 refine enk K11 ?_
 refine A_R ?_
 exact retR2 (.inr rfl) results21 (A_H (A_T rfl (A_a (by unfold lsV;rw [if_pos (by rw [ldE_rng ho,if_neg h30])])))) (A_H (A_T rfl (A_a (by rw [ldE_rng ho];first | exact (if_pos h30).symm | exact (if_neg h30).symm))))

theorem cLds_no (c:Cod) (ls:List Lab) (s:Int) (h64:∀t∈ls,-9223372036854775808<=t.1/\t.1<=9223372036854775807) (hsm:csE c≠0\/csV c<=1024) (ho:chkL c ls≠0):Ctr Tryz.prog 21 [aCod c,aSl 3 true aLab ls,aInt s] (aTup [aInt (lsV c ls s),aInt (ldE c ls s)]):=by
 refine A_p Tryz.call21 func21 rfl rfl ?_
 intro w O
 refine A_Y 0 2 rfl rfl (fun hlen0_2=>?_)
 refine A_Y 0 4 rfl rfl (fun hlen0_4=>?_)
 refine A_x 1 rfl (fun hlen1=>?_)
 refine esr rfl fun _ K1=>?_
 refine A_h rfl rfl (AllOne.mem ⟨(A_F _),(A_F _),A_c,(A_F _),A_c,trivial⟩) (fun b3_1=>?_)
 refine ent_box1 rfl rfl A_c (fun b4_2=>?_)
 refine emm rfl ?_
 refine enk K1 ?_
 refine esr rfl fun _ K2=>?_
 refine A_A rfl (A_P (k:=1) ti27 rfl rfl rfl) ?_
 refine A_A rfl (A_L (k:=0) isAgg28 rfl rfl rfl) ?_
 refine A_A rfl (ok_callA (proved_no c ls [] false ho ‹_›) ⟨arg_a rfl (cv_id sub_refl),arg_a rfl (cv_id sub_refl),arg_a rfl (cv_nil (fun _=>rfl) rfl),arg_a rfl (cv_id sub_refl),trivial⟩) ?_
 refine emm rfl ?_
 refine A_A rfl (A_Q rfl rfl) ?_
 refine A_A rfl (A_Q rfl rfl) ?_
 refine ent_alloc (z:=(.pointer none)) [aEx (.pointer none)] rfl zv64 rfl zc64 (fun b8_3=>?_)
 refine ent_storeB (k:=0) sizeOf64 rfl rfl rfl (one_ex rfl) rfl ?_
 refine emm rfl ?_
 refine enk K2 ?_
 refine A_C fun _ K3=>?_
 refine esr rfl fun _ K4=>?_
 refine A_A rfl (A_y rfl rfl) ?_
 refine enk K4 ?_
 refine A_E rfl (fun h19=>?_) (fun h19=>?_)
 ·refine esk rfl ?_
  refine A_R ?_
  exact retR2 (.inr rfl) results21 (A_H (A_T rfl (A_a (by unfold lsV;rw [if_neg (by rw [ldE_chk ho];exact ho)])))) (A_H (A_T rfl (A_a (by exact (ldE_chk ho).symm))))
 exact absurd (Classical.not_not.1 h19) ho

theorem cLds_ok (c:Cod) (ls:List Lab) (s:Int) (h64:∀t∈ls,-9223372036854775808<=t.1/\t.1<=9223372036854775807) (hsm:csE c≠0\/csV c<=1024):Ctr Tryz.prog 21 [aCod c,aSl 3 true aLab ls,aInt s] (aTup [aInt (lsV c ls s),aInt (ldE c ls s)]):=by
 by_cases ho:chkL c ls=0
 ·exact cLds_yes c ls s h64 hsm ho
 exact cLds_no c ls s h64 hsm ho
end Go.Proofs.YtcilbmggiahciaaGreat

