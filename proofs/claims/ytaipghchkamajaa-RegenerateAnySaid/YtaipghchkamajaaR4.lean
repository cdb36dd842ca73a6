/-
  Walks of functions of the program and the reference.
-/
import Derived.Test.YtaipghchkamajaaR3
open Go Go.Cw
namespace Go.Proofs.Ytaipghchkamajaa
open Try
set_option maxRecDepth 100000
set_option linter.unusedVariables false
set_option linter.unusedSimpArgs false
theorem file_ok (r:Rgn) (l:List Int) (R:RgOk r):CtrF Try.prog 37 [aRgn r,aSl 1 false aInt l] (aVec 3 1 false aInt (fileL r l)):=by
 have hb:=rgB_rng R
 have hfl:=length_fileL r l
 refine ctrF_of Try.call37 func37 rfl rfl ?_
 intro w O
 refine A_o 0 2 rfl rfl (fun hlen0_2=>?_)
 refine A_o 0 6 rfl rfl (fun hlen0_6=>?_)
 refine ent_len 1 rfl (fun hlen1=>?_)
 refine esr rfl fun _ K1=>?_
 refine A_y rfl rfl (AllOne.mem ⟨(A_N _),(A_N _),A_j,(A_N _),(A_N _),(A_N _),A_j,trivial⟩) (fun b2_1=>?_)
 refine emm rfl ?_
 refine enk K1 ?_
 refine esr rfl fun _ K2=>?_
 refine A_A rfl (A_R (k:=0) ti53 rfl rfl rfl) ?_
 refine A_A rfl (A_W (rSize_ok r ‹_›) rfl) ?_
 refine emm rfl ?_
 refine A_A rfl (A_T rfl rfl) ?_
 refine A_A rfl (A_T rfl rfl) ?_
 refine emm rfl ?_
 refine enk K2 ?_
 refine esr rfl fun _ K3=>?_
 refine ent_make aInt 0 rfl vt29 rfl rfl (by omega) (by omega) (by omega) (fun _ _=>rfl) (AllV.mem ⟨rfl,trivial⟩) (fun b15_2=>?_)
 refine emm rfl ?_
 refine enk K3 ?_
 refine A_C fun _ K4=>?_
 refine esk rfl ?_
 refine A_K ?_
 refine A_d (fun (i:Int)=>(⟨[(1,aSl 1 false aInt l),(2,aEx (.pointer (some ⟨b2_1,0,none⟩))),(5,aInt (rgB r)),(7,aEx (vec (some b15_2) ((rgB r).toNat) ((rgB r).toNat))),(8,aInt i)],[oVec (some b15_2) ((rgB r).toNat) 3 1 false aInt (mixL (fileL r l) (List.replicate (rgB r).toNat 0) i),oBox b2_1 53 [aInt r.F.P,aInt r.F.M,aSl 1 false aInt r.F.mod,aInt r.Kind,aInt r.K,aInt r.D,aSl 1 false aInt r.Points]]⟩:St)) (fun (i:Int)=>(0<=i)/\(i<=rgB r)) (fun (i:Int)=>(rgB r-i).toNat) 0 ⟨(by omega),(by omega)⟩ (A_J ⟨rfl,rfl,rfl,rfl,A_V (A_p (show 0=(0:Int) by rfl)),trivial⟩ (A_F (A_s (show mixL (fileL r l) (List.replicate (rgB r).toNat 0) (0:Int)=List.replicate ((rgB r).toNat) 0 by exact mixL_zero _ _)) (rfl))) ?_
 rintro i ⟨h0,h1⟩
 show Ent _ ⟨_,[_,_]⟩ _
 have lm:(mixL (fileL r l) (List.replicate (rgB r).toNat 0) i).length=(rgB r).toNat:=by rw [length_mixL _ _ (by simp [hfl])];simp [hfl]
 refine A_C fun _ K6=>?_
 refine A_C fun _ K7=>?_
 refine ent_cut (⟨[(1,aSl 1 false aInt l),(2,aEx (.pointer (some ⟨b2_1,0,none⟩))),(5,aInt (rgB r)),(7,aEx (vec (some b15_2) ((rgB r).toNat) ((rgB r).toNat))),(8,aInt i),(24,aBool (decide ((i<(rgB r))/\(i<(↑l.length:Int)))))],[oVec (some b15_2) ((rgB r).toNat) 3 1 false aInt (mixL (fileL r l) (List.replicate (rgB r).toNat 0) i),oBox b2_1 53 [aInt r.F.P,aInt r.F.M,aSl 1 false aInt r.F.mod,aInt r.Kind,aInt r.K,aInt r.D,aSl 1 false aInt r.Points]]⟩) ?_ ?_
 ·refine A_H ?_
  refine emm rfl ?_
  refine A_A rfl (A_r rfl rfl) ?_
  refine emm rfl ?_
  refine ent_guardXDt rfl rfl rfl rfl (fun hg19=>?_) (fun hg19=>?_)
  ·refine emm rfl ?_
   refine A_M rfl rfl rfl rfl (decide_eq_true hg19) ?_
   refine emm rfl ?_
   refine A_M rfl rfl rfl rfl (decide_eq_true hg19) ?_
   refine A_A rfl (ok_len rfl runUnderlying29 rfl) ?_
   refine A_M rfl rfl rfl rfl (decide_eq_true hg19) ?_
   refine A_A rfl (A_r rfl rfl) ?_
   refine A_A rfl (A_m rfl (decide_eq_true hg19) rfl) ?_
   refine A_O ?_
   exact A_J ⟨rfl,rfl,rfl,rfl,rfl,A_X (dq_Q ((and_iff_right hg19).trans Iff.rfl)),trivial⟩ rfl
  refine A_E rfl rfl rfl rfl (decide_eq_false hg19) ?_
  refine A_E rfl rfl rfl rfl (decide_eq_false hg19) ?_
  refine A_E rfl rfl rfl rfl (decide_eq_false hg19) ?_
  refine A_A rfl (A_1 rfl (decide_eq_false hg19) rfl) ?_
  refine A_O ?_
  exact A_J ⟨rfl,rfl,rfl,rfl,rfl,A_X (dq_F rfl (fun h=>hg19 h.1)),trivial⟩ rfl
 refine A_0 K7 ?_
 refine A_G rfl (fun h24=>?_) (fun h24=>?_)
 ·refine esp K6 ?_
  refine A_C fun _ K8=>?_
  refine A_K ?_
  refine A_w 10 mixed (by kernel_rfl) (by kernel_rfl) (by kernel_rfl) ?_
  refine dw_o rfl (A_D rfl) ?_
  refine dw_o rfl (A_D rfl) ?_
  refine dw_o rfl (A_B runUnderlying53 rfl sizeOf51 (by decide) rfl) ?_
  refine dw_o rfl (A_R (k:=1) ti51 rfl rfl rfl) ?_
  refine dw_o rfl (A_D rfl) ?_
  refine dw_o rfl (A_D rfl) ?_
  refine dw_o rfl (A_a 0 sl29 rfl rfl (by omega) (by omega)) ?_
  refine dw_o rfl (A_P ti3 rfl) ?_
  refine dw_o rfl (A_W (rIn_ok r.F (ix 0 l i)) rfl) ?_
  refine dw_o rfl (ok_indexV sl29 rfl rfl (by omega) (by omega)) ?_
  refine dw_nil ?_
  refine ent_storeV (k:=0) (z:=inF r.F (ix 0 l i)) ti3 rfl rfl rfl (A_z (A_N _)) (by omega) (by omega) ?_
  refine enk K8 ?_
  refine A_H ?_
  refine emm rfl ?_
  refine A_A rfl (A_n rfl rfl (by omega) (by omega)) ?_
  refine emm rfl ?_
  refine A_O ?_
  refine A_U (s:=(i)) (i+1) ⟨(by omega),(by omega)⟩ (by omega) (A_J ⟨rfl,rfl,rfl,rfl,rfl,trivial⟩ (A_F (A_s (show mixL (fileL r l) (List.replicate (rgB r).toNat 0) (i+1)=List.set (mixL (fileL r l) (List.replicate (rgB r).toNat 0) i) (i).toNat (inF r.F (ix 0 l i)) by exact (mixL_set (fileL r l) _ h0 (by simp;omega) (by simp [hfl]) (ix_fileL h0 h24.1 h24.2).symm).symm)) (rfl)))
 refine A_e ?_
 refine A_0 K4 ?_
 refine esk rfl ?_
 refine A_Q ?_
 exact retR1 (.inr rfl) results37 (A_L (A_S rfl (cvF_vecV (k:=0) flat_int rfl rfl (by simp_all) (by exact file_end h0 h1 h24))))

theorem small_ok (r:Rgn) (hk1 : -9223372036854775808<=r.K) (hk2:r.K<=9223372036854775807) (hd1 : -9223372036854775808<=r.D) (hd2:r.D<=9223372036854775807):Ctr Try.prog 36 [aRgn r] (aBool (decide ((r.Points.length:Int)<=12/\rgErr r=0))):=by
 refine ctr_of Try.call36 func36 rfl rfl ?_
 intro w O
 refine A_o 0 2 rfl rfl (fun hlen0_2=>?_)
 refine A_o 0 6 rfl rfl (fun hlen0_6=>?_)
 refine esr rfl fun _ K1=>?_
 refine A_y rfl rfl (AllOne.mem ⟨(A_N _),(A_N _),A_j,(A_N _),(A_N _),(A_N _),A_j,trivial⟩) (fun b1_1=>?_)
 refine emm rfl ?_
 refine enk K1 ?_
 refine A_C fun _ K2=>?_
 refine ent_cut (⟨[(2,aBool (decide (((↑r.Points.length:Int)<=12)/\((rgErr r)=0))))],[oBox b1_1 53 [aInt r.F.P,aInt r.F.M,aSl 1 false aInt r.F.mod,aInt r.Kind,aInt r.K,aInt r.D,aSl 1 false aInt r.Points]]⟩) ?_ ?_
 ·refine A_H ?_
  refine A_A rfl (A_B runUnderlying53 rfl sizeOf29 (by decide) rfl) ?_
  refine A_A rfl (A_I (k:=0) isAgg29 rfl rfl rfl) ?_
  refine A_A rfl (ok_len rfl runUnderlying29 rfl) ?_
  refine A_A rfl (ok_leq rfl rfl) ?_
  refine emm rfl ?_
  refine ent_guardXDt rfl rfl rfl rfl (fun hg7=>?_) (fun hg7=>?_)
  ·refine A_A rfl (A_R (k:=0) ti53 rfl rfl rfl) ?_
   refine A_M rfl rfl rfl rfl (decide_eq_true hg7) ?_
   refine A_A rfl (A_W (rRgCheck_ok r ‹_› ‹_› ‹_› ‹_›) rfl) ?_
   refine A_M rfl rfl rfl rfl (decide_eq_true hg7) ?_
   refine A_A rfl (ok_eql rfl rfl) ?_
   refine A_A rfl (A_m rfl (decide_eq_true hg7) rfl) ?_
   refine emm rfl ?_
   refine A_O ?_
   exact A_J ⟨A_X (dq_Q ((and_iff_right hg7).trans Iff.rfl)),trivial⟩ rfl
  refine A_E rfl rfl rfl rfl (decide_eq_false hg7) ?_
  refine A_E rfl rfl rfl rfl (decide_eq_false hg7) ?_
  refine A_A rfl (A_1 rfl (decide_eq_false hg7) rfl) ?_
  refine emm rfl ?_
  refine A_O ?_
  exact A_J ⟨A_X (dq_F rfl (fun h=>hg7 h.1)),trivial⟩ rfl
 refine A_0 K2 ?_
 refine A_Q ?_
 exact retR1 (.inr rfl) results36 (A_L (A_S rfl (cv_bool rfl)))

end Go.Proofs.Ytaipghchkamajaa

