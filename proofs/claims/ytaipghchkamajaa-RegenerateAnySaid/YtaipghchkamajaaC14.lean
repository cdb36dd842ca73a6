/-
  Walks of functions of the program and the reference.
-/
import Derived.Test.YtaipghchkamajaaC13
open Go Go.Cw
namespace Go.Proofs.Ytaipghchkamajaa
open Try
set_option maxRecDepth 100000
set_option linter.unusedVariables false
set_option linter.unusedSimpArgs false
theorem unit_ok (n:Int) (hn0:0<=n) (hn1:n<=1000):CtrW Try.prog 137 [] [aInt n] (fun (y:Option Nat×Nat×List Hdr)=>match y with | (r,c,Hs)=>Hs.length=n.toNat) (fun (y:Option Nat×Nat×List Hdr)=>match y with | (r,c,Hs)=>aEx (vec r Hs.length c)) (fun (y:Option Nat×Nat×List Hdr)=>match y with | (r,c,Hs)=>[oVec r c 29 1 false aH Hs,oRws 3 aInt [] Hs (uni n)]):=by
 refine ctrW_of Try.call137 func137 rfl rfl ?_
 intro w O
 refine esk rfl ?_
 refine esr rfl fun _ K2=>?_
 refine ent_make aH Hdr.no rfl vt65 rfl rfl (by omega) (by omega) (by omega) (fun _ _=>rfl) (AllV.mem ⟨rfl,trivial⟩) (fun b6_1=>?_)
 refine ent_rowsN 3 aInt ((n).toNat) ?_
 refine emm rfl ?_
 refine enk K2 ?_
 refine A_C fun _ K3=>?_
 refine esr rfl fun _ K4=>?_
 refine A_A rfl (ok_lenEx rfl runUnderlying65 rfl) ?_
 refine emm rfl ?_
 refine enk K4 ?_
 refine A_K ?_
 refine A_d (fun (ss:Int×List Hdr)=>match ss with | (i,Hs)=>(⟨[(0,aInt n),(3,aEx (vec (some b6_1) ((n).toNat) ((n).toNat))),(8,aInt (↑((n).toNat):Int)),(9,aInt i)],[oRws 3 aInt [] Hs (mixG (uni n) (List.replicate n.toNat []) i),oVec (some b6_1) ((n).toNat) 29 1 false aH Hs]⟩:St)) (fun (ss:Int×List Hdr)=>match ss with | (i,Hs)=>(0<=i)/\(i<=n)/\(Hs.length=n.toNat)) (fun (ss:Int×List Hdr)=>match ss with | (i,Hs)=>(n-i).toNat) (0,List.replicate ((n).toNat) Hdr.no) ⟨(by omega),‹_›,(by simp)⟩ (A_J ⟨rfl,rfl,rfl,A_V (A_p (show 0=(0:Int) by rfl)),trivial⟩ (A_F (own_rws (show (List.replicate ((n).toNat) Hdr.no)=List.replicate ((n).toNat) Hdr.no by rfl) (show mixG (uni n) (List.replicate n.toNat []) (0:Int)=List.replicate ((n).toNat) [] by exact mixG_zero _ _)) (rfl))) ?_
 rintro ⟨i,Hs⟩ ⟨h0,h1,hH⟩
 show Ent _ ⟨_,[_,_]⟩ _
 have lm:(mixG (uni n) (List.replicate n.toNat []) i).length=n.toNat:=by rw [length_mixG _ _ (by rw [length_uni];simp) h0 (by rw [length_uni];omega),length_uni]
 refine esr rfl fun _ K5=>?_
 refine A_A rfl (A_r rfl rfl) ?_
 refine enk K5 ?_
 refine A_C fun _ K6=>?_
 refine A_G rfl (fun h10=>?_) (fun h10=>?_)
 ·refine esp K6 ?_
  refine A_C fun _ K7=>?_
  refine A_K ?_
  refine esk rfl ?_
  refine esr rfl fun _ K9=>?_
  refine ent_make aInt 0 rfl vt29 rfl rfl (by omega) (by omega) (by omega) (fun _ _=>rfl) (AllV.mem ⟨rfl,trivial⟩) (fun b15_2=>?_)
  refine A_A rfl (ok_indexV sl65 rfl rfl (by omega) (by omega)) ?_
  refine ent_storeV (k:=2) (z:=⟨(some b15_2),(n).toNat,(n).toNat⟩) ti29 rfl rfl rfl (A_z (one_ex rfl)) (by omega) (by omega) ?_
  refine ent_putRow 1 0 i (m:=(n).toNat) [] rfl rfl (by decide) (by simp) (by simp) ?_
  refine enk K9 ?_
  refine A_H ?_
  refine emm rfl ?_
  refine A_A rfl (ok_indexV sl65 rfl rfl (by omega) (by omega)) ?_
  refine A_A rfl (ok_loadV (k:=1) Hdr.no ti29 rfl rfl (by omega) (by simp only [List.length_set];omega)) ?_
  refine emm rfl ?_
  refine A_A rfl (ok_indexH (k:=0) sl29 rfl rfl rfl (by omega) (by simp only [List.length_set];omega) (by exact List.not_mem_nil) (by omega) (by rw [ixlen_setR _ h0 (by omega),List.length_replicate];omega)) ?_
  refine ent_storeH (k:=0) (z:=1) ti3 rfl rfl rfl (A_z (A_N _)) (by omega) (by simp only [List.length_set];omega) (by omega) (by rw [ixlen_setR _ h0 (by omega),List.length_replicate];omega) ?_
  refine enk K7 ?_
  refine A_H ?_
  refine A_A rfl (A_n rfl rfl (by omega) (by omega)) ?_
  refine emm rfl ?_
  refine A_O ?_
  refine A_U (s:=(i,Hs)) (i+1,List.set Hs (i).toNat ⟨(some b15_2),(n).toNat,(n).toNat⟩) ⟨(by omega),(by omega),(by simp only [List.length_set];exact hH)⟩ (by dsimp only;omega) (A_J ⟨rfl,rfl,rfl,rfl,trivial⟩ (A_F (own_rws (show (List.set Hs (i).toNat ⟨(some b15_2),(n).toNat,(n).toNat⟩)=List.set Hs (i).toNat ⟨(some b15_2),(n).toNat,(n).toNat⟩ by rfl) (show mixG (uni n) (List.replicate n.toNat []) (i+1)=List.set (List.set (mixG (uni n) (List.replicate n.toNat []) i) (i).toNat (List.replicate ((n).toNat) 0)) (i).toNat (List.set (ix [] (List.set (mixG (uni n) (List.replicate n.toNat []) i) (i).toNat (List.replicate ((n).toNat) 0)) i) (i).toNat 1) by rw [set_set_ix _ _ _ _ h0 (by omega),<- uni_row h0 (by omega)];exact mixG_set [] (uni n) _ h0 (by rw [length_uni];omega) (by rw [length_uni];simp))) (A_F (A_s (show (List.set Hs (i).toNat ⟨(some b15_2),(n).toNat,(n).toNat⟩)=List.set Hs (i).toNat (⟨(some b15_2),(n).toNat,(n).toNat⟩) by rfl)) (rfl))))
 refine A_e ?_
 refine A_0 K3 ?_
 refine esk rfl ?_
 refine A_Q ?_
 refine ent_pm 2 [0,1] rfl (by decide) rfl ?_
 exact retW (.inr rfl) ((some b6_1),(n).toNat,Hs) (hH) ((show ([oVec (some b6_1) ((n).toNat) 29 1 false aH Hs,oRws 3 aInt [] Hs (uni n)]:List Own) = [oVec (some b6_1) ((n).toNat) 29 1 false aH Hs,oRws 3 aInt [] Hs (mixG (uni n) (List.replicate n.toNat []) i)] from (A_F (rfl) (A_F (own_rws rfl (show uni n=mixG (uni n) (List.replicate n.toNat []) i by exact (mixG_all _ _ (by rw [length_uni];omega) (by rw [length_uni];simp)).symm)) (rfl)))).symm) (resW1 results137 (A_L (A_S rfl (cv_ex (show vec (some b6_1) ((n).toNat) ((n).toNat)=vec (some b6_1) Hs.length ((n).toNat) by congr 1 <;> first | omega | (simp;done) | (simp;omega))))))

theorem open_no (f:Fld) (l:List Mat) (hN:opErr f l≠0):Ctr Try.prog 94 [aFld f,aSl 2 true aMat l] (aTup [aEx (.pointer none),aInt (opErr f l)]):=by
 refine ctr_of Try.call94 func94 rfl rfl ?_
 intro w O
 refine A_o 0 2 rfl rfl (fun hlen0_2=>?_)
 refine ent_len 1 rfl (fun hlen1=>?_)
 refine esr rfl fun _ K1=>?_
 refine A_y rfl rfl (AllOne.mem ⟨(A_N _),(A_N _),A_j,trivial⟩) (fun b2_1=>?_)
 refine emm rfl ?_
 refine enk K1 ?_
 refine esr rfl fun _ K2=>?_
 refine A_A rfl (A_R (k:=0) ti51 rfl rfl rfl) ?_
 rcases Classical.em (FOk f) with hF | hF
 ·refine A_A rfl (A_W (CtrF.ctr (New_ok f hF)) rfl) ?_
  refine emm rfl ?_
  refine A_A rfl (A_T rfl rfl) ?_
  refine A_A rfl (A_T rfl rfl) ?_
  refine emm rfl ?_
  refine enk K2 ?_
  refine A_C fun _ K3=>?_
  refine esr rfl fun _ K4=>?_
  refine A_A rfl (ok_neq rfl rfl) ?_
  refine enk K4 ?_
  refine ent_condFP rfl (by decide) ?_
  refine esp K3 ?_
  refine A_C fun _ K5=>?_
  refine esr rfl fun _ K6=>?_
  refine A_A rfl (ok_len rfl runUnderlying152 rfl) ?_
  refine emm rfl ?_
  refine enk K6 ?_
  refine A_K ?_
  refine A_d (fun (i:Int)=>(⟨[(6,aGF f),(18,aSl 2 true aMat l),(19,aInt (↑l.length:Int)),(20,aInt i)],[oBox b2_1 51 [aInt f.P,aInt f.M,aSl 1 false aInt f.mod]]⟩:St)) (fun (i:Int)=>(0<=i)/\(i<=l.length)/\(∀m∈l.take i.toNat,matErr f m=0)) (fun (i:Int)=>(l.length-i).toNat) 0 ⟨(by omega),(by omega),(by simp)⟩ (A_J ⟨rfl,rfl,rfl,A_V (A_p (show 0=(0:Int) by rfl)),trivial⟩ rfl) ?_
  rintro i ⟨h0,h1,hp⟩
  show Ent _ ⟨_,[_]⟩ _
  refine esr rfl fun _ K7=>?_
  refine A_A rfl (A_r rfl rfl) ?_
  refine enk K7 ?_
  refine A_C fun _ K8=>?_
  refine A_G rfl (fun h21=>?_) (fun h21=>?_)
  ·refine esp K8 ?_
   refine A_C fun _ K9=>?_
   refine A_K ?_
   refine esr rfl fun _ K10=>?_
   refine A_A rfl (A_a Mat.no sl152 rfl rfl (by omega) (by omega)) ?_
   refine A_A rfl (A_P ti107 rfl) ?_
   refine ent_alloc (z:=.agg #[.int .i64 0,.slice none 0 0]) [aInt 0,aEx (.slice none 0 0)] rfl zv107 rfl zc107 (fun b9_2=>?_)
   refine A_t (k:=0) sizeOf107 rfl rfl rfl (AllOne.mem ⟨(A_N _),A_j,trivial⟩) rfl rfl ?_
   show Ent _ ⟨_,[_,_]⟩ _
   refine enk K10 ?_
   refine esr rfl fun _ K11=>?_
   refine A_A rfl (A_R (k:=0) ti107 rfl rfl rfl) ?_
   refine A_A rfl (A_W (mcheck_ok f (ix Mat.no l i)) rfl) ?_
   refine emm rfl ?_
   refine enk K11 ?_
   refine esr rfl fun _ K12=>?_
   refine A_A rfl (ok_neq rfl rfl) ?_
   refine enk K12 ?_
   refine A_G rfl (fun h28=>?_) (fun h28=>?_)
   ·refine esk rfl ?_
    refine A_Q ?_
    exact retR2 (.inr rfl) results94 (A_L (A_S rfl (A_x sub_x))) (A_L (A_S rfl (A_Z (by unfold opErr;rw [if_pos hF];exact (matsErr_at h0 h21 hp h28).symm))))
   refine esp K9 ?_
   refine A_H ?_
   refine A_A rfl (A_n rfl rfl (by omega) (by omega)) ?_
   refine emm rfl ?_
   refine A_O ?_
   refine ent_drop 0 ?_
   refine A_U (s:=(i)) (i+1) ⟨(by omega),‹_›,(not_take_succ Mat.no h0 h21 hp (Classical.not_not.1 h28))⟩ (by omega) (A_J ⟨rfl,rfl,rfl,rfl,trivial⟩ rfl)
  exact absurd (opErr_zero.2 ⟨hF,fun m hm=>by rw [List.take_of_length_le (by omega)] at hp;exact hp m hm⟩) hN
 refine A_A rfl (A_W (New_no f hF) rfl) ?_
 refine emm rfl ?_
 refine A_A rfl (A_T rfl rfl) ?_
 refine A_A rfl (A_T rfl rfl) ?_
 refine emm rfl ?_
 refine enk K2 ?_
 refine A_C fun _ K14=>?_
 refine esr rfl fun _ K15=>?_
 refine A_A rfl (ok_neq rfl rfl) ?_
 refine enk K15 ?_
 refine ent_condTP rfl (by decide) ?_
 refine esk rfl ?_
 refine A_Q ?_
 exact retR2 (.inr rfl) results94 (A_L (A_S rfl (A_x sub_x))) (A_L (A_S rfl (A_Z (by unfold opErr;exact (if_neg hF).symm))))
end Go.Proofs.Ytaipghchkamajaa

