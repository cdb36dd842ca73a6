/-
  Walks.
-/
import Derived.Test.YtaipghchkamajaaC13
open Go Go.Cw
namespace Go.Proofs.Ytaipghchkamajaa
open Try
set_option maxRecDepth 100000
set_option linter.unusedVariables false
set_option linter.unusedSimpArgs false
theorem unit_ok (n:Int) (hn0:0<=n) (hn1:n<=1000):CtrW Try.prog 137 [] [aInt n] (fun (y:Option Nat×Nat×List Hdr)=>match y with | (r,c,Hs)=>Hs.length=n.toNat) (fun (y:Option Nat×Nat×List Hdr)=>match y with | (r,c,Hs)=>aEx (vec r Hs.length c)) (fun (y:Option Nat×Nat×List Hdr)=>match y with | (r,c,Hs)=>[oVec r c 29 1 false aH Hs,oRws 3 aInt [] Hs (uni n)]):=by
 refine D_I Try.call137 func137 rfl rfl ?_
 intro w O
 refine esk rfl <|esr rfl fun _ K2=>B_1 aH Hdr.no rfl vt65 rfl rfl (by omega) (by omega) (by omega) (fun _ _=>rfl) (AllV.mem ⟨rfl,trivial⟩) fun b6_1=>ent_rowsN 3 aInt ((n).toNat) <|emm rfl <|enk K2 <|A_C fun _ K3=>esr rfl fun _ K4=>A_A rfl (B_T rfl runUnderlying65 rfl) <|emm rfl <|enk K4 <|A_I <|A_Y (fun (ss:Int×List Hdr)=>match ss with | (i,Hs)=>(⟨[(0,aInt n),(3,aEx (vec (some b6_1) ((n).toNat) ((n).toNat))),(8,aInt (↑((n).toNat):Int)),(9,aInt i)],[oRws 3 aInt [] Hs (mixG (uni n) (List.replicate n.toNat []) i),oVec (some b6_1) ((n).toNat) 29 1 false aH Hs]⟩:St)) (fun (ss:Int×List Hdr)=>match ss with | (i,Hs)=>(0<=i)/\(i<=n)/\(Hs.length=n.toNat)) (fun (ss:Int×List Hdr)=>match ss with | (i,Hs)=>(n-i).toNat) (0,List.replicate ((n).toNat) Hdr.no) ⟨(by omega),‹_›,(by simp)⟩ (A_J ⟨rfl,rfl,rfl,A_Q (A_k (show 0=(0:Int) by rfl)),trivial⟩ (A_G (A_4 (show (List.replicate ((n).toNat) Hdr.no)=List.replicate ((n).toNat) Hdr.no by rfl) (show mixG (uni n) (List.replicate n.toNat []) (0:Int)=List.replicate ((n).toNat) [] by exact E_G _ _)) (rfl))) ?_
 rintro ⟨i,Hs⟩ ⟨h0,h1,hH⟩
 show Ent _ ⟨_,[_,_]⟩ _
 have lm:(mixG (uni n) (List.replicate n.toNat []) i).length=n.toNat:=by rw [D_D _ _ (by rw [B_R];simp) h0 (by rw [B_R];omega),B_R]
 refine esr rfl fun _ K5=>A_A rfl (A_m rfl rfl) <|enk K5 <|A_C fun _ K6=>?_
 refine A_H rfl (fun h10=>?_) (fun h10=>?_)
 ·refine esp K6 <|A_C fun _ K7=>A_I <|esk rfl <|esr rfl fun _ K9=>B_1 aInt 0 rfl vt29 rfl rfl (by omega) (by omega) (by omega) (fun _ _=>rfl) (AllV.mem ⟨rfl,trivial⟩) fun b15_2=>A_A rfl (A_s sl65 rfl rfl) <|B_C (k:=2) (z:=⟨(some b15_2),(n).toNat,(n).toNat⟩) ti29 rfl rfl rfl (A_n (B_b rfl)) (by omega) (by omega) <|D_e 1 0 i (m:=(n).toNat) [] rfl rfl (by decide) (by simp) (by simp) <|enk K9 <|A_F <|emm rfl <|A_A rfl (A_s sl65 rfl rfl) <|A_A rfl (B_f (k:=1) Hdr.no ti29 rfl rfl (by omega) (by simp only [l_S];omega)) <|emm rfl <|A_A rfl (B_4 (k:=0) sl29 rfl rfl rfl (by omega) (by simp only [l_S];omega) (by exact List.not_mem_nil) (by omega) (by rw [E_3 _ h0 (by omega),l_R];omega)) <|C_W (k:=0) (z:=1) ti3 rfl rfl rfl (A_n (A_N _)) (by omega) (by simp only [l_S];omega) (by omega) (by rw [E_3 _ h0 (by omega),l_R];omega) <|enk K7 <|A_F <|A_A rfl (A_g rfl rfl) <|emm rfl <|A_O ?_
  refine A_T (s:=(i,Hs)) (i+1,List.set Hs (i).toNat ⟨(some b15_2),(n).toNat,(n).toNat⟩) ⟨(by omega),(by omega),(by simp only [l_S];exact hH)⟩ (by dsimp only;omega) (A_J ⟨rfl,rfl,rfl,rfl,trivial⟩ (A_G (A_4 (show (List.set Hs (i).toNat ⟨(some b15_2),(n).toNat,(n).toNat⟩)=List.set Hs (i).toNat ⟨(some b15_2),(n).toNat,(n).toNat⟩ by rfl) (show mixG (uni n) (List.replicate n.toNat []) (i+1)=List.set (List.set (mixG (uni n) (List.replicate n.toNat []) i) (i).toNat (List.replicate ((n).toNat) 0)) (i).toNat (List.set (ix [] (List.set (mixG (uni n) (List.replicate n.toNat []) i) (i).toNat (List.replicate ((n).toNat) 0)) i) (i).toNat 1) by rw [set_set_ix _ _ _ _ h0 (by omega),<- uni_row h0 (by omega)];exact F_s [] (uni n) _ h0 (by rw [B_R];omega) (by rw [B_R];simp))) (A_G (A_e (show (List.set Hs (i).toNat ⟨(some b15_2),(n).toNat,(n).toNat⟩)=List.set Hs (i).toNat (⟨(some b15_2),(n).toNat,(n).toNat⟩) by rfl)) (rfl))))
 refine A_Z <|A_1 K3 <|esk rfl <|A_R <|C_n 2 [0,1] rfl (by decide) rfl ?_
 exact retW (.inr rfl) ((some b6_1),(n).toNat,Hs) (hH) ((show ([oVec (some b6_1) ((n).toNat) 29 1 false aH Hs,oRws 3 aInt [] Hs (uni n)]:List Own) = [oVec (some b6_1) ((n).toNat) 29 1 false aH Hs,oRws 3 aInt [] Hs (mixG (uni n) (List.replicate n.toNat []) i)] from (A_G (rfl) (A_G (A_4 rfl (show uni n=mixG (uni n) (List.replicate n.toNat []) i by exact (G_q _ _ (by rw [B_R];omega) (by rw [B_R];simp)).symm)) (rfl)))).symm) (resW1 results137 (A_L (A_U rfl (D_S (show vec (some b6_1) ((n).toNat) ((n).toNat)=vec (some b6_1) Hs.length ((n).toNat) by congr 1 <;> first | omega | (simp;done) | (simp;omega))))))

theorem open_no (f:Fld) (l:List Mat) (hN:opErr f l≠0):Ctr Try.prog 94 [aFld f,aSl 2 true aMat l] (aTup [aEx (.pointer none),aInt (opErr f l)]):=by
 refine B_E Try.call94 func94 rfl rfl ?_
 intro w O
 refine A_l 0 2 rfl rfl fun hlen0_2=>B_D 1 rfl fun hlen1=>esr rfl fun _ K1=>A_w rfl rfl (AllOne.mem ⟨(A_N _),(A_N _),A_j,trivial⟩) fun b2_1=>emm rfl <|enk K1 <|esr rfl fun _ K2=>A_A rfl (A_S (k:=0) ti51 rfl rfl rfl) ?_
 rcases Classical.em (FOk f) with hF | hF
 ·refine A_A rfl (A_X (CtrF.ctr (New_ok f hF)) rfl) <|emm rfl <|A_A rfl (A_V rfl rfl) <|A_A rfl (A_V rfl rfl) <|emm rfl <|enk K2 <|A_C fun _ K3=>esr rfl fun _ K4=>A_A rfl (B_B rfl rfl) <|enk K4 <|C_4 rfl (by decide) <|esp K3 <|A_C fun _ K5=>esr rfl fun _ K6=>A_A rfl (A_5 rfl runUnderlying152 rfl) <|emm rfl <|enk K6 <|A_I <|A_Y (fun (i:Int)=>(⟨[(6,aGF f),(18,aSl 2 true aMat l),(19,aInt (↑l.length:Int)),(20,aInt i)],[oBox b2_1 51 [aInt f.P,aInt f.M,aSl 1 false aInt f.mod]]⟩:St)) (fun (i:Int)=>(0<=i)/\(i<=l.length)/\(∀m∈l.take i.toNat,matErr f m=0)) (fun (i:Int)=>(l.length-i).toNat) 0 ⟨(by omega),(by omega),(by simp)⟩ (A_J ⟨rfl,rfl,rfl,A_Q (A_k (show 0=(0:Int) by rfl)),trivial⟩ rfl) ?_
  rintro i ⟨h0,h1,hp⟩
  show Ent _ ⟨_,[_]⟩ _
  refine esr rfl fun _ K7=>A_A rfl (A_m rfl rfl) <|enk K7 <|A_C fun _ K8=>?_
  refine A_H rfl (fun h21=>?_) (fun h21=>?_)
  ·refine esp K8 <|A_C fun _ K9=>A_I <|esr rfl fun _ K10=>A_A rfl (A_W Mat.no sl152 rfl rfl) <|A_A rfl (A_P ti107 rfl) <|B_V (z:=.agg #[.int .i64 0,.slice none 0 0]) [aInt 0,aEx (.slice none 0 0)] rfl zv107 rfl zc107 fun b9_2=>A_2 (k:=0) sizeOf107 rfl rfl rfl (AllOne.mem ⟨(A_N _),A_j,trivial⟩) rfl rfl ?_
   show Ent _ ⟨_,[_,_]⟩ _
   refine enk K10 <|esr rfl fun _ K11=>A_A rfl (A_S (k:=0) ti107 rfl rfl rfl) <|A_A rfl (A_X (mcheck_ok f (ix Mat.no l i)) rfl) <|emm rfl <|enk K11 <|esr rfl fun _ K12=>A_A rfl (B_B rfl rfl) <|enk K12 ?_
   refine A_H rfl (fun h28=>?_) (fun h28=>?_)
   ·refine esk rfl <|A_R ?_
    exact retR2 (.inr rfl) results94 (A_L (A_U rfl (A_y F_G))) (A_L (A_U rfl (A_b (by unfold opErr;rw [i_P hF];exact (matsErr_at h0 h21 hp h28).symm))))
   refine esp K9 <|A_F <|A_A rfl (A_g rfl rfl) <|emm rfl <|A_O <|C_B 0 ?_
   refine A_T (s:=(i)) (i+1) ⟨(by omega),‹_›,(D_V Mat.no h0 h21 hp (n_N h28))⟩ (by omega) (A_J ⟨rfl,rfl,rfl,rfl,trivial⟩ rfl)
  exact absurd (opErr_zero.2 ⟨hF,fun m hm=>by rw [t_L (by omega)] at hp;exact hp m hm⟩) hN
 refine A_A rfl (A_X (New_no f hF) rfl) <|emm rfl <|A_A rfl (A_V rfl rfl) <|A_A rfl (A_V rfl rfl) <|emm rfl <|enk K2 <|A_C fun _ K14=>esr rfl fun _ K15=>A_A rfl (B_B rfl rfl) <|enk K15 <|E_J rfl (by decide) <|esk rfl <|A_R ?_
 exact retR2 (.inr rfl) results94 (A_L (A_U rfl (A_y F_G))) (A_L (A_U rfl (A_b (by unfold opErr;exact (i_N hF).symm))))
end Go.Proofs.Ytaipghchkamajaa

