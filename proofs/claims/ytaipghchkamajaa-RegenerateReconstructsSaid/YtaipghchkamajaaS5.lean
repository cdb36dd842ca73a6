/-
  Walks.
-/
import Derived.Test.YtaipghchkamajaaClLib
import Derived.Test.YtaipghchkamajaaS4
open Go Go.Cw
namespace Go.Proofs.Ytaipghchkamajaa
open Try
set_option maxRecDepth 100000
set_option linter.unusedVariables false
set_option linter.unusedSimpArgs false
theorem mMulF_ok (f:Fld) (a b:Mat) (hE:mulE f a b=0):CtrF Try.prog 65 [aFld f,aMat a,aMat b] (aTup [aAgg [aInt b.cols,aVec 29 1 false aInts ((mulV f a b).rows)],aInt 0]):=by
 have ha:=(A_i.1 (B_c hE).1).2
 have hb:=(A_i.1 (B_c hE).2.1).2
 have hF:=(A_i.1 (B_c hE).1).1
 have hm:=(B_c hE).2.2
 have sa:=C_N ha
 have sb:=C_N hb
 refine C_x Try.call65 func65 rfl rfl ?_
 intro w O
 refine A_l 0 2 rfl rfl fun hlen0_2=>A_l 1 1 rfl rfl fun hlen1_1=>A_l 2 1 rfl rfl fun hlen2_1=>esr rfl fun _ K1=>A_w rfl rfl (AllOne.mem ⟨(A_N _),(A_N _),A_j,trivial⟩) fun b3_1=>A_w rfl rfl (AllOne.mem ⟨(A_N _),A_j,trivial⟩) fun b4_2=>A_w rfl rfl (AllOne.mem ⟨(A_N _),A_j,trivial⟩) fun b5_3=>B_V (z:=.agg #[.int .i64 0,.slice none 0 0]) [aInt 0,aEx (.slice none 0 0)] rfl zv107 rfl zc107 fun b6_4=>emm rfl <|enk K1 <|esr rfl fun _ K2=>A_A rfl (A_S (k:=3) ti51 rfl rfl rfl) <|A_A rfl (A_S (k:=2) ti107 rfl rfl rfl) <|A_A rfl (A_S (k:=1) ti107 rfl rfl rfl) <|A_A rfl (ok_build2 (enc:=aMat) (y1:=(⟨a.cols,a.rows⟩:Mat)) (y2:=(⟨b.cols,b.rows⟩:Mat)) vt152 (by decide) rfl rfl (D_y (AllOne.mem ⟨(A_N _),A_j,trivial⟩)) (D_y (AllOne.mem ⟨(A_N _),A_j,trivial⟩)) (by decide)) <|A_A rfl (A_X (open_ok f [(⟨a.cols,a.rows⟩:Mat),(⟨b.cols,b.rows⟩:Mat)] hF (by intro m hm;simp only [List.mem_cons,List.not_mem_nil,or_false] at hm;rcases hm with rfl | rfl <;> assumption) (by simp)) rfl) <|emm rfl <|A_A rfl (A_V rfl rfl) <|A_A rfl (A_V rfl rfl) <|emm rfl <|enk K2 <|A_C fun _ K3=>esr rfl fun _ K4=>A_A rfl (B_B rfl rfl) <|enk K4 <|C_4 rfl (by decide) <|esp K3 <|A_C fun _ K5=>esr rfl fun _ K6=>A_A rfl (A_B runUnderlying107 rfl sizeOf3 (by decide) rfl) ?_
 refine A_A rfl (A_K (k:=2) isAgg3 rfl rfl rfl) <|A_A rfl (A_B runUnderlying107 rfl sizeOf65 (by decide) rfl) <|A_A rfl (A_K (k:=1) isAgg65 rfl rfl rfl) <|A_A rfl (A_5 rfl runUnderlying65 rfl) <|A_A rfl (B_B rfl rfl) <|enk K6 ?_
 refine A_H rfl (fun h30=>?_) (fun h30=>?_)
 ·exact absurd hm h30
 refine esp K5 <|esr rfl fun _ K7=>A_A rfl (A_B runUnderlying107 rfl sizeOf3 (by decide) rfl) <|A_A rfl (A_K (k:=1) isAgg3 rfl rfl rfl) <|A_A rfl (B_y st107 (As:=[aInt 0,aEx (.slice none 0 0)]) z107 (⟨0,1,rfl,.inl ⟨rfl,_,rfl,(A_N _),rfl,rfl⟩⟩)) <|B_V (z:=.agg #[.int .i64 0,.slice none 0 0]) [aInt 0,aEx (.slice none 0 0)] rfl zv107 rfl zc107 fun b10_5=>A_2 (k:=0) sizeOf107 rfl rfl rfl (AllOne.mem ⟨(A_N _),(B_b rfl),trivial⟩) rfl rfl ?_
 show Ent _ ⟨_,[_,_,_,_,_]⟩ _
 refine enk K7 <|A_C fun _ K8=>esr rfl fun _ K9=>A_A rfl (A_B runUnderlying107 rfl sizeOf65 (by decide) rfl) <|A_A rfl (A_K (k:=3) isAgg65 rfl rfl rfl) <|A_A rfl (A_5 rfl runUnderlying65 rfl) <|emm rfl <|enk K9 <|A_I <|B_U 29 1 false (aNR w) (fun _=>rfl) <|A_Y (fun (ss:Int×Option Nat×Nat)=>match ss with | (i,rr7,cc7)=>(⟨[(5,aEx (.pointer (some ⟨b5_3,0,none⟩))),(6,aEx (.pointer (some ⟨b6_4,0,none⟩))),(8,aGF f),(10,aEx (.pointer (some ⟨b10_5,0,none⟩))),(36,aSl 1 false aInts a.rows),(37,aInt (↑a.rows.length:Int)),(38,aInt i)],[oVec rr7 cc7 29 1 false (aNR w) (mapT (fun row=>comb f row b.rows b.cols) a.rows i),oBox b10_5 107 [aInt b.cols,aEx (vec rr7 ((mapT (fun row=>comb f row b.rows b.cols) a.rows i).length) cc7)],oBox b6_4 107 [aInt 0,aEx (.slice none 0 0)],oBox b5_3 107 [aInt b.cols,aSl 1 false aInts b.rows],oBox b4_2 107 [aInt a.cols,aSl 1 false aInts a.rows],oBox b3_1 51 [aInt f.P,aInt f.M,aSl 1 false aInt f.mod]]⟩:St)) (fun (ss:Int×Option Nat×Nat)=>match ss with | (i,rr7,cc7)=>(0<=i)/\(i<=a.rows.length)) (fun (ss:Int×Option Nat×Nat)=>match ss with | (i,rr7,cc7)=>(a.rows.length-i).toNat) (0,none,0) ⟨(by omega),(by omega)⟩ (A_J ⟨rfl,rfl,rfl,rfl,rfl,rfl,A_Q (A_k (show 0=(0:Int) by rfl)),trivial⟩ (A_G (A_e (show mapT (fun row=>comb f row b.rows b.cols) a.rows (0:Int) = [] by rfl)) (A_G (C_Y (B_S rfl (B_S (rfl) (rfl)))) (rfl)))) ?_
 rintro ⟨i,rr7,cc7⟩ ⟨h0,h1⟩
 show Ent _ ⟨_,[_,_,_,_,_,_]⟩ _
 have lf:=D_n (fun row=>comb f row b.rows b.cols) a.rows (i:=i) (by omega)
 refine esr rfl fun _ K10=>A_A rfl (A_m rfl rfl) <|enk K10 <|A_C fun _ K11=>?_
 refine A_H rfl (fun h39=>?_) (fun h39=>?_)
 ·refine esp K11 <|A_C fun _ K12=>A_I <|esr rfl fun _ K13=>A_A rfl (A_W [] sl65 rfl rfl) <|A_A rfl (A_P ti29 rfl) <|emm rfl <|enk K13 <|A_u 10 mixed (by kernel_rfl) (by kernel_rfl) (by kernel_rfl) <|dw_o rfl (A_B runUnderlying107 rfl sizeOf65 (by decide) rfl) <|dw_o rfl (A_K (k:=1) isAgg65 rfl rfl rfl) <|dw_o rfl (A_D rfl) <|dw_o rfl (A_D rfl) <|dw_o rfl (A_B runUnderlying107 rfl sizeOf65 (by decide) rfl) <|dw_o rfl (A_K (k:=3) isAgg65 rfl rfl rfl) <|dw_o rfl (A_B runUnderlying107 rfl sizeOf3 (by decide) rfl) <|dw_o rfl (A_K (k:=3) isAgg3 rfl rfl rfl) <|dw_o rfl (E_k [] (vec_ok f (ix [] a.rows i) b.rows b.cols ‹_› (by omega) (by omega) (by have:=F_J ha h0 h39;omega) (fun i i0 i1=>F_J hb i0 i1)) ⟨A_z rfl (A_y (A_p _)),A_z rfl (A_y (A_p _)),A_z rfl (A_y (A_p _)),A_z rfl (A_y (A_p _)),trivial⟩) <|dw_o rfl (OpOK.as (A:=aFull 1 false (aNR w) [comb f (ix [] a.rows i) b.rows b.cols]) (by exact ok_build1F (enc:=aNR w) (y:=comb f (ix [] a.rows i) b.rows b.cols) vt65 rfl cv_frSl (A_n (one_fr A_j)) (by decide)) aFull_sl) <|A_9 <|B_P (k:=0) (hone:=fun _ _=>one_fr A_j) rfl vt65 rfl rfl rfl rfl (A_y A_h) (by simp only [l_A,List.length_cons,List.length_nil];omega) (by simp only [l_A,List.length_cons,List.length_nil];omega) fun r52_7 cr52_7=>A_A rfl (A_B runUnderlying107 rfl sizeOf65 (by decide) rfl) <|B_3 (k:=1) sizeOf65 rfl rfl rfl (B_b rfl) rfl <|enk K12 <|A_F <|A_A rfl (A_g rfl rfl) <|emm rfl <|A_O ?_
  refine A_T (s:=(i,rr7,cc7)) (i+1,r52_7,cr52_7) ⟨(by omega),‹_›⟩ (by dsimp only;omega) (A_J ⟨rfl,rfl,rfl,rfl,rfl,rfl,rfl,trivial⟩ (A_G (A_e (show mapT (fun row=>comb f row b.rows b.cols) a.rows (i+1)=(mapT (fun row=>comb f row b.rows b.cols) a.rows i)++[comb f (ix [] a.rows i) b.rows b.cols] by exact C_q [] _ a.rows h0 h39)) (A_G (C_Y (B_S rfl (B_S (B_J (congrArg List.length (show mapT (fun row=>comb f row b.rows b.cols) a.rows (i+1)=(mapT (fun row=>comb f row b.rows b.cols) a.rows i)++[comb f (ix [] a.rows i) b.rows b.cols] by exact C_q [] _ a.rows h0 h39))) (rfl)))) (rfl))))
 refine A_Z <|A_1 K8 <|esr rfl fun _ K14=>A_A rfl (A_S (k:=1) ti107 rfl rfl rfl) <|A_2 (k:=2) sizeOf107 rfl rfl rfl (AllOne.mem ⟨(A_N _),(B_b rfl),trivial⟩) rfl rfl ?_
 show Ent _ ⟨_,[_,_,_,_,_,_]⟩ _
 refine emm rfl <|enk K14 <|A_R ?_
 exact retR2 (.inr rfl) results65 (C_E (k:=2) ti107 rfl rfl rfl (B_9 ⟨A_b rfl,cvF_vecN (k:=0) rfl rfl rfl (by rw [C_K hE,F_t _ _ (by omega)];rfl),trivial⟩)) (A_L (A_U rfl (A_b rfl)))
end Go.Proofs.Ytaipghchkamajaa

