/-
  Walks of functions of the program and the reference.
-/
import Derived.Test.YtaipghchkamajaaClLib
import Derived.Test.YtaipghchkamajaaS4
open Go Go.Cw
namespace Go.Proofs.Ytaipghchkamajaa
open Try
set_option maxRecDepth 100000
set_option linter.unusedVariables false
set_option linter.unusedSimpArgs false
theorem mMulF_ok (f:Fld) (a b:Mat) (hE:mulE f a b=0):CtrF Try.prog 65 [aFld f,aMat a,aMat b] (aTup [aAgg [aInt b.cols,aVec 29 1 false aInts ((mulV f a b).rows)],aInt 0]):=by
 have ha:=(A_f.1 (mulE_zero hE).1).2
 have hb:=(A_f.1 (mulE_zero hE).2.1).2
 have hF:=(A_f.1 (mulE_zero hE).1).1
 have hm:=(mulE_zero hE).2.2
 have sa:=mat_size ha
 have sb:=mat_size hb
 refine ctrF_of Try.call65 func65 rfl rfl ?_
 intro w O
 refine A_o 0 2 rfl rfl (fun hlen0_2=>?_)
 refine A_o 1 1 rfl rfl (fun hlen1_1=>?_)
 refine A_o 2 1 rfl rfl (fun hlen2_1=>?_)
 refine esr rfl fun _ K1=>?_
 refine A_y rfl rfl (AllOne.mem ⟨(A_N _),(A_N _),A_j,trivial⟩) (fun b3_1=>?_)
 refine A_y rfl rfl (AllOne.mem ⟨(A_N _),A_j,trivial⟩) (fun b4_2=>?_)
 refine A_y rfl rfl (AllOne.mem ⟨(A_N _),A_j,trivial⟩) (fun b5_3=>?_)
 refine ent_alloc (z:=.agg #[.int .i64 0,.slice none 0 0]) [aInt 0,aEx (.slice none 0 0)] rfl zv107 rfl zc107 (fun b6_4=>?_)
 refine emm rfl ?_
 refine enk K1 ?_
 refine esr rfl fun _ K2=>?_
 refine A_A rfl (A_R (k:=3) ti51 rfl rfl rfl) ?_
 refine A_A rfl (A_R (k:=2) ti107 rfl rfl rfl) ?_
 refine A_A rfl (A_R (k:=1) ti107 rfl rfl rfl) ?_
 refine A_A rfl (ok_build2 (enc:=aMat) (y1:=(⟨a.cols,a.rows⟩:Mat)) (y2:=(⟨b.cols,b.rows⟩:Mat)) vt152 (by decide) rfl rfl (elem_agg (AllOne.mem ⟨(A_N _),A_j,trivial⟩)) (elem_agg (AllOne.mem ⟨(A_N _),A_j,trivial⟩)) (by decide)) ?_
 refine A_A rfl (A_W (open_ok f [(⟨a.cols,a.rows⟩:Mat),(⟨b.cols,b.rows⟩:Mat)] hF (by intro m hm;simp only [List.mem_cons,List.not_mem_nil,or_false] at hm;rcases hm with rfl | rfl <;> assumption) (by simp)) rfl) ?_
 refine emm rfl ?_
 refine A_A rfl (A_T rfl rfl) ?_
 refine A_A rfl (A_T rfl rfl) ?_
 refine emm rfl ?_
 refine enk K2 ?_
 refine A_C fun _ K3=>?_
 refine esr rfl fun _ K4=>?_
 refine A_A rfl (ok_neq rfl rfl) ?_
 refine enk K4 ?_
 refine ent_condFP rfl (by decide) ?_
 refine esp K3 ?_
 refine A_C fun _ K5=>?_
 refine esr rfl fun _ K6=>?_
 refine A_A rfl (A_B runUnderlying107 rfl sizeOf3 (by decide) rfl) ?_
 refine A_A rfl (A_I (k:=2) isAgg3 rfl rfl rfl) ?_
 refine A_A rfl (A_B runUnderlying107 rfl sizeOf65 (by decide) rfl) ?_
 refine A_A rfl (A_I (k:=1) isAgg65 rfl rfl rfl) ?_
 refine A_A rfl (ok_len rfl runUnderlying65 rfl) ?_
 refine A_A rfl (ok_neq rfl rfl) ?_
 refine enk K6 ?_
 refine A_G rfl (fun h30=>?_) (fun h30=>?_)
 ·exact absurd hm h30
 refine esp K5 ?_
 refine esr rfl fun _ K7=>?_
 refine A_A rfl (A_B runUnderlying107 rfl sizeOf3 (by decide) rfl) ?_
 refine A_A rfl (A_I (k:=1) isAgg3 rfl rfl rfl) ?_
 refine A_A rfl (ok_build st107 (As:=[aInt 0,aEx (.slice none 0 0)]) z107 (⟨0,1,rfl,.inl ⟨rfl,_,rfl,(A_N _),rfl,rfl⟩⟩)) ?_
 refine ent_alloc (z:=.agg #[.int .i64 0,.slice none 0 0]) [aInt 0,aEx (.slice none 0 0)] rfl zv107 rfl zc107 (fun b10_5=>?_)
 refine A_t (k:=0) sizeOf107 rfl rfl rfl (AllOne.mem ⟨(A_N _),(one_ex rfl),trivial⟩) rfl rfl ?_
 show Ent _ ⟨_,[_,_,_,_,_]⟩ _
 refine enk K7 ?_
 refine A_C fun _ K8=>?_
 refine esr rfl fun _ K9=>?_
 refine A_A rfl (A_B runUnderlying107 rfl sizeOf65 (by decide) rfl) ?_
 refine A_A rfl (A_I (k:=3) isAgg65 rfl rfl rfl) ?_
 refine A_A rfl (ok_len rfl runUnderlying65 rfl) ?_
 refine emm rfl ?_
 refine enk K9 ?_
 refine A_K ?_
 refine ent_open 29 1 false (aNR w) (fun _=>rfl) ?_
 refine A_d (fun (ss:Int×Option Nat×Nat)=>match ss with | (i,rr7,cc7)=>(⟨[(5,aEx (.pointer (some ⟨b5_3,0,none⟩))),(6,aEx (.pointer (some ⟨b6_4,0,none⟩))),(8,aGF f),(10,aEx (.pointer (some ⟨b10_5,0,none⟩))),(36,aSl 1 false aInts a.rows),(37,aInt (↑a.rows.length:Int)),(38,aInt i)],[oVec rr7 cc7 29 1 false (aNR w) (mapT (fun row=>comb f row b.rows b.cols) a.rows i),oBox b10_5 107 [aInt b.cols,aEx (vec rr7 ((mapT (fun row=>comb f row b.rows b.cols) a.rows i).length) cc7)],oBox b6_4 107 [aInt 0,aEx (.slice none 0 0)],oBox b5_3 107 [aInt b.cols,aSl 1 false aInts b.rows],oBox b4_2 107 [aInt a.cols,aSl 1 false aInts a.rows],oBox b3_1 51 [aInt f.P,aInt f.M,aSl 1 false aInt f.mod]]⟩:St)) (fun (ss:Int×Option Nat×Nat)=>match ss with | (i,rr7,cc7)=>(0<=i)/\(i<=a.rows.length)) (fun (ss:Int×Option Nat×Nat)=>match ss with | (i,rr7,cc7)=>(a.rows.length-i).toNat) (0,none,0) ⟨(by omega),(by omega)⟩ (A_J ⟨rfl,rfl,rfl,rfl,rfl,rfl,A_V (A_p (show 0=(0:Int) by rfl)),trivial⟩ (A_F (A_s (show mapT (fun row=>comb f row b.rows b.cols) a.rows (0:Int) = [] by rfl)) (A_F (own_box (av_cons rfl (av_cons (rfl) (rfl)))) (rfl)))) ?_
 rintro ⟨i,rr7,cc7⟩ ⟨h0,h1⟩
 show Ent _ ⟨_,[_,_,_,_,_,_]⟩ _
 have lf:=length_mapT (fun row=>comb f row b.rows b.cols) a.rows (i:=i) (by omega)
 refine esr rfl fun _ K10=>?_
 refine A_A rfl (A_r rfl rfl) ?_
 refine enk K10 ?_
 refine A_C fun _ K11=>?_
 refine A_G rfl (fun h39=>?_) (fun h39=>?_)
 ·refine esp K11 ?_
  refine A_C fun _ K12=>?_
  refine A_K ?_
  refine esr rfl fun _ K13=>?_
  refine A_A rfl (A_a [] sl65 rfl rfl (by omega) (by omega)) ?_
  refine A_A rfl (A_P ti29 rfl) ?_
  refine emm rfl ?_
  refine enk K13 ?_
  refine A_w 10 mixed (by kernel_rfl) (by kernel_rfl) (by kernel_rfl) ?_
  refine dw_o rfl (A_B runUnderlying107 rfl sizeOf65 (by decide) rfl) ?_
  refine dw_o rfl (A_I (k:=1) isAgg65 rfl rfl rfl) ?_
  refine dw_o rfl (A_D rfl) ?_
  refine dw_o rfl (A_D rfl) ?_
  refine dw_o rfl (A_B runUnderlying107 rfl sizeOf65 (by decide) rfl) ?_
  refine dw_o rfl (A_I (k:=3) isAgg65 rfl rfl rfl) ?_
  refine dw_o rfl (A_B runUnderlying107 rfl sizeOf3 (by decide) rfl) ?_
  refine dw_o rfl (A_I (k:=3) isAgg3 rfl rfl rfl) ?_
  refine dw_o rfl (ok_callFr [] (vec_ok f (ix [] a.rows i) b.rows b.cols ‹_› (by omega) (by omega) (by have:=row_len ha h0 h39;omega) (fun i i0 i1=>row_len hb i0 i1)) ⟨A_u rfl (A_x (A_l _)),A_u rfl (A_x (A_l _)),A_u rfl (A_x (A_l _)),A_u rfl (A_x (A_l _)),trivial⟩) ?_
  refine dw_o rfl (OpOK.as (A:=aFull 1 false (aNR w) [comb f (ix [] a.rows i) b.rows b.cols]) (by exact ok_build1F (enc:=aNR w) (y:=comb f (ix [] a.rows i) b.rows b.cols) vt65 rfl cv_frSl (A_z (one_fr A_j)) (by decide)) aFull_sl) ?_
  refine dw_nil ?_
  refine ent_appendS (k:=0) (hone:=fun _ _=>one_fr A_j) rfl vt65 rfl rfl rfl rfl (A_x A_h) (by simp only [List.length_append,List.length_cons,List.length_nil];omega) (by simp only [List.length_append,List.length_cons,List.length_nil];omega) (fun r52_7 cr52_7=>?_)
  refine A_A rfl (A_B runUnderlying107 rfl sizeOf65 (by decide) rfl) ?_
  refine ent_storeB (k:=1) sizeOf65 rfl rfl rfl (one_ex rfl) rfl ?_
  refine enk K12 ?_
  refine A_H ?_
  refine A_A rfl (A_n rfl rfl (by omega) (by omega)) ?_
  refine emm rfl ?_
  refine A_O ?_
  refine A_U (s:=(i,rr7,cc7)) (i+1,r52_7,cr52_7) ⟨(by omega),‹_›⟩ (by dsimp only;omega) (A_J ⟨rfl,rfl,rfl,rfl,rfl,rfl,rfl,trivial⟩ (A_F (A_s (show mapT (fun row=>comb f row b.rows b.cols) a.rows (i+1)=(mapT (fun row=>comb f row b.rows b.cols) a.rows i)++[comb f (ix [] a.rows i) b.rows b.cols] by exact mapT_succ [] _ a.rows h0 h39)) (A_F (own_box (av_cons rfl (av_cons (av_vec (congrArg List.length (show mapT (fun row=>comb f row b.rows b.cols) a.rows (i+1)=(mapT (fun row=>comb f row b.rows b.cols) a.rows i)++[comb f (ix [] a.rows i) b.rows b.cols] by exact mapT_succ [] _ a.rows h0 h39))) (rfl)))) (rfl))))
 refine A_e ?_
 refine A_0 K8 ?_
 refine esr rfl fun _ K14=>?_
 refine A_A rfl (A_R (k:=1) ti107 rfl rfl rfl) ?_
 refine A_t (k:=2) sizeOf107 rfl rfl rfl (AllOne.mem ⟨(A_N _),(one_ex rfl),trivial⟩) rfl rfl ?_
 show Ent _ ⟨_,[_,_,_,_,_,_]⟩ _
 refine emm rfl ?_
 refine enk K14 ?_
 refine A_Q ?_
 exact retR2 (.inr rfl) results65 (resr_cell (k:=2) ti107 rfl rfl rfl (cv_agg ⟨A_Z rfl,cvF_vecN (k:=0) rfl rfl rfl (by rw [mulV_ok hE,mapT_all _ _ (by omega)];rfl),trivial⟩)) (A_L (A_S rfl (A_Z rfl)))
end Go.Proofs.Ytaipghchkamajaa

