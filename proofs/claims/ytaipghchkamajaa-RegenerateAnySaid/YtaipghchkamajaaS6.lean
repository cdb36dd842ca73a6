/-
  Walks of functions of the program and the reference.
-/
import Derived.Test.YtaipghchkamajaaS5
open Go Go.Cw
namespace Go.Proofs.Ytaipghchkamajaa
open Try
set_option maxRecDepth 100000
set_option linter.unusedVariables false
set_option linter.unusedSimpArgs false
theorem slvMulF_ok (r:Rgn) (xs:List Int) (cs:List (List Int)) (a b:Mat) (hE:mulE r.F a b=0):CtrF Try.prog 109 [aSlv r xs cs,aMat a,aMat b] (aAgg [aInt b.cols,aVec 29 1 false aInts ((mulV r.F a b).rows)]):=by
 refine ctrF_of Try.call109 func109 rfl rfl ?_
 intro w O
 refine A_q 0 2 rfl rfl (fun hlen0_2=>?_)
 refine A_q 0 6 rfl rfl (fun hlen0_6=>?_)
 refine A_q 0 8 rfl rfl (fun hlen0_8=>?_)
 refine A_q 0 9 rfl rfl (fun hlen0_9=>?_)
 refine A_o 1 1 rfl rfl (fun hlen1_1=>?_)
 refine A_o 2 1 rfl rfl (fun hlen2_1=>?_)
 refine esr rfl fun _ K1=>?_
 refine A_y rfl rfl (AllOne.mem ⟨(A_N _),A_j,trivial⟩) (fun b4_1=>?_)
 refine A_y rfl rfl (AllOne.mem ⟨(A_N _),A_j,trivial⟩) (fun b5_2=>?_)
 refine ent_alloc (z:=.agg #[.int .i64 0,.slice none 0 0]) [aInt 0,aEx (.slice none 0 0)] rfl zv107 rfl zc107 (fun b6_3=>?_)
 refine enk K1 ?_
 refine A_C fun _ K2=>?_
 refine ent_drawB2 (T:=107) (z:=.agg #[.int .i64 0,.slice none 0 0]) (As:=[aInt 0,aEx (.slice none 0 0)]) 12 [10] 11 7 [(10,aSlv r xs cs),(11,aSlv r xs cs),(12,aAt 7 true (aAgg [aInt r.F.P,aInt r.F.M,aSl 1 false aInt r.F.mod,aInt r.Kind,aInt r.K,aInt r.D,aSl 1 false aInt r.Points])),(13,aAt 3 true (aAgg [aInt r.F.P,aInt r.F.M,aSl 1 false aInt r.F.mod])),(14,aAgg [aInt r.F.P,aInt r.F.M,aSl 1 false aInt r.F.mod]),(15,aAgg [aInt a.cols,aSl 1 false aInts a.rows]),(16,aAgg [aInt b.cols,aSl 1 false aInts b.rows]),(17,aFr w.heap.size (aTup [aAgg [aInt b.cols,aVec 29 1 false aInts ((mulV r.F a b).rows)],aInt 0])),(9,aFr w.heap.size (aTup [aAgg [aInt b.cols,aVec 29 1 false aInts ((mulV r.F a b).rows)],aInt 0])),(18,aAgg [aInt b.cols,aFr w.heap.size (aVec 29 1 false aInts ((mulV r.F a b).rows))]),(19,aFr w.heap.size (aInt 0)),(7,aBoxF w.heap.size 107 [aInt 0,aEx (.slice none 0 0)])] mixed (by kernel_rfl) (by kernel_rfl) (by kernel_rfl) (by kernel_rfl) (by kernel_rfl) (fun _ _ _ _ _ h=>h) rfl (by kernel_rfl) (by kernel_rfl) (fun _=>by kernel_rfl) (fun _=>by kernel_rfl) (fun _=>by kernel_rfl) zv107 rfl zc107 (by kernel_rfl) ?_ (fun bb_4=>?_)
 ·refine A_c rfl rfl (OpOK.eqv (A_D rfl) rfl) ?_
  refine A_c rfl rfl (OpOK.eqv (A_b rfl) rfl) ?_
  refine A_c rfl rfl (OpOK.eqv (A_k runUnderlying118 rfl sizeOf53 (by decide) (Nat.le_of_ble_eq_true rfl) rfl) rfl) ?_
  refine A_c rfl rfl (OpOK.eqv (A_k runUnderlying53 rfl sizeOf51 (by decide) (Nat.le_of_ble_eq_true rfl) rfl) rfl) ?_
  refine A_c rfl rfl (OpOK.eqv (A_P ti51 rfl) rfl) ?_
  refine A_c rfl rfl (OpOK.eqv (A_R (k:=2) ti107 rfl rfl rfl) rfl) ?_
  refine A_c rfl rfl (OpOK.eqv (A_R (k:=1) ti107 rfl rfl rfl) rfl) ?_
  refine A_c rfl rfl (OpOK.eqv (ok_callFr [] (mMulF_ok r.F a b hE) ⟨A_u rfl (A_x (A_l _)),A_u rfl (A_x (A_l _)),A_u rfl (A_x (A_l _)),trivial⟩) rfl) ?_
  refine A_c rfl rfl (OpOK.eqv (A_D rfl) rfl) ?_
  refine A_c rfl rfl (OpOK.eqv (ok_extractFrA (Bs:=[aInt b.cols,aFr w.heap.size (aVec 29 1 false aInts ((mulV r.F a b).rows))]) rfl rfl ⟨fun _ _ _ q=>q,fun _ _ _ q=>q,trivial⟩) rfl) ?_
  refine A_c rfl rfl (OpOK.eqv (ok_extractFr rfl rfl) rfl) ?_
  refine A_c rfl rfl (OpOK.eqv (ok_allocF (z:=.agg #[.int .i64 0,.slice none 0 0]) [aInt 0,aEx (.slice none 0 0)] zv107 rfl zc107) rfl) ?_
  exact dwl_nil trivial
 refine A_c rfl rfl (OpOK.eqv (A_D rfl) rfl) ?_
 refine A_c rfl rfl (OpOK.eqv (A_b rfl) rfl) ?_
 refine A_c rfl rfl (OpOK.eqv (A_k runUnderlying118 rfl sizeOf53 (by decide) (Nat.le_of_ble_eq_true rfl) rfl) rfl) ?_
 refine A_c rfl rfl (OpOK.eqv (A_k runUnderlying53 rfl sizeOf51 (by decide) (Nat.le_of_ble_eq_true rfl) rfl) rfl) ?_
 refine A_c rfl rfl (OpOK.eqv (A_P ti51 rfl) rfl) ?_
 refine A_c rfl rfl (OpOK.eqv (A_R (k:=3) ti107 rfl rfl rfl) rfl) ?_
 refine A_c rfl rfl (OpOK.eqv (A_R (k:=2) ti107 rfl rfl rfl) rfl) ?_
 refine A_c rfl rfl (OpOK.eqv (ok_callFr [] (mMulF_ok r.F a b hE) ⟨A_u rfl (A_x (A_l _)),A_u rfl (A_x (A_l _)),A_u rfl (A_x (A_l _)),trivial⟩) rfl) ?_
 refine A_c rfl rfl (OpOK.eqv (A_D rfl) rfl) ?_
 refine A_c rfl rfl (OpOK.eqv (ok_extractFrA (Bs:=[aInt b.cols,aFr w.heap.size (aVec 29 1 false aInts ((mulV r.F a b).rows))]) rfl rfl ⟨fun _ _ _ q=>q,fun _ _ _ q=>q,trivial⟩) rfl) ?_
 refine A_c rfl rfl (OpOK.eqv (ok_extractFr rfl rfl) rfl) ?_
 refine A_c rfl rfl (A_D rfl) ?_
 refine dwl_nil ?_
 refine A_t (k:=0) sizeOf107 rfl rfl rfl (AllOne.mem ⟨(A_N _),one_frvec,trivial⟩) rfl rfl ?_
 show Ent _ ⟨_,[_,_,_,_]⟩ _
 refine emm rfl ?_
 refine enk K2 ?_
 refine esr rfl fun _ K3=>?_
 refine A_A rfl (A_R (k:=0) ti107 rfl rfl rfl) ?_
 refine A_t (k:=1) sizeOf107 rfl rfl rfl (AllOne.mem ⟨(A_N _),one_frvec,trivial⟩) rfl rfl ?_
 show Ent _ ⟨_,[_,_,_,_]⟩ _
 refine enk K3 ?_
 refine A_Q ?_
 exact retR1 (.inr rfl) results109 (resr_cell (k:=1) ti107 rfl rfl rfl (cv_agg ⟨A_Z rfl,cvF_fr rfl,trivial⟩))

theorem middle_ok (r:Rgn) (xs:List Int) (cs:List (List Int)) (a:Int) (P:List (List Int)) (hF:FOk r.F) (hx:∀x∈xs,0<=x/\x<r.F.q) (hn:xs.Nodup) (hl:(xs.length:Int)=a+1) (a1:1<=a) (a2:a<=200) (hq:a<=r.F.q-1) (hPl:(P.length:Int)=a+1) (hPg:good r.F (a+1).toNat P):CtrF Try.prog 113 [aSlv r xs cs,aAgg [aInt a,aSl 1 false aInts (vdm r.F xs a)],aSl 1 false aInts P] (aVec 29 1 false aInts (midV r.F a xs P)):=by
 have lv:=length_vdm r.F xs a
 have lms:(midS r.F a xs P).length=a.toNat:=A_v _ _
 have hmO:=mid_ok hF hx hn hl a1 a2 hq hPl hPg
 have hmI:=mid_inv hF hx hn hl a1 a2 hq hPl hPg
 refine ctrF_of Try.call113 func113 rfl rfl ?_
 intro w O
 refine A_q 0 2 rfl rfl (fun hlen0_2=>?_)
 refine A_q 0 6 rfl rfl (fun hlen0_6=>?_)
 refine A_q 0 8 rfl rfl (fun hlen0_8=>?_)
 refine A_q 0 9 rfl rfl (fun hlen0_9=>?_)
 refine A_o 1 1 rfl rfl (fun hlen1_1=>?_)
 refine ent_len 2 rfl (fun hlen2=>?_)
 refine esr rfl fun _ K1=>?_
 refine A_y rfl rfl (AllOne.mem ⟨(A_N _),A_j,trivial⟩) (fun b4_1=>?_)
 refine emm rfl ?_
 refine enk K1 ?_
 refine esr rfl fun _ K2=>?_
 refine A_A rfl (A_B runUnderlying107 rfl sizeOf3 (by decide) rfl) ?_
 refine A_A rfl (A_I (k:=0) isAgg3 rfl rfl rfl) ?_
 refine emm rfl ?_
 refine enk K2 ?_
 refine esr rfl fun _ K3=>?_
 refine A_A rfl (ok_build st107 (As:=[aInt 0,aEx (.slice none 0 0)]) z107 (⟨0,1,rfl,.inl ⟨rfl,_,rfl,(A_N _),rfl,rfl⟩⟩)) ?_
 refine ent_alloc (z:=.agg #[.int .i64 0,.slice none 0 0]) [aInt 0,aEx (.slice none 0 0)] rfl zv107 rfl zc107 (fun b8_2=>?_)
 refine A_t (k:=0) sizeOf107 rfl rfl rfl (AllOne.mem ⟨(A_N _),(one_ex rfl),trivial⟩) rfl rfl ?_
 show Ent _ ⟨_,[_,_]⟩ _
 refine enk K3 ?_
 refine A_C fun _ K4=>?_
 refine esk rfl ?_
 refine A_K ?_
 refine ent_open 29 1 false aInts (fun _=>rfl) ?_
 refine A_d (fun (ss:Int×Option Nat×Nat)=>match ss with | (i,rr4,cc4)=>(⟨[(0,aSlv r xs cs),(2,aSl 1 false aInts P),(4,aEx (.pointer (some ⟨b4_1,0,none⟩))),(7,aInt a),(8,aEx (.pointer (some ⟨b8_2,0,none⟩))),(20,aInt a),(21,aInt i)],[oVec rr4 cc4 29 1 false aInts ((midS r.F a xs P).take i.toNat),oBox b8_2 107 [aInt a,aEx (vec rr4 (((midS r.F a xs P).take i.toNat).length) cc4)],oBox b4_1 107 [aInt a,aSl 1 false aInts (vdm r.F xs a)]]⟩:St)) (fun (ss:Int×Option Nat×Nat)=>match ss with | (i,rr4,cc4)=>(0<=i)/\(i<=a)) (fun (ss:Int×Option Nat×Nat)=>match ss with | (i,rr4,cc4)=>(a-i).toNat) (0,none,0) ⟨(by omega),(by omega)⟩ (A_J ⟨rfl,rfl,rfl,rfl,rfl,rfl,A_V (A_p (show 0=(0:Int) by rfl)),trivial⟩ (A_F (A_s (show (midS r.F a xs P).take (0:Int).toNat = [] by rfl)) (A_F (own_box (av_cons rfl (av_cons (rfl) (rfl)))) (rfl)))) ?_
 rintro ⟨i,rr4,cc4⟩ ⟨h0,h1⟩
 show Ent _ ⟨_,[_,_,_]⟩ _
 have ltm:((midS r.F a xs P).take i.toNat).length=i.toNat:=by rw [List.length_take];omega
 refine esr rfl fun _ K6=>?_
 refine A_A rfl (A_r rfl rfl) ?_
 refine enk K6 ?_
 refine A_C fun _ K7=>?_
 refine A_G rfl (fun h22=>?_) (fun h22=>?_)
 ·have hri:=(hPg _ (ix_mem' (l:=P) (i:=i) h0 (by omega))).1
  have hmr:=mid_row hF hx hn hl a1 a2 hq hPl hPg h0 h22
  refine esp K7 ?_
  refine A_C fun _ K8=>?_
  refine A_K ?_
  refine esk rfl ?_
  refine esr rfl fun _ K10=>?_
  refine A_A rfl (ok_build st107 (As:=[aInt 0,aEx (.slice none 0 0)]) z107 (⟨0,1,rfl,.inl ⟨rfl,_,rfl,(A_N _),rfl,rfl⟩⟩)) ?_
  refine ent_alloc (z:=.agg #[.int .i64 0,.slice none 0 0]) [aInt 0,aEx (.slice none 0 0)] rfl zv107 rfl zc107 (fun b10_5=>?_)
  refine A_t (k:=0) sizeOf107 rfl rfl rfl (AllOne.mem ⟨(A_N _),(one_ex rfl),trivial⟩) rfl rfl ?_
  show Ent _ ⟨_,[_,_,_,_]⟩ _
  refine emm rfl ?_
  refine enk K10 ?_
  refine A_C fun _ K11=>?_
  refine esr rfl fun _ K12=>?_
  refine A_A rfl (A_B runUnderlying107 rfl sizeOf65 (by decide) rfl) ?_
  refine A_A rfl (A_I (k:=3) isAgg65 rfl rfl rfl) ?_
  refine A_A rfl (ok_len rfl runUnderlying65 rfl) ?_
  refine emm rfl ?_
  refine enk K12 ?_
  refine A_K ?_
  refine ent_open 3 1 false aInt (fun _=>rfl) ?_
  refine ent_open 29 1 false aInts (fun _=>rfl) ?_
  refine A_d (fun (ss:Int×Option Nat×Nat×Option Nat×Nat)=>match ss with | (j,rr8,cc8,rr9,cc9)=>(⟨[(0,aSlv r xs cs),(2,aSl 1 false aInts P),(4,aEx (.pointer (some ⟨b4_1,0,none⟩))),(7,aInt a),(8,aEx (.pointer (some ⟨b8_2,0,none⟩))),(9,aInt i),(10,aEx (.pointer (some ⟨b10_5,0,none⟩))),(11,aEx (vec rr9 ((omI ((ix [] P i).take j.toNat) i).length) cc9)),(20,aInt a),(21,aInt i),(27,aSl 1 false aInts (vdm r.F xs a)),(28,aInt (↑(vdm r.F xs a).length:Int)),(29,aInt j)],[oVec rr8 cc8 29 1 false aInts (omI ((vdm r.F xs a).take j.toNat) i),oVec rr9 cc9 3 1 false aInt (omI ((ix [] P i).take j.toNat) i),oBox b10_5 107 [aInt a,aEx (vec rr8 ((omI ((vdm r.F xs a).take j.toNat) i).length) cc8)],oVec rr4 cc4 29 1 false aInts ((midS r.F a xs P).take i.toNat),oBox b8_2 107 [aInt a,aEx (vec rr4 (((midS r.F a xs P).take i.toNat).length) cc4)],oBox b4_1 107 [aInt a,aSl 1 false aInts (vdm r.F xs a)]]⟩:St)) (fun (ss:Int×Option Nat×Nat×Option Nat×Nat)=>match ss with | (j,rr8,cc8,rr9,cc9)=>(0<=j)/\(j<=xs.length)) (fun (ss:Int×Option Nat×Nat×Option Nat×Nat)=>match ss with | (j,rr8,cc8,rr9,cc9)=>(xs.length-j).toNat) (0,none,0,none,0) ⟨(by omega),(by omega)⟩ (A_J ⟨rfl,rfl,rfl,rfl,rfl,rfl,rfl,A_V ((show aEx (vec none ([]:List _).length 0)=aEx (vec none ((omI ((ix [] P i).take (0:Int).toNat) i).length) 0) from av_vec (congrArg List.length (show omI ((ix [] P i).take (0:Int).toNat) i = [] by simp [omI]).symm))),rfl,rfl,rfl,rfl,A_V (A_p (show 0=(0:Int) by rfl)),trivial⟩ (A_F (A_s (show omI ((vdm r.F xs a).take (0:Int).toNat) i = [] by simp [omI])) (A_F (A_s (show omI ((ix [] P i).take (0:Int).toNat) i = [] by simp [omI])) (A_F (own_box (av_cons rfl (av_cons ((by simp [omI];rfl)) (rfl)))) (rfl))))) ?_
  rintro ⟨j,rr8,cc8,rr9,cc9⟩ ⟨j0,j1⟩
  show Ent _ ⟨_,[_,_,_,_,_,_]⟩ _
  have lo1:(omI ((vdm r.F xs a).take j.toNat) i).length<=(vdm r.F xs a).length:=by unfold omI;rw [List.length_append,List.length_take,List.length_drop,List.length_take];omega
  have lo2:(omI ((ix [] P i).take j.toNat) i).length<=(ix [] P i).length:=by unfold omI;rw [List.length_append,List.length_take,List.length_drop,List.length_take];omega
  refine esr rfl fun _ K13=>?_
  refine A_A rfl (A_r rfl rfl) ?_
  refine enk K13 ?_
  refine A_C fun _ K14=>?_
  refine A_G rfl (fun h30=>?_) (fun h30=>?_)
  ·refine esp K14 ?_
   refine A_C fun _ K15=>?_
   refine A_K ?_
   refine esr rfl fun _ K16=>?_
   refine A_A rfl (A_a [] sl65 rfl rfl (by omega) (by omega)) ?_
   refine A_A rfl (A_P ti29 rfl) ?_
   refine emm rfl ?_
   refine enk K16 ?_
   refine esr rfl fun _ K17=>?_
   refine A_A rfl (ok_neq rfl rfl) ?_
   refine enk K17 ?_
   refine A_G rfl (fun h36=>?_) (fun h36=>?_)
   ·refine esr rfl fun _ K18=>?_
    refine A_A rfl (A_B runUnderlying107 rfl sizeOf65 (by decide) rfl) ?_
    refine A_A rfl (A_I (k:=2) isAgg65 rfl rfl rfl) ?_
    refine emm rfl ?_
    refine ent_appendL (k:=0) (enc:=aInts) (y:=ix [] (vdm r.F xs a) j) rfl rfl vt65 rfl rfl rfl rfl ((A_z A_j)) (by omega) (by omega) (by decide) (fun b41_10 c41_10=>?_)
    refine A_A rfl (A_B runUnderlying107 rfl sizeOf65 (by decide) rfl) ?_
    refine ent_storeB (k:=2) sizeOf65 rfl rfl rfl (one_ex rfl) rfl ?_
    refine enk K18 ?_
    refine A_H ?_
    refine emm rfl ?_
    refine A_A rfl (A_a [] sl65 rfl rfl (by omega) (by omega)) ?_
    refine A_A rfl (A_P ti29 rfl) ?_
    refine emm rfl ?_
    refine A_A rfl (A_a 0 sl29 rfl rfl (by omega) (by omega)) ?_
    refine A_A rfl (A_P ti3 rfl) ?_
    refine ent_appendL (k:=1) (enc:=aInt) (y:=ix 0 (ix [] P i) j) rfl rfl vt29 rfl rfl rfl rfl ((A_z (A_N _))) (by omega) (by omega) (by decide) (fun b52_11 c52_11=>?_)
    refine emm rfl ?_
    refine enk K15 ?_
    refine A_H ?_
    refine A_A rfl (A_n rfl rfl (by omega) (by omega)) ?_
    refine emm rfl ?_
    refine A_O ?_
    refine A_U (s:=(j,rr8,cc8,rr9,cc9)) (j+1,(some b41_10),c41_10,(some b52_11),c52_11) ⟨(by omega),(by omega)⟩ (by dsimp only;omega) (A_J ⟨rfl,rfl,rfl,rfl,rfl,rfl,rfl,A_V (av_vec (congrArg List.length (show omI ((ix [] P i).take (j+1).toNat) i=(omI ((ix [] P i).take j.toNat) i)++[ix 0 (ix [] P i) j] by exact omI_step 0 h0 j0 (by omega) h36).symm)),rfl,rfl,rfl,rfl,rfl,trivial⟩ (A_F (A_s (show omI ((vdm r.F xs a).take (j+1).toNat) i=(omI ((vdm r.F xs a).take j.toNat) i)++[ix [] (vdm r.F xs a) j] by exact omI_step [] h0 j0 (by omega) h36)) (A_F (A_s (show omI ((ix [] P i).take (j+1).toNat) i=(omI ((ix [] P i).take j.toNat) i)++[ix 0 (ix [] P i) j] by exact omI_step 0 h0 j0 (by omega) h36)) (A_F (own_box (av_cons rfl (av_cons (av_vec (congrArg List.length (show omI ((vdm r.F xs a).take (j+1).toNat) i=(omI ((vdm r.F xs a).take j.toNat) i)++[ix [] (vdm r.F xs a) j] by exact omI_step [] h0 j0 (by omega) h36))) (rfl)))) (rfl)))))
   refine esp K15 ?_
   refine A_H ?_
   refine A_A rfl (A_n rfl rfl (by omega) (by omega)) ?_
   refine emm rfl ?_
   refine A_O ?_
   refine A_U (s:=(j,rr8,cc8,rr9,cc9)) (j+1,rr8,cc8,rr9,cc9) ⟨(by omega),(by omega)⟩ (by dsimp only;omega) (A_J ⟨rfl,rfl,rfl,rfl,rfl,rfl,rfl,A_V (av_vec (congrArg List.length (show omI ((ix [] P i).take (j+1).toNat) i=omI ((ix [] P i).take j.toNat) i by rw [show j=i by omega];exact omI_same 0 h0 (by omega)).symm)),rfl,rfl,rfl,rfl,rfl,trivial⟩ (A_F (A_s (show omI ((vdm r.F xs a).take (j+1).toNat) i=omI ((vdm r.F xs a).take j.toNat) i by rw [show j=i by omega];exact omI_same [] h0 (by omega))) (A_F (A_s (show omI ((ix [] P i).take (j+1).toNat) i=omI ((ix [] P i).take j.toNat) i by rw [show j=i by omega];exact omI_same 0 h0 (by omega))) (A_F (own_box (av_cons rfl (av_cons (av_vec (congrArg List.length (show omI ((vdm r.F xs a).take (j+1).toNat) i=omI ((vdm r.F xs a).take j.toNat) i by rw [show j=i by omega];exact omI_same [] h0 (by omega)))) (rfl)))) (rfl)))))
  have htk1:omI ((vdm r.F xs a).take j.toNat) i=vdm r.F (omI xs i) a:=by rw [List.take_of_length_le (by omega),vdm_omI]
  have htk2:omI ((ix [] P i).take j.toNat) i=omI (ix [] P i) i:=by rw [List.take_of_length_le (by omega)]
  refine A_e ?_
  refine A_0 K11 ?_
  refine A_C fun _ K19=>?_
  rw [htk1,htk2]
  refine ent_giveC 2 0 1 rfl rfl rfl (by decide) rfl ?_
  refine ent_give 0 11 rfl (cv_vec (k:=0) (off_erase rfl) rfl rfl) ?_
  refine A_w 13 mixed (by kernel_rfl) (by kernel_rfl) (by kernel_rfl) ?_
  refine dw_o rfl (A_D rfl) ?_
  refine dw_o rfl (A_b rfl) ?_
  refine dw_o rfl (A_k runUnderlying118 rfl sizeOf53 (by decide) (Nat.le_of_ble_eq_true rfl) rfl) ?_
  refine dw_o rfl (A_k runUnderlying53 rfl sizeOf51 (by decide) (Nat.le_of_ble_eq_true rfl) rfl) ?_
  refine dw_o rfl (A_P ti51 rfl) ?_
  refine dw_o rfl (A_R (k:=0) ti107 rfl rfl rfl) ?_
  refine dw_o rfl (A_D rfl) ?_
  refine dw_o rfl (ok_callA (mSolve_ok r.F (⟨a,vdm r.F (omI xs i) a⟩:Mat) (omI (ix [] P i) i)) ⟨A_u rfl (A_x A_h),A_u rfl (cv_agg ⟨A_Z rfl,cv_sl A_h rfl,trivial⟩),A_u rfl (A_x A_h),trivial⟩) ?_
  refine dw_o rfl (A_D rfl) ?_
  refine dw_o rfl (A_T rfl rfl) ?_
  refine dw_o rfl (A_T rfl rfl) ?_
  refine dw_o rfl (ok_assign rfl) ?_
  refine dw_o rfl (ok_assign rfl) ?_
  refine dw_nil ?_
  refine enk K19 ?_
  refine A_H ?_
  refine A_A rfl (A_B runUnderlying107 rfl sizeOf65 (by decide) rfl) ?_
  refine A_A rfl (A_I (k:=2) isAgg65 rfl rfl rfl) ?_
  refine emm rfl ?_
  refine ent_appendL (k:=1) (enc:=aInts) (y:=solV r.F (⟨a,vdm r.F (omI xs i) a⟩:Mat) (omI (ix [] P i) i)) rfl rfl vt65 rfl rfl rfl rfl ((A_z A_j)) (by omega) (by omega) (by decide) (fun b69_12 c69_12=>?_)
  refine A_A rfl (A_B runUnderlying107 rfl sizeOf65 (by decide) rfl) ?_
  refine ent_storeB (k:=2) sizeOf65 rfl rfl rfl (one_ex rfl) rfl ?_
  refine enk K8 ?_
  refine A_H ?_
  refine A_A rfl (A_n rfl rfl (by omega) (by omega)) ?_
  refine emm rfl ?_
  refine A_O ?_
  refine ent_drop 0 ?_
  refine A_U (s:=(i,rr4,cc4)) (i+1,(some b69_12),c69_12) ⟨(by omega),‹_›⟩ (by dsimp only;omega) (A_J ⟨rfl,rfl,rfl,rfl,rfl,rfl,rfl,trivial⟩ (A_F (A_s (show (midS r.F a xs P).take (i+1).toNat=((midS r.F a xs P).take i.toNat)++[solV r.F (⟨a,vdm r.F (omI xs i) a⟩:Mat) (omI (ix [] P i) i)] by rw [take_succ_ix [] (midS r.F a xs P) h0 (by omega)];congr 2;exact ix_mapR [] _ h0 h22)) (A_F (own_box (av_cons rfl (av_cons (av_vec (congrArg List.length (show (midS r.F a xs P).take (i+1).toNat=((midS r.F a xs P).take i.toNat)++[solV r.F (⟨a,vdm r.F (omI xs i) a⟩:Mat) (omI (ix [] P i) i)] by rw [take_succ_ix [] (midS r.F a xs P) h0 (by omega)];congr 2;exact ix_mapR [] _ h0 h22))) (rfl)))) (rfl))))
 have htm:(midS r.F a xs P).take i.toNat=midS r.F a xs P:=List.take_of_length_le (by omega)
 refine A_e ?_
 refine A_0 K4 ?_
 refine A_C fun _ K20=>?_
 rw [htm]
 refine ent_giveC 1 0 1 rfl rfl rfl (by decide) rfl ?_
 refine A_w 13 mixed (by kernel_rfl) (by kernel_rfl) (by kernel_rfl) ?_
 refine dw_o rfl (A_D rfl) ?_
 refine dw_o rfl (A_D rfl) ?_
 refine dw_o rfl (A_D rfl) ?_
 refine dw_o rfl (A_B runUnderlying107 rfl sizeOf65 (by decide) rfl) ?_
 refine dw_o rfl (A_I (k:=1) isAgg65 rfl rfl rfl) ?_
 refine dw_o rfl (A_D rfl) ?_
 refine dw_o rfl (ok_sliceTo sl65 rfl rfl (by omega) (by omega)) ?_
 refine dw_o rfl (ok_build st107 (As:=[aInt 0,aEx (.slice none 0 0)]) z107 (⟨0,1,rfl,.inl ⟨rfl,_,rfl,(A_N _),rfl,⟨1,1,rfl,.inl ⟨rfl,_,rfl,A_j,rfl,rfl⟩⟩⟩⟩)) ?_
 refine dw_o rfl (ok_callA (slvInv_ok r xs cs (⟨a,(vdm r.F xs a).take a.toNat⟩:Mat)) ⟨A_u rfl (A_x A_h),A_u rfl (cv_agg ⟨A_Z rfl,cv_sl A_h rfl,trivial⟩),trivial⟩) ?_
 refine dw_o rfl (A_R (k:=0) ti107 rfl rfl rfl) ?_
 refine dw_o rfl (ok_frAgg (Cs:=[aInt ((⟨a,midS r.F a xs P⟩:Mat).cols),aVec 29 1 false aInts ((mulV r.F (invM r.F ⟨a,(vdm r.F xs a).take a.toNat⟩) (⟨a,midS r.F a xs P⟩:Mat)).rows)]) (Bs:=[aInt ((⟨a,midS r.F a xs P⟩:Mat).cols),aFr w.heap.size (aVec 29 1 false aInts ((mulV r.F (invM r.F ⟨a,(vdm r.F xs a).take a.toNat⟩) (⟨a,midS r.F a xs P⟩:Mat)).rows))]) (by exact ok_callFr [] (slvMulF_ok r xs cs (invM r.F ⟨a,(vdm r.F xs a).take a.toNat⟩) (⟨a,midS r.F a xs P⟩:Mat) (by rw [<- vdm_take];exact hmO.1)) ⟨A_u rfl (A_x (A_l _)),A_u rfl (cv_eq (A_l _) rfl),A_u rfl (cv_agg ⟨A_Z rfl,cv_sl (A_l _) rfl,trivial⟩),trivial⟩) ⟨fun _ _ _ q=>q,fun _ _ _ q=>q,trivial⟩) ?_
 refine dw_o rfl (ok_field1 runUnderlying107 rfl isAgg65 rfl rfl) ?_
 refine dw_o rfl (ok_assign rfl) ?_
 refine dw_nil ?_
 refine enk K20 ?_
 refine A_Q ?_
 exact retR1 (.inr rfl) results113 (A_L (A_S rfl (cvF_fr (congrArg (aVec 29 1 false aInts) (by unfold midV;rw [vdm_take])))))
end Go.Proofs.Ytaipghchkamajaa

