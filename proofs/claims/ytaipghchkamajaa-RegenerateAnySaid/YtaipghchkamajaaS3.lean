/-
  Walks of functions of the program and the reference.
-/
import Derived.Test.YtaipghchkamajaaS2
open Go Go.Cw
namespace Go.Proofs.Ytaipghchkamajaa
open Try
set_option maxRecDepth 100000
set_option linter.unusedVariables false
set_option linter.unusedSimpArgs false

noncomputable abbrev aSlv (r:Rgn) (xs:List Int) (cs:List (List Int)):AV:=aAt 10 true (aAgg [aInt r.F.P,aInt r.F.M,aInts r.F.mod,aInt r.Kind,aInt r.K,aInt r.D,aInts r.Points,aGF r.F,aInts xs,aRows cs])

theorem part_ok (xs:List (List Int)) (a b:Int) (a0:0<=a) (ab:a<=b) (b1:b<=1000) (hx:∀i:Int,0<=i->i<xs.length->b<=(ix [] xs i).length) (hm:xs.length<=1000):Ctr Try.prog 108 [aSl 1 false aInts xs,aInt a,aInt b] (aMat (⟨b-a,prtL xs a b⟩:Mat)):=by
 refine ctr_of Try.call108 func108 rfl rfl ?_
 intro w O
 refine ent_len 0 rfl (fun hlen0=>?_)
 refine esr rfl fun _ K1=>?_
 refine ent_alloc (z:=.agg #[.int .i64 0,.slice none 0 0]) [aInt 0,aEx (.slice none 0 0)] rfl zv107 rfl zc107 (fun b6_1=>?_)
 refine enk K1 ?_
 refine esr rfl fun _ K2=>?_
 refine A_A rfl (ok_sub rfl rfl (by omega) (by omega)) ?_
 refine A_A rfl (ok_build st107 (As:=[aInt 0,aEx (.slice none 0 0)]) z107 (⟨0,1,rfl,.inl ⟨rfl,_,rfl,(A_N _),rfl,rfl⟩⟩)) ?_
 refine ent_alloc (z:=.agg #[.int .i64 0,.slice none 0 0]) [aInt 0,aEx (.slice none 0 0)] rfl zv107 rfl zc107 (fun b7_2=>?_)
 refine A_t (k:=0) sizeOf107 rfl rfl rfl (AllOne.mem ⟨(A_N _),(one_ex rfl),trivial⟩) rfl rfl ?_
 show Ent _ ⟨_,[_,_]⟩ _
 refine enk K2 ?_
 refine A_C fun _ K3=>?_
 refine esr rfl fun _ K4=>?_
 refine A_A rfl (ok_len rfl runUnderlying65 rfl) ?_
 refine emm rfl ?_
 refine enk K4 ?_
 refine A_K ?_
 refine ent_open 29 1 false aInts (fun _=>rfl) ?_
 refine A_d (fun (ss:Int×Option Nat×Nat)=>match ss with | (i,rr4,cc4)=>(⟨[(1,aInt a),(2,aInt b),(6,aEx (.pointer (some ⟨b6_1,0,none⟩))),(7,aEx (.pointer (some ⟨b7_2,0,none⟩))),(14,aSl 1 false aInts xs),(15,aInt (↑xs.length:Int)),(16,aInt i)],[oVec rr4 cc4 29 1 false aInts (mapT (fun row:List Int=>(row.drop a.toNat).take (b-a).toNat) xs i),oBox b7_2 107 [aInt (b-a),aEx (vec rr4 ((mapT (fun row:List Int=>(row.drop a.toNat).take (b-a).toNat) xs i).length) cc4)],oBox b6_1 107 [aInt 0,aEx (.slice none 0 0)]]⟩:St)) (fun (ss:Int×Option Nat×Nat)=>match ss with | (i,rr4,cc4)=>(0<=i)/\(i<=xs.length)) (fun (ss:Int×Option Nat×Nat)=>match ss with | (i,rr4,cc4)=>(xs.length-i).toNat) (0,none,0) ⟨(by omega),(by omega)⟩ (A_J ⟨rfl,rfl,rfl,rfl,rfl,rfl,A_V (A_p (show 0=(0:Int) by rfl)),trivial⟩ (A_F (A_s (show mapT (fun row:List Int=>(row.drop a.toNat).take (b-a).toNat) xs (0:Int) = [] by rfl)) (A_F (own_box (av_cons rfl (av_cons (rfl) (rfl)))) (rfl)))) ?_
 rintro ⟨i,rr4,cc4⟩ ⟨k0,k1⟩
 show Ent _ ⟨_,[_,_,_]⟩ _
 have lf:=length_mapT (fun row:List Int=>(row.drop a.toNat).take (b-a).toNat) xs (i:=i) (by omega)
 refine esr rfl fun _ K5=>?_
 refine A_A rfl (A_r rfl rfl) ?_
 refine enk K5 ?_
 refine A_C fun _ K6=>?_
 refine A_G rfl (fun h17=>?_) (fun h17=>?_)
 ·have hri:=hx i k0 h17
  refine esp K6 ?_
  refine A_C fun _ K7=>?_
  refine A_K ?_
  refine esr rfl fun _ K8=>?_
  refine A_A rfl (A_a [] sl65 rfl rfl (by omega) (by omega)) ?_
  refine A_A rfl (A_P ti29 rfl) ?_
  refine emm rfl ?_
  refine enk K8 ?_
  refine A_w 8 mixed (by kernel_rfl) (by kernel_rfl) (by kernel_rfl) ?_
  refine dw_o rfl (A_B runUnderlying107 rfl sizeOf65 (by decide) rfl) ?_
  refine dw_o rfl (A_I (k:=1) isAgg65 rfl rfl rfl) ?_
  refine dw_o rfl (A_D rfl) ?_
  refine dw_o rfl (A_D rfl) ?_
  refine dw_o rfl (A_D rfl) ?_
  refine dw_o rfl (A_D rfl) ?_
  refine dw_o rfl (ok_slice3 sl29 rfl rfl rfl rfl (by omega) (by omega) (by omega)) ?_
  refine dw_o rfl (ok_build1 (enc:=aInts) (y:=(List.take (b).toNat (ix [] xs i)).drop (a).toNat) vt65 rfl (A_z A_j) (by decide)) ?_
  refine dw_nil ?_
  refine ent_appendS (k:=0) rfl vt65 rfl rfl rfl rfl (A_x A_h) (by simp only [List.length_append,List.length_cons,List.length_nil];omega) (by simp only [List.length_append,List.length_cons,List.length_nil];omega) (fun r28_4 cr28_4=>?_)
  refine A_A rfl (A_B runUnderlying107 rfl sizeOf65 (by decide) rfl) ?_
  refine ent_storeB (k:=1) sizeOf65 rfl rfl rfl (one_ex rfl) rfl ?_
  refine enk K7 ?_
  refine A_H ?_
  refine A_A rfl (A_n rfl rfl (by omega) (by omega)) ?_
  refine emm rfl ?_
  refine A_O ?_
  refine A_U (s:=(i,rr4,cc4)) (i+1,r28_4,cr28_4) ⟨(by omega),‹_›⟩ (by dsimp only;omega) (A_J ⟨rfl,rfl,rfl,rfl,rfl,rfl,rfl,trivial⟩ (A_F (A_s (show mapT (fun row:List Int=>(row.drop a.toNat).take (b-a).toNat) xs (i+1)=(mapT (fun row:List Int=>(row.drop a.toNat).take (b-a).toNat) xs i)++[(List.take (b).toNat (ix [] xs i)).drop (a).toNat] by rw [mapT_succ [] _ xs k0 h17,List.drop_take,show b.toNat-a.toNat=(b-a).toNat by omega])) (A_F (own_box (av_cons rfl (av_cons (av_vec (congrArg List.length (show mapT (fun row:List Int=>(row.drop a.toNat).take (b-a).toNat) xs (i+1)=(mapT (fun row:List Int=>(row.drop a.toNat).take (b-a).toNat) xs i)++[(List.take (b).toNat (ix [] xs i)).drop (a).toNat] by rw [mapT_succ [] _ xs k0 h17,List.drop_take,show b.toNat-a.toNat=(b-a).toNat by omega]))) (rfl)))) (rfl))))
 refine A_e ?_
 refine A_0 K3 ?_
 refine esr rfl fun _ K9=>?_
 refine A_A rfl (A_R (k:=1) ti107 rfl rfl rfl) ?_
 refine A_t (k:=2) sizeOf107 rfl rfl rfl (AllOne.mem ⟨(A_N _),(one_ex rfl),trivial⟩) rfl rfl ?_
 show Ent _ ⟨_,[_,_,_]⟩ _
 refine enk K9 ?_
 refine A_Q ?_
 exact retR1 (.inr rfl) results108 (resr_cell (k:=2) ti107 rfl rfl rfl (cv_agg ⟨A_Z rfl,cv_vec (k:=0) (off_x rfl) rfl (by rw [mapT_all _ _ (by omega)];rfl),trivial⟩))

theorem slvFlip_ok (r:Rgn) (xs:List Int) (cs:List (List Int)) (m:Mat)  : Ctr Try.prog 110 [aSlv r xs cs,aMat m] (aMat (turM r.F m)):=by
 refine ctr_of Try.call110 func110 rfl rfl ?_
 intro w O
 refine A_q 0 2 rfl rfl (fun hlen0_2=>?_)
 refine A_q 0 6 rfl rfl (fun hlen0_6=>?_)
 refine A_q 0 8 rfl rfl (fun hlen0_8=>?_)
 refine A_q 0 9 rfl rfl (fun hlen0_9=>?_)
 refine A_o 1 1 rfl rfl (fun hlen1_1=>?_)
 refine esr rfl fun _ K1=>?_
 refine A_y rfl rfl (AllOne.mem ⟨(A_N _),A_j,trivial⟩) (fun b3_1=>?_)
 refine ent_alloc (z:=.agg #[.int .i64 0,.slice none 0 0]) [aInt 0,aEx (.slice none 0 0)] rfl zv107 rfl zc107 (fun b4_2=>?_)
 refine enk K1 ?_
 refine A_C fun _ K2=>?_
 refine ent_drawB2 (T:=107) (z:=.agg #[.int .i64 0,.slice none 0 0]) (As:=[aInt 0,aEx (.slice none 0 0)]) 11 [9] 10 5 [(8,aSlv r xs cs),(9,aSlv r xs cs),(10,aAt 7 true (aAgg [aInt r.F.P,aInt r.F.M,aSl 1 false aInt r.F.mod,aInt r.Kind,aInt r.K,aInt r.D,aSl 1 false aInt r.Points])),(11,aAt 3 true (aAgg [aInt r.F.P,aInt r.F.M,aSl 1 false aInt r.F.mod])),(12,aAgg [aInt r.F.P,aInt r.F.M,aSl 1 false aInt r.F.mod]),(13,aAgg [aInt m.cols,aSl 1 false aInts m.rows]),(14,aTup [aMat (turM r.F m),aInt (mErr r.F m)]),(7,aTup [aMat (turM r.F m),aInt (mErr r.F m)]),(15,aMat (turM r.F m)),(16,aInt (mErr r.F m)),(5,aBoxF w.heap.size 107 [aInt 0,aEx (.slice none 0 0)])] mixed (by kernel_rfl) (by kernel_rfl) (by kernel_rfl) (by kernel_rfl) (by kernel_rfl) (fun _ _ _ _ _ h=>h) rfl (by kernel_rfl) (by kernel_rfl) (fun _=>by kernel_rfl) (fun _=>by kernel_rfl) (fun _=>by kernel_rfl) zv107 rfl zc107 (by kernel_rfl) ?_ (fun bb_3=>?_)
 ·refine A_c rfl rfl (OpOK.eqv (A_D rfl) rfl) ?_
  refine A_c rfl rfl (OpOK.eqv (A_b rfl) rfl) ?_
  refine A_c rfl rfl (OpOK.eqv (A_k runUnderlying118 rfl sizeOf53 (by decide) (Nat.le_of_ble_eq_true rfl) rfl) rfl) ?_
  refine A_c rfl rfl (OpOK.eqv (A_k runUnderlying53 rfl sizeOf51 (by decide) (Nat.le_of_ble_eq_true rfl) rfl) rfl) ?_
  refine A_c rfl rfl (OpOK.eqv (A_P ti51 rfl) rfl) ?_
  refine A_c rfl rfl (OpOK.eqv (A_R (k:=1) ti107 rfl rfl rfl) rfl) ?_
  refine A_c rfl rfl (OpOK.eqv (A_W (mTranspose_ok r.F m) rfl) rfl) ?_
  refine A_c rfl rfl (OpOK.eqv (A_D rfl) rfl) ?_
  refine A_c rfl rfl (OpOK.eqv (A_T rfl rfl) rfl) ?_
  refine A_c rfl rfl (OpOK.eqv (A_T rfl rfl) rfl) ?_
  refine A_c rfl rfl (OpOK.eqv (ok_allocF (z:=.agg #[.int .i64 0,.slice none 0 0]) [aInt 0,aEx (.slice none 0 0)] zv107 rfl zc107) rfl) ?_
  exact dwl_nil trivial
 refine A_c rfl rfl (OpOK.eqv (A_D rfl) rfl) ?_
 refine A_c rfl rfl (OpOK.eqv (A_b rfl) rfl) ?_
 refine A_c rfl rfl (OpOK.eqv (A_k runUnderlying118 rfl sizeOf53 (by decide) (Nat.le_of_ble_eq_true rfl) rfl) rfl) ?_
 refine A_c rfl rfl (OpOK.eqv (A_k runUnderlying53 rfl sizeOf51 (by decide) (Nat.le_of_ble_eq_true rfl) rfl) rfl) ?_
 refine A_c rfl rfl (OpOK.eqv (A_P ti51 rfl) rfl) ?_
 refine A_c rfl rfl (OpOK.eqv (A_R (k:=2) ti107 rfl rfl rfl) rfl) ?_
 refine A_c rfl rfl (OpOK.eqv (A_W (mTranspose_ok r.F m) rfl) rfl) ?_
 refine A_c rfl rfl (OpOK.eqv (A_D rfl) rfl) ?_
 refine A_c rfl rfl (OpOK.eqv (A_T rfl rfl) rfl) ?_
 refine A_c rfl rfl (OpOK.eqv (A_T rfl rfl) rfl) ?_
 refine A_c rfl rfl (A_D rfl) ?_
 refine dwl_nil ?_
 refine A_t (k:=0) sizeOf107 rfl rfl rfl (AllOne.mem ⟨(A_N _),A_j,trivial⟩) rfl rfl ?_
 show Ent _ ⟨_,[_,_,_]⟩ _
 refine emm rfl ?_
 refine enk K2 ?_
 refine esr rfl fun _ K3=>?_
 refine A_A rfl (A_R (k:=0) ti107 rfl rfl rfl) ?_
 refine A_t (k:=1) sizeOf107 rfl rfl rfl (AllOne.mem ⟨(A_N _),A_j,trivial⟩) rfl rfl ?_
 show Ent _ ⟨_,[_,_,_]⟩ _
 refine enk K3 ?_
 refine A_Q ?_
 exact retR1 (.inr rfl) results110 (resr_cell (k:=1) ti107 rfl rfl rfl (cv_agg ⟨A_Z rfl,cv_sl sub_x rfl,trivial⟩))

theorem slvInv_ok (r:Rgn) (xs:List Int) (cs:List (List Int)) (m:Mat)  : Ctr Try.prog 107 [aSlv r xs cs,aMat m] (aMat (invM r.F m)):=by
 refine ctr_of Try.call107 func107 rfl rfl ?_
 intro w O
 refine A_q 0 2 rfl rfl (fun hlen0_2=>?_)
 refine A_q 0 6 rfl rfl (fun hlen0_6=>?_)
 refine A_q 0 8 rfl rfl (fun hlen0_8=>?_)
 refine A_q 0 9 rfl rfl (fun hlen0_9=>?_)
 refine A_o 1 1 rfl rfl (fun hlen1_1=>?_)
 refine esr rfl fun _ K1=>?_
 refine A_y rfl rfl (AllOne.mem ⟨(A_N _),A_j,trivial⟩) (fun b3_1=>?_)
 refine ent_alloc (z:=.agg #[.int .i64 0,.slice none 0 0]) [aInt 0,aEx (.slice none 0 0)] rfl zv107 rfl zc107 (fun b4_2=>?_)
 refine enk K1 ?_
 refine A_C fun _ K2=>?_
 refine ent_drawB2 (T:=107) (z:=.agg #[.int .i64 0,.slice none 0 0]) (As:=[aInt 0,aEx (.slice none 0 0)]) 11 [9] 10 5 [(8,aSlv r xs cs),(9,aSlv r xs cs),(10,aAt 7 true (aAgg [aInt r.F.P,aInt r.F.M,aSl 1 false aInt r.F.mod,aInt r.Kind,aInt r.K,aInt r.D,aSl 1 false aInt r.Points])),(11,aAt 3 true (aAgg [aInt r.F.P,aInt r.F.M,aSl 1 false aInt r.F.mod])),(12,aAgg [aInt r.F.P,aInt r.F.M,aSl 1 false aInt r.F.mod]),(13,aAgg [aInt m.cols,aSl 1 false aInts m.rows]),(14,aTup [aMat (invM r.F m),aInt (invE r.F m)]),(7,aTup [aMat (invM r.F m),aInt (invE r.F m)]),(15,aMat (invM r.F m)),(16,aInt (invE r.F m)),(5,aBoxF w.heap.size 107 [aInt 0,aEx (.slice none 0 0)])] mixed (by kernel_rfl) (by kernel_rfl) (by kernel_rfl) (by kernel_rfl) (by kernel_rfl) (fun _ _ _ _ _ h=>h) rfl (by kernel_rfl) (by kernel_rfl) (fun _=>by kernel_rfl) (fun _=>by kernel_rfl) (fun _=>by kernel_rfl) zv107 rfl zc107 (by kernel_rfl) ?_ (fun bb_3=>?_)
 ·refine A_c rfl rfl (OpOK.eqv (A_D rfl) rfl) ?_
  refine A_c rfl rfl (OpOK.eqv (A_b rfl) rfl) ?_
  refine A_c rfl rfl (OpOK.eqv (A_k runUnderlying118 rfl sizeOf53 (by decide) (Nat.le_of_ble_eq_true rfl) rfl) rfl) ?_
  refine A_c rfl rfl (OpOK.eqv (A_k runUnderlying53 rfl sizeOf51 (by decide) (Nat.le_of_ble_eq_true rfl) rfl) rfl) ?_
  refine A_c rfl rfl (OpOK.eqv (A_P ti51 rfl) rfl) ?_
  refine A_c rfl rfl (OpOK.eqv (A_R (k:=1) ti107 rfl rfl rfl) rfl) ?_
  refine A_c rfl rfl (OpOK.eqv (A_W (mInverse_ok r.F m) rfl) rfl) ?_
  refine A_c rfl rfl (OpOK.eqv (A_D rfl) rfl) ?_
  refine A_c rfl rfl (OpOK.eqv (A_T rfl rfl) rfl) ?_
  refine A_c rfl rfl (OpOK.eqv (A_T rfl rfl) rfl) ?_
  refine A_c rfl rfl (OpOK.eqv (ok_allocF (z:=.agg #[.int .i64 0,.slice none 0 0]) [aInt 0,aEx (.slice none 0 0)] zv107 rfl zc107) rfl) ?_
  exact dwl_nil trivial
 refine A_c rfl rfl (OpOK.eqv (A_D rfl) rfl) ?_
 refine A_c rfl rfl (OpOK.eqv (A_b rfl) rfl) ?_
 refine A_c rfl rfl (OpOK.eqv (A_k runUnderlying118 rfl sizeOf53 (by decide) (Nat.le_of_ble_eq_true rfl) rfl) rfl) ?_
 refine A_c rfl rfl (OpOK.eqv (A_k runUnderlying53 rfl sizeOf51 (by decide) (Nat.le_of_ble_eq_true rfl) rfl) rfl) ?_
 refine A_c rfl rfl (OpOK.eqv (A_P ti51 rfl) rfl) ?_
 refine A_c rfl rfl (OpOK.eqv (A_R (k:=2) ti107 rfl rfl rfl) rfl) ?_
 refine A_c rfl rfl (OpOK.eqv (A_W (mInverse_ok r.F m) rfl) rfl) ?_
 refine A_c rfl rfl (OpOK.eqv (A_D rfl) rfl) ?_
 refine A_c rfl rfl (OpOK.eqv (A_T rfl rfl) rfl) ?_
 refine A_c rfl rfl (OpOK.eqv (A_T rfl rfl) rfl) ?_
 refine A_c rfl rfl (A_D rfl) ?_
 refine dwl_nil ?_
 refine A_t (k:=0) sizeOf107 rfl rfl rfl (AllOne.mem ⟨(A_N _),A_j,trivial⟩) rfl rfl ?_
 show Ent _ ⟨_,[_,_,_]⟩ _
 refine emm rfl ?_
 refine enk K2 ?_
 refine esr rfl fun _ K3=>?_
 refine A_A rfl (A_R (k:=0) ti107 rfl rfl rfl) ?_
 refine A_t (k:=1) sizeOf107 rfl rfl rfl (AllOne.mem ⟨(A_N _),A_j,trivial⟩) rfl rfl ?_
 show Ent _ ⟨_,[_,_,_]⟩ _
 refine enk K3 ?_
 refine A_Q ?_
 exact retR1 (.inr rfl) results107 (resr_cell (k:=1) ti107 rfl rfl rfl (cv_agg ⟨A_Z rfl,cv_sl sub_x rfl,trivial⟩))

theorem slvMul_ok (r:Rgn) (xs:List Int) (cs:List (List Int)) (a b:Mat) (hE:mulE r.F a b=0):Ctr Try.prog 109 [aSlv r xs cs,aMat a,aMat b] (aMat (mulV r.F a b)):=by
 refine ctr_of Try.call109 func109 rfl rfl ?_
 intro w O
 refine A_q 0 2 rfl rfl (fun hlen0_2=>?_)
 refine A_q 0 6 rfl rfl (fun hlen0_6=>?_)
 refine A_q 0 8 rfl rfl (fun hlen0_8=>?_)
 refine A_q 0 9 rfl rfl (fun hlen0_9=>?_)
 refine A_o 1 1 rfl rfl (fun hlen1_1=>?_)
 refine A_o 2 1 rfl rfl (fun hlen2_1=>?_)
 refine esr rfl fun _ K1=>?_
 refine A_y rfl rfl (AllOne.mem ⟨(A_N _),A_j,trivial⟩) (fun b4_1=>?_)
 refine A_y rfl rfl (AllOne.mem ⟨(A_N _),A_j,trivial⟩) (fun b5_2=>?_)
 refine ent_alloc (z:=.agg #[.int .i64 0,.slice none 0 0]) [aInt 0,aEx (.slice none 0 0)] rfl zv107 rfl zc107 (fun b6_3=>?_)
 refine enk K1 ?_
 refine A_C fun _ K2=>?_
 refine ent_drawB2 (T:=107) (z:=.agg #[.int .i64 0,.slice none 0 0]) (As:=[aInt 0,aEx (.slice none 0 0)]) 12 [10] 11 7 [(10,aSlv r xs cs),(11,aSlv r xs cs),(12,aAt 7 true (aAgg [aInt r.F.P,aInt r.F.M,aSl 1 false aInt r.F.mod,aInt r.Kind,aInt r.K,aInt r.D,aSl 1 false aInt r.Points])),(13,aAt 3 true (aAgg [aInt r.F.P,aInt r.F.M,aSl 1 false aInt r.F.mod])),(14,aAgg [aInt r.F.P,aInt r.F.M,aSl 1 false aInt r.F.mod]),(15,aAgg [aInt a.cols,aSl 1 false aInts a.rows]),(16,aAgg [aInt b.cols,aSl 1 false aInts b.rows]),(17,aTup [aMat (mulM r.F a b),aInt 0]),(9,aTup [aMat (mulM r.F a b),aInt 0]),(18,aMat (mulM r.F a b)),(19,aInt 0),(7,aBoxF w.heap.size 107 [aInt 0,aEx (.slice none 0 0)])] mixed (by kernel_rfl) (by kernel_rfl) (by kernel_rfl) (by kernel_rfl) (by kernel_rfl) (fun _ _ _ _ _ h=>h) rfl (by kernel_rfl) (by kernel_rfl) (fun _=>by kernel_rfl) (fun _=>by kernel_rfl) (fun _=>by kernel_rfl) zv107 rfl zc107 (by kernel_rfl) ?_ (fun bb_4=>?_)
 ·refine A_c rfl rfl (OpOK.eqv (A_D rfl) rfl) ?_
  refine A_c rfl rfl (OpOK.eqv (A_b rfl) rfl) ?_
  refine A_c rfl rfl (OpOK.eqv (A_k runUnderlying118 rfl sizeOf53 (by decide) (Nat.le_of_ble_eq_true rfl) rfl) rfl) ?_
  refine A_c rfl rfl (OpOK.eqv (A_k runUnderlying53 rfl sizeOf51 (by decide) (Nat.le_of_ble_eq_true rfl) rfl) rfl) ?_
  refine A_c rfl rfl (OpOK.eqv (A_P ti51 rfl) rfl) ?_
  refine A_c rfl rfl (OpOK.eqv (A_R (k:=2) ti107 rfl rfl rfl) rfl) ?_
  refine A_c rfl rfl (OpOK.eqv (A_R (k:=1) ti107 rfl rfl rfl) rfl) ?_
  refine A_c rfl rfl (OpOK.eqv (A_W (mMul_ok r.F a b (A_f.1 (mulE_zero hE).1).1 (A_f.1 (mulE_zero hE).1).2 (A_f.1 (mulE_zero hE).2.1).2 (mulE_zero hE).2.2) rfl) rfl) ?_
  refine A_c rfl rfl (OpOK.eqv (A_D rfl) rfl) ?_
  refine A_c rfl rfl (OpOK.eqv (A_T rfl rfl) rfl) ?_
  refine A_c rfl rfl (OpOK.eqv (A_T rfl rfl) rfl) ?_
  refine A_c rfl rfl (OpOK.eqv (ok_allocF (z:=.agg #[.int .i64 0,.slice none 0 0]) [aInt 0,aEx (.slice none 0 0)] zv107 rfl zc107) rfl) ?_
  exact dwl_nil trivial
 refine A_c rfl rfl (OpOK.eqv (A_D rfl) rfl) ?_
 refine A_c rfl rfl (OpOK.eqv (A_b rfl) rfl) ?_
 refine A_c rfl rfl (OpOK.eqv (A_k runUnderlying118 rfl sizeOf53 (by decide) (Nat.le_of_ble_eq_true rfl) rfl) rfl) ?_
 refine A_c rfl rfl (OpOK.eqv (A_k runUnderlying53 rfl sizeOf51 (by decide) (Nat.le_of_ble_eq_true rfl) rfl) rfl) ?_
 refine A_c rfl rfl (OpOK.eqv (A_P ti51 rfl) rfl) ?_
 refine A_c rfl rfl (OpOK.eqv (A_R (k:=3) ti107 rfl rfl rfl) rfl) ?_
 refine A_c rfl rfl (OpOK.eqv (A_R (k:=2) ti107 rfl rfl rfl) rfl) ?_
 refine A_c rfl rfl (OpOK.eqv (A_W (mMul_ok r.F a b (A_f.1 (mulE_zero hE).1).1 (A_f.1 (mulE_zero hE).1).2 (A_f.1 (mulE_zero hE).2.1).2 (mulE_zero hE).2.2) rfl) rfl) ?_
 refine A_c rfl rfl (OpOK.eqv (A_D rfl) rfl) ?_
 refine A_c rfl rfl (OpOK.eqv (A_T rfl rfl) rfl) ?_
 refine A_c rfl rfl (OpOK.eqv (A_T rfl rfl) rfl) ?_
 refine A_c rfl rfl (A_D rfl) ?_
 refine dwl_nil ?_
 refine A_t (k:=0) sizeOf107 rfl rfl rfl (AllOne.mem ⟨(A_N _),A_j,trivial⟩) rfl rfl ?_
 show Ent _ ⟨_,[_,_,_,_]⟩ _
 refine emm rfl ?_
 refine enk K2 ?_
 refine esr rfl fun _ K3=>?_
 refine A_A rfl (A_R (k:=0) ti107 rfl rfl rfl) ?_
 refine A_t (k:=1) sizeOf107 rfl rfl rfl (AllOne.mem ⟨(A_N _),A_j,trivial⟩) rfl rfl ?_
 show Ent _ ⟨_,[_,_,_,_]⟩ _
 refine enk K3 ?_
 refine A_Q ?_
 exact retR1 (.inr rfl) results109 (resr_cell (k:=1) ti107 rfl rfl rfl (cv_agg ⟨A_Z (by rw [mulV_ok hE]),cv_sl sub_x (by rw [mulV_ok hE]),trivial⟩))
end Go.Proofs.Ytaipghchkamajaa

