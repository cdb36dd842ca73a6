/-
  Walks.
-/
import Derived.Test.YtaipghchkamajaaS2
open Go Go.Cw
namespace Go.Proofs.Ytaipghchkamajaa
open Try
set_option maxRecDepth 100000
set_option linter.unusedVariables false
set_option linter.unusedSimpArgs false

noncomputable abbrev aSlv (r:Rgn) (xs:List Int) (cs:List (List Int)):AV:=aAt 10 true (aAgg [aInt r.F.P,aInt r.F.M,aInts r.F.mod,aInt r.Kind,aInt r.K,aInt r.D,aInts r.Points,aGF r.F,aInts xs,aRows cs])

theorem G_E (xs:List (List Int)) (a b:Int) (a0:0<=a) (ab:a<=b) (b1:b<=1000) (hx:∀i:Int,0<=i->i<xs.length->b<=(ix [] xs i).length) (hm:xs.length<=1000:=by omega):Ctr Try.prog 108 [aSl 1 false aInts xs,aInt a,aInt b] (aMat (⟨b-a,prtL xs a b⟩:Mat)):=by
 refine B_E Try.call108 func108 rfl rfl ?_
 intro w O
 refine B_D 0 rfl fun hlen0=>esr rfl fun _ K1=>B_V (z:=.agg #[.int .i64 0,.slice none 0 0]) [aInt 0,aEx (.slice none 0 0)] rfl zv107 rfl zc107 fun b6_1=>enk K1 <|esr rfl fun _ K2=>A_A rfl (B_L rfl rfl) <|A_A rfl (B_y st107 (As:=[aInt 0,aEx (.slice none 0 0)]) z107 (⟨0,1,rfl,.inl ⟨rfl,_,rfl,(A_N _),rfl,rfl⟩⟩)) <|B_V (z:=.agg #[.int .i64 0,.slice none 0 0]) [aInt 0,aEx (.slice none 0 0)] rfl zv107 rfl zc107 fun b7_2=>A_2 (k:=0) sizeOf107 rfl rfl rfl (AllOne.mem ⟨(A_N _),(B_b rfl),trivial⟩) rfl rfl ?_
 show Ent _ ⟨_,[_,_]⟩ _
 refine enk K2 <|A_C fun _ K3=>esr rfl fun _ K4=>A_A rfl (A_5 rfl runUnderlying65 rfl) <|emm rfl <|enk K4 <|A_I <|B_U 29 1 false aInts (fun _=>rfl) <|A_Y (fun (ss:Int×Option Nat×Nat)=>match ss with | (i,rr4,cc4)=>(⟨[(1,aInt a),(2,aInt b),(6,aEx (.pointer (some ⟨b6_1,0,none⟩))),(7,aEx (.pointer (some ⟨b7_2,0,none⟩))),(14,aSl 1 false aInts xs),(15,aInt (↑xs.length:Int)),(16,aInt i)],[oVec rr4 cc4 29 1 false aInts (mapT (fun row:List Int=>(row.drop a.toNat).take (b-a).toNat) xs i),oBox b7_2 107 [aInt (b-a),aEx (vec rr4 ((mapT (fun row:List Int=>(row.drop a.toNat).take (b-a).toNat) xs i).length) cc4)],oBox b6_1 107 [aInt 0,aEx (.slice none 0 0)]]⟩:St)) (fun (ss:Int×Option Nat×Nat)=>match ss with | (i,rr4,cc4)=>(0<=i)/\(i<=xs.length)) (fun (ss:Int×Option Nat×Nat)=>match ss with | (i,rr4,cc4)=>(xs.length-i).toNat) (0,none,0) ⟨(by omega),(by omega)⟩ (A_J ⟨rfl,rfl,rfl,rfl,rfl,rfl,A_Q (A_k (show 0=(0:Int) by rfl)),trivial⟩ (A_G (A_e (show mapT (fun row:List Int=>(row.drop a.toNat).take (b-a).toNat) xs (0:Int) = [] by rfl)) (A_G (C_Y (B_S rfl (B_S (rfl) (rfl)))) (rfl)))) ?_
 rintro ⟨i,rr4,cc4⟩ ⟨k0,k1⟩
 show Ent _ ⟨_,[_,_,_]⟩ _
 have lf:=D_n (fun row:List Int=>(row.drop a.toNat).take (b-a).toNat) xs (i:=i) (by omega)
 refine esr rfl fun _ K5=>A_A rfl (A_m rfl rfl) <|enk K5 <|A_C fun _ K6=>?_
 refine A_H rfl (fun h17=>?_) (fun h17=>?_)
 ·have hri:=hx i k0 h17
  refine esp K6 <|A_C fun _ K7=>A_I <|esr rfl fun _ K8=>A_A rfl (A_W [] sl65 rfl rfl) <|A_A rfl (A_P ti29 rfl) <|emm rfl <|enk K8 <|A_u 8 mixed (by kernel_rfl) (by kernel_rfl) (by kernel_rfl) <|dw_o rfl (A_B runUnderlying107 rfl sizeOf65 (by decide) rfl) <|dw_o rfl (A_K (k:=1) isAgg65 rfl rfl rfl) <|dw_o rfl (A_D rfl) <|dw_o rfl (A_D rfl) <|dw_o rfl (A_D rfl) <|dw_o rfl (A_D rfl) <|dw_o rfl (ok_slice3 sl29 rfl rfl rfl rfl (by omega) (by omega) (by omega)) <|dw_o rfl (C_Z (enc:=aInts) (y:=(List.take (b).toNat (ix [] xs i)).drop (a).toNat) vt65 rfl (A_n A_j)) <|A_9 <|B_P (k:=0) rfl vt65 rfl rfl rfl rfl (A_y A_h) (by simp only [l_A,List.length_cons,List.length_nil];omega) (by simp only [l_A,List.length_cons,List.length_nil];omega) fun r28_4 cr28_4=>A_A rfl (A_B runUnderlying107 rfl sizeOf65 (by decide) rfl) <|B_3 (k:=1) sizeOf65 rfl rfl rfl (B_b rfl) rfl <|enk K7 <|A_F <|A_A rfl (A_g rfl rfl) <|emm rfl <|A_O ?_
  refine A_T (s:=(i,rr4,cc4)) (i+1,r28_4,cr28_4) ⟨(by omega),‹_›⟩ (by dsimp only;omega) (A_J ⟨rfl,rfl,rfl,rfl,rfl,rfl,rfl,trivial⟩ (A_G (A_e (show mapT (fun row:List Int=>(row.drop a.toNat).take (b-a).toNat) xs (i+1)=(mapT (fun row:List Int=>(row.drop a.toNat).take (b-a).toNat) xs i)++[(List.take (b).toNat (ix [] xs i)).drop (a).toNat] by rw [C_q [] _ xs k0 h17,List.drop_take,show b.toNat-a.toNat=(b-a).toNat by omega])) (A_G (C_Y (B_S rfl (B_S (B_J (congrArg List.length (show mapT (fun row:List Int=>(row.drop a.toNat).take (b-a).toNat) xs (i+1)=(mapT (fun row:List Int=>(row.drop a.toNat).take (b-a).toNat) xs i)++[(List.take (b).toNat (ix [] xs i)).drop (a).toNat] by rw [C_q [] _ xs k0 h17,List.drop_take,show b.toNat-a.toNat=(b-a).toNat by omega]))) (rfl)))) (rfl))))
 refine A_Z <|A_1 K3 <|esr rfl fun _ K9=>A_A rfl (A_S (k:=1) ti107 rfl rfl rfl) <|A_2 (k:=2) sizeOf107 rfl rfl rfl (AllOne.mem ⟨(A_N _),(B_b rfl),trivial⟩) rfl rfl ?_
 show Ent _ ⟨_,[_,_,_]⟩ _
 refine enk K9 <|A_R ?_
 exact retR1 (.inr rfl) results108 (C_E (k:=2) ti107 rfl rfl rfl (B_9 ⟨A_b rfl,B_g (k:=0) (D_3 rfl) rfl (by rw [F_t _ _ (by omega)];rfl),trivial⟩))

theorem G_A (r:Rgn) (xs:List Int) (cs:List (List Int)) (m:Mat)  : Ctr Try.prog 110 [aSlv r xs cs,aMat m] (aMat (turM r.F m)):=by
 refine B_E Try.call110 func110 rfl rfl ?_
 intro w O
 refine A_0 0 2 rfl rfl fun hlen0_2=>A_0 0 6 rfl rfl fun hlen0_6=>A_0 0 8 rfl rfl fun hlen0_8=>A_0 0 9 rfl rfl fun hlen0_9=>A_l 1 1 rfl rfl fun hlen1_1=>esr rfl fun _ K1=>A_w rfl rfl (AllOne.mem ⟨(A_N _),A_j,trivial⟩) fun b3_1=>B_V (z:=.agg #[.int .i64 0,.slice none 0 0]) [aInt 0,aEx (.slice none 0 0)] rfl zv107 rfl zc107 fun b4_2=>enk K1 <|A_C fun _ K2=>?_
 refine C_m (T:=107) (z:=.agg #[.int .i64 0,.slice none 0 0]) (As:=[aInt 0,aEx (.slice none 0 0)]) 11 [9] 10 5 [(8,aSlv r xs cs),(9,aSlv r xs cs),(10,aAt 7 true (aAgg [aInt r.F.P,aInt r.F.M,aSl 1 false aInt r.F.mod,aInt r.Kind,aInt r.K,aInt r.D,aSl 1 false aInt r.Points])),(11,aAt 3 true (aAgg [aInt r.F.P,aInt r.F.M,aSl 1 false aInt r.F.mod])),(12,aAgg [aInt r.F.P,aInt r.F.M,aSl 1 false aInt r.F.mod]),(13,aAgg [aInt m.cols,aSl 1 false aInts m.rows]),(14,aTup [aMat (turM r.F m),aInt (mErr r.F m)]),(7,aTup [aMat (turM r.F m),aInt (mErr r.F m)]),(15,aMat (turM r.F m)),(16,aInt (mErr r.F m)),(5,aBoxF w.heap.size 107 [aInt 0,aEx (.slice none 0 0)])] mixed (by kernel_rfl) (by kernel_rfl) (by kernel_rfl) (by kernel_rfl) (by kernel_rfl) (fun _ _ _ _ _ h=>h) rfl (by kernel_rfl) (by kernel_rfl) (fun _=>by kernel_rfl) (fun _=>by kernel_rfl) (fun _=>by kernel_rfl) zv107 rfl zc107 (by kernel_rfl) ?_ (fun bb_3=>?_)
 ·refine A_c rfl rfl (OpOK.eqv (A_D rfl) rfl) <|A_c rfl rfl (OpOK.eqv (A_f rfl) rfl) <|A_c rfl rfl (OpOK.eqv (A_t runUnderlying118 rfl sizeOf53 (by decide) (b_L rfl) rfl) rfl) <|A_c rfl rfl (OpOK.eqv (A_t runUnderlying53 rfl sizeOf51 (by decide) (b_L rfl) rfl) rfl) <|A_c rfl rfl (OpOK.eqv (A_P ti51 rfl) rfl) <|A_c rfl rfl (OpOK.eqv (A_S (k:=1) ti107 rfl rfl rfl) rfl) <|A_c rfl rfl (OpOK.eqv (A_X (F_u r.F m) rfl) rfl) <|A_c rfl rfl (OpOK.eqv (A_D rfl) rfl) <|A_c rfl rfl (OpOK.eqv (A_V rfl rfl) rfl) <|A_c rfl rfl (OpOK.eqv (A_V rfl rfl) rfl) <|A_c rfl rfl (OpOK.eqv (C_a (z:=.agg #[.int .i64 0,.slice none 0 0]) [aInt 0,aEx (.slice none 0 0)] zv107 rfl zc107) rfl) ?_
  exact C_C trivial
 refine A_c rfl rfl (OpOK.eqv (A_D rfl) rfl) <|A_c rfl rfl (OpOK.eqv (A_f rfl) rfl) <|A_c rfl rfl (OpOK.eqv (A_t runUnderlying118 rfl sizeOf53 (by decide) (b_L rfl) rfl) rfl) <|A_c rfl rfl (OpOK.eqv (A_t runUnderlying53 rfl sizeOf51 (by decide) (b_L rfl) rfl) rfl) <|A_c rfl rfl (OpOK.eqv (A_P ti51 rfl) rfl) <|A_c rfl rfl (OpOK.eqv (A_S (k:=2) ti107 rfl rfl rfl) rfl) <|A_c rfl rfl (OpOK.eqv (A_X (F_u r.F m) rfl) rfl) <|A_c rfl rfl (OpOK.eqv (A_D rfl) rfl) <|A_c rfl rfl (OpOK.eqv (A_V rfl rfl) rfl) <|A_c rfl rfl (OpOK.eqv (A_V rfl rfl) rfl) <|A_c rfl rfl (A_D rfl) <|C_C <|A_2 (k:=0) sizeOf107 rfl rfl rfl (AllOne.mem ⟨(A_N _),A_j,trivial⟩) rfl rfl ?_
 show Ent _ ⟨_,[_,_,_]⟩ _
 refine emm rfl <|enk K2 <|esr rfl fun _ K3=>A_A rfl (A_S (k:=0) ti107 rfl rfl rfl) <|A_2 (k:=1) sizeOf107 rfl rfl rfl (AllOne.mem ⟨(A_N _),A_j,trivial⟩) rfl rfl ?_
 show Ent _ ⟨_,[_,_,_]⟩ _
 refine enk K3 <|A_R ?_
 exact retR1 (.inr rfl) results110 (C_E (k:=1) ti107 rfl rfl rfl (B_9 ⟨A_b rfl,C_r F_G rfl,trivial⟩))

theorem slvInv_ok (r:Rgn) (xs:List Int) (cs:List (List Int)) (m:Mat)  : Ctr Try.prog 107 [aSlv r xs cs,aMat m] (aMat (invM r.F m)):=by
 refine B_E Try.call107 func107 rfl rfl ?_
 intro w O
 refine A_0 0 2 rfl rfl fun hlen0_2=>A_0 0 6 rfl rfl fun hlen0_6=>A_0 0 8 rfl rfl fun hlen0_8=>A_0 0 9 rfl rfl fun hlen0_9=>A_l 1 1 rfl rfl fun hlen1_1=>esr rfl fun _ K1=>A_w rfl rfl (AllOne.mem ⟨(A_N _),A_j,trivial⟩) fun b3_1=>B_V (z:=.agg #[.int .i64 0,.slice none 0 0]) [aInt 0,aEx (.slice none 0 0)] rfl zv107 rfl zc107 fun b4_2=>enk K1 <|A_C fun _ K2=>?_
 refine C_m (T:=107) (z:=.agg #[.int .i64 0,.slice none 0 0]) (As:=[aInt 0,aEx (.slice none 0 0)]) 11 [9] 10 5 [(8,aSlv r xs cs),(9,aSlv r xs cs),(10,aAt 7 true (aAgg [aInt r.F.P,aInt r.F.M,aSl 1 false aInt r.F.mod,aInt r.Kind,aInt r.K,aInt r.D,aSl 1 false aInt r.Points])),(11,aAt 3 true (aAgg [aInt r.F.P,aInt r.F.M,aSl 1 false aInt r.F.mod])),(12,aAgg [aInt r.F.P,aInt r.F.M,aSl 1 false aInt r.F.mod]),(13,aAgg [aInt m.cols,aSl 1 false aInts m.rows]),(14,aTup [aMat (invM r.F m),aInt (invE r.F m)]),(7,aTup [aMat (invM r.F m),aInt (invE r.F m)]),(15,aMat (invM r.F m)),(16,aInt (invE r.F m)),(5,aBoxF w.heap.size 107 [aInt 0,aEx (.slice none 0 0)])] mixed (by kernel_rfl) (by kernel_rfl) (by kernel_rfl) (by kernel_rfl) (by kernel_rfl) (fun _ _ _ _ _ h=>h) rfl (by kernel_rfl) (by kernel_rfl) (fun _=>by kernel_rfl) (fun _=>by kernel_rfl) (fun _=>by kernel_rfl) zv107 rfl zc107 (by kernel_rfl) ?_ (fun bb_3=>?_)
 ·refine A_c rfl rfl (OpOK.eqv (A_D rfl) rfl) <|A_c rfl rfl (OpOK.eqv (A_f rfl) rfl) <|A_c rfl rfl (OpOK.eqv (A_t runUnderlying118 rfl sizeOf53 (by decide) (b_L rfl) rfl) rfl) <|A_c rfl rfl (OpOK.eqv (A_t runUnderlying53 rfl sizeOf51 (by decide) (b_L rfl) rfl) rfl) <|A_c rfl rfl (OpOK.eqv (A_P ti51 rfl) rfl) <|A_c rfl rfl (OpOK.eqv (A_S (k:=1) ti107 rfl rfl rfl) rfl) <|A_c rfl rfl (OpOK.eqv (A_X (mInverse_ok r.F m) rfl) rfl) <|A_c rfl rfl (OpOK.eqv (A_D rfl) rfl) <|A_c rfl rfl (OpOK.eqv (A_V rfl rfl) rfl) <|A_c rfl rfl (OpOK.eqv (A_V rfl rfl) rfl) <|A_c rfl rfl (OpOK.eqv (C_a (z:=.agg #[.int .i64 0,.slice none 0 0]) [aInt 0,aEx (.slice none 0 0)] zv107 rfl zc107) rfl) ?_
  exact C_C trivial
 refine A_c rfl rfl (OpOK.eqv (A_D rfl) rfl) <|A_c rfl rfl (OpOK.eqv (A_f rfl) rfl) <|A_c rfl rfl (OpOK.eqv (A_t runUnderlying118 rfl sizeOf53 (by decide) (b_L rfl) rfl) rfl) <|A_c rfl rfl (OpOK.eqv (A_t runUnderlying53 rfl sizeOf51 (by decide) (b_L rfl) rfl) rfl) <|A_c rfl rfl (OpOK.eqv (A_P ti51 rfl) rfl) <|A_c rfl rfl (OpOK.eqv (A_S (k:=2) ti107 rfl rfl rfl) rfl) <|A_c rfl rfl (OpOK.eqv (A_X (mInverse_ok r.F m) rfl) rfl) <|A_c rfl rfl (OpOK.eqv (A_D rfl) rfl) <|A_c rfl rfl (OpOK.eqv (A_V rfl rfl) rfl) <|A_c rfl rfl (OpOK.eqv (A_V rfl rfl) rfl) <|A_c rfl rfl (A_D rfl) <|C_C <|A_2 (k:=0) sizeOf107 rfl rfl rfl (AllOne.mem ⟨(A_N _),A_j,trivial⟩) rfl rfl ?_
 show Ent _ ⟨_,[_,_,_]⟩ _
 refine emm rfl <|enk K2 <|esr rfl fun _ K3=>A_A rfl (A_S (k:=0) ti107 rfl rfl rfl) <|A_2 (k:=1) sizeOf107 rfl rfl rfl (AllOne.mem ⟨(A_N _),A_j,trivial⟩) rfl rfl ?_
 show Ent _ ⟨_,[_,_,_]⟩ _
 refine enk K3 <|A_R ?_
 exact retR1 (.inr rfl) results107 (C_E (k:=1) ti107 rfl rfl rfl (B_9 ⟨A_b rfl,C_r F_G rfl,trivial⟩))

theorem slvMul_ok (r:Rgn) (xs:List Int) (cs:List (List Int)) (a b:Mat) (hE:mulE r.F a b=0):Ctr Try.prog 109 [aSlv r xs cs,aMat a,aMat b] (aMat (mulV r.F a b)):=by
 refine B_E Try.call109 func109 rfl rfl ?_
 intro w O
 refine A_0 0 2 rfl rfl fun hlen0_2=>A_0 0 6 rfl rfl fun hlen0_6=>A_0 0 8 rfl rfl fun hlen0_8=>A_0 0 9 rfl rfl fun hlen0_9=>A_l 1 1 rfl rfl fun hlen1_1=>A_l 2 1 rfl rfl fun hlen2_1=>esr rfl fun _ K1=>A_w rfl rfl (AllOne.mem ⟨(A_N _),A_j,trivial⟩) fun b4_1=>A_w rfl rfl (AllOne.mem ⟨(A_N _),A_j,trivial⟩) fun b5_2=>B_V (z:=.agg #[.int .i64 0,.slice none 0 0]) [aInt 0,aEx (.slice none 0 0)] rfl zv107 rfl zc107 fun b6_3=>enk K1 <|A_C fun _ K2=>?_
 refine C_m (T:=107) (z:=.agg #[.int .i64 0,.slice none 0 0]) (As:=[aInt 0,aEx (.slice none 0 0)]) 12 [10] 11 7 [(10,aSlv r xs cs),(11,aSlv r xs cs),(12,aAt 7 true (aAgg [aInt r.F.P,aInt r.F.M,aSl 1 false aInt r.F.mod,aInt r.Kind,aInt r.K,aInt r.D,aSl 1 false aInt r.Points])),(13,aAt 3 true (aAgg [aInt r.F.P,aInt r.F.M,aSl 1 false aInt r.F.mod])),(14,aAgg [aInt r.F.P,aInt r.F.M,aSl 1 false aInt r.F.mod]),(15,aAgg [aInt a.cols,aSl 1 false aInts a.rows]),(16,aAgg [aInt b.cols,aSl 1 false aInts b.rows]),(17,aTup [aMat (mulM r.F a b),aInt 0]),(9,aTup [aMat (mulM r.F a b),aInt 0]),(18,aMat (mulM r.F a b)),(19,aInt 0),(7,aBoxF w.heap.size 107 [aInt 0,aEx (.slice none 0 0)])] mixed (by kernel_rfl) (by kernel_rfl) (by kernel_rfl) (by kernel_rfl) (by kernel_rfl) (fun _ _ _ _ _ h=>h) rfl (by kernel_rfl) (by kernel_rfl) (fun _=>by kernel_rfl) (fun _=>by kernel_rfl) (fun _=>by kernel_rfl) zv107 rfl zc107 (by kernel_rfl) ?_ (fun bb_4=>?_)
 ·refine A_c rfl rfl (OpOK.eqv (A_D rfl) rfl) <|A_c rfl rfl (OpOK.eqv (A_f rfl) rfl) <|A_c rfl rfl (OpOK.eqv (A_t runUnderlying118 rfl sizeOf53 (by decide) (b_L rfl) rfl) rfl) <|A_c rfl rfl (OpOK.eqv (A_t runUnderlying53 rfl sizeOf51 (by decide) (b_L rfl) rfl) rfl) <|A_c rfl rfl (OpOK.eqv (A_P ti51 rfl) rfl) <|A_c rfl rfl (OpOK.eqv (A_S (k:=2) ti107 rfl rfl rfl) rfl) <|A_c rfl rfl (OpOK.eqv (A_S (k:=1) ti107 rfl rfl rfl) rfl) <|A_c rfl rfl (OpOK.eqv (A_X (mMul_ok r.F a b (A_i.1 (B_c hE).1).1 (A_i.1 (B_c hE).1).2 (A_i.1 (B_c hE).2.1).2 (B_c hE).2.2) rfl) rfl) <|A_c rfl rfl (OpOK.eqv (A_D rfl) rfl) <|A_c rfl rfl (OpOK.eqv (A_V rfl rfl) rfl) <|A_c rfl rfl (OpOK.eqv (A_V rfl rfl) rfl) <|A_c rfl rfl (OpOK.eqv (C_a (z:=.agg #[.int .i64 0,.slice none 0 0]) [aInt 0,aEx (.slice none 0 0)] zv107 rfl zc107) rfl) ?_
  exact C_C trivial
 refine A_c rfl rfl (OpOK.eqv (A_D rfl) rfl) <|A_c rfl rfl (OpOK.eqv (A_f rfl) rfl) <|A_c rfl rfl (OpOK.eqv (A_t runUnderlying118 rfl sizeOf53 (by decide) (b_L rfl) rfl) rfl) <|A_c rfl rfl (OpOK.eqv (A_t runUnderlying53 rfl sizeOf51 (by decide) (b_L rfl) rfl) rfl) <|A_c rfl rfl (OpOK.eqv (A_P ti51 rfl) rfl) <|A_c rfl rfl (OpOK.eqv (A_S (k:=3) ti107 rfl rfl rfl) rfl) <|A_c rfl rfl (OpOK.eqv (A_S (k:=2) ti107 rfl rfl rfl) rfl) <|A_c rfl rfl (OpOK.eqv (A_X (mMul_ok r.F a b (A_i.1 (B_c hE).1).1 (A_i.1 (B_c hE).1).2 (A_i.1 (B_c hE).2.1).2 (B_c hE).2.2) rfl) rfl) <|A_c rfl rfl (OpOK.eqv (A_D rfl) rfl) <|A_c rfl rfl (OpOK.eqv (A_V rfl rfl) rfl) <|A_c rfl rfl (OpOK.eqv (A_V rfl rfl) rfl) <|A_c rfl rfl (A_D rfl) <|C_C <|A_2 (k:=0) sizeOf107 rfl rfl rfl (AllOne.mem ⟨(A_N _),A_j,trivial⟩) rfl rfl ?_
 show Ent _ ⟨_,[_,_,_,_]⟩ _
 refine emm rfl <|enk K2 <|esr rfl fun _ K3=>A_A rfl (A_S (k:=0) ti107 rfl rfl rfl) <|A_2 (k:=1) sizeOf107 rfl rfl rfl (AllOne.mem ⟨(A_N _),A_j,trivial⟩) rfl rfl ?_
 show Ent _ ⟨_,[_,_,_,_]⟩ _
 refine enk K3 <|A_R ?_
 exact retR1 (.inr rfl) results109 (C_E (k:=1) ti107 rfl rfl rfl (B_9 ⟨A_b (by rw [C_K hE]),C_r F_G (by rw [C_K hE]),trivial⟩))
end Go.Proofs.Ytaipghchkamajaa

