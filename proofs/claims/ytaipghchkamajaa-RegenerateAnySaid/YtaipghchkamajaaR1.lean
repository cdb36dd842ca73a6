/-
  Walks of functions of the program and the reference.
-/
import Derived.Test.YtaipghchkamajaaPlainJ2
import Derived.Test.YtaipghchkamajaaC22
open Go Go.Cw
namespace Go.Proofs.Ytaipghchkamajaa
open Try
set_option maxRecDepth 100000
set_option linter.unusedVariables false
set_option linter.unusedSimpArgs false
theorem at_ok (r:Rgn) (l:List Int) (hl:∀i∈l,0<=i/\i<r.Points.length) (hm:l.length<=1000):Ctr Try.prog 74 [aRgn r,aSl 1 false aInt l] (aSl 1 false aInt (pickL r.Points l)):=by
 refine ctr_of Try.call74 func74 rfl rfl ?_
 intro w O
 refine A_o 0 2 rfl rfl (fun hlen0_2=>?_)
 refine A_o 0 6 rfl rfl (fun hlen0_6=>?_)
 refine ent_len 1 rfl (fun hlen1=>?_)
 refine esr rfl fun _ K1=>?_
 refine A_y rfl rfl (AllOne.mem ⟨(A_N _),(A_N _),A_j,(A_N _),(A_N _),(A_N _),A_j,trivial⟩) (fun b2_1=>?_)
 refine emm rfl ?_
 refine enk K1 ?_
 refine esk rfl ?_
 refine A_C fun _ K3=>?_
 refine esr rfl fun _ K4=>?_
 refine A_A rfl (ok_len rfl runUnderlying29 rfl) ?_
 refine emm rfl ?_
 refine enk K4 ?_
 refine A_K ?_
 refine ent_open 3 1 false aInt (fun _=>rfl) ?_
 refine A_d (fun (ss:Int×Option Nat×Nat)=>match ss with | (i,rr3,cc3)=>(⟨[(2,aEx (.pointer (some ⟨b2_1,0,none⟩))),(5,aEx (vec rr3 (((pickL r.Points l).take i.toNat).length) cc3)),(8,aSl 1 false aInt l),(9,aInt (↑l.length:Int)),(10,aInt i)],[oVec rr3 cc3 3 1 false aInt ((pickL r.Points l).take i.toNat),oBox b2_1 53 [aInt r.F.P,aInt r.F.M,aSl 1 false aInt r.F.mod,aInt r.Kind,aInt r.K,aInt r.D,aSl 1 false aInt r.Points]]⟩:St)) (fun (ss:Int×Option Nat×Nat)=>match ss with | (i,rr3,cc3)=>(0<=i)/\(i<=l.length)) (fun (ss:Int×Option Nat×Nat)=>match ss with | (i,rr3,cc3)=>(l.length-i).toNat) (0,none,0) ⟨(by omega),(by omega)⟩ (A_J ⟨rfl,A_V ((show aEx (vec none ([]:List _).length 0)=aEx (vec none (((pickL r.Points l).take (0:Int).toNat).length) 0) from av_vec (congrArg List.length (show (pickL r.Points l).take (0:Int).toNat = [] by rfl).symm))),rfl,rfl,A_V (A_p (show 0=(0:Int) by rfl)),trivial⟩ (A_F (A_s (show (pickL r.Points l).take (0:Int).toNat = [] by rfl)) (rfl))) ?_
 rintro ⟨i,rr3,cc3⟩ ⟨h0,h1⟩
 show Ent _ ⟨_,[_,_]⟩ _
 have ltp:((pickL r.Points l).take i.toNat).length=i.toNat:=by rw [List.length_take];simp [pickL];omega
 refine esr rfl fun _ K5=>?_
 refine A_A rfl (A_r rfl rfl) ?_
 refine enk K5 ?_
 refine A_C fun _ K6=>?_
 refine A_G rfl (fun h11=>?_) (fun h11=>?_)
 ·have hp:=hl _ (ix_mem 0 l h0 h11)
  refine esp K6 ?_
  refine A_C fun _ K7=>?_
  refine A_K ?_
  refine esr rfl fun _ K8=>?_
  refine A_A rfl (A_a 0 sl29 rfl rfl (by omega) (by omega)) ?_
  refine A_A rfl (A_P ti3 rfl) ?_
  refine emm rfl ?_
  refine enk K8 ?_
  refine A_H ?_
  refine emm rfl ?_
  refine A_A rfl (A_B runUnderlying53 rfl sizeOf29 (by decide) rfl) ?_
  refine A_A rfl (A_I (k:=1) isAgg29 rfl rfl rfl) ?_
  refine emm rfl ?_
  refine A_A rfl (A_a 0 sl29 rfl rfl (by omega) (by omega)) ?_
  refine A_A rfl (A_P ti3 rfl) ?_
  refine ent_appendL (k:=0) (enc:=aInt) (y:=ix 0 r.Points (ix 0 l i)) rfl rfl vt29 rfl rfl rfl rfl ((A_z (A_N _))) (by omega) (by omega) (by decide) (fun b21_4 c21_4=>?_)
  refine emm rfl ?_
  refine enk K7 ?_
  refine A_H ?_
  refine A_A rfl (A_n rfl rfl (by omega) (by omega)) ?_
  refine emm rfl ?_
  refine A_O ?_
  refine A_U (s:=(i,rr3,cc3)) (i+1,(some b21_4),c21_4) ⟨(by omega),‹_›⟩ (by dsimp only;omega) (A_J ⟨rfl,A_V (av_vec (congrArg List.length (show (pickL r.Points l).take (i+1).toNat=((pickL r.Points l).take i.toNat)++[ix 0 r.Points (ix 0 l i)] by rw [take_succ_ix 0 (pickL r.Points l) h0 (by simp [pickL];omega),ix_pickL h0 h11]).symm)),rfl,rfl,rfl,trivial⟩ (A_F (A_s (show (pickL r.Points l).take (i+1).toNat=((pickL r.Points l).take i.toNat)++[ix 0 r.Points (ix 0 l i)] by rw [take_succ_ix 0 (pickL r.Points l) h0 (by simp [pickL];omega),ix_pickL h0 h11])) (rfl)))
 refine A_e ?_
 refine A_0 K3 ?_
 refine esk rfl ?_
 refine A_Q ?_
 exact retR1 (.inr rfl) results74 (A_L (A_S rfl (cv_vec (k:=0) (off_x rfl) rfl (by rw [List.take_of_length_le (by simp [pickL];omega)]))))

theorem rgRows_ok (f:Fld) (xs:List Int) (n:Int) (hF:FOk f) (hn0:0<=n) (hn1:n<=64) (hm:xs.length<=1000):Ctr Try.prog 66 [aGF f,aSl 1 false aInt xs,aInt n] (aMat (⟨n,vdm f xs n⟩:Mat)):=by
 refine ctr_of Try.call66 func66 rfl rfl ?_
 intro w O
 refine A_q 0 4 rfl rfl (fun hlen0_4=>?_)
 refine A_q 0 5 rfl rfl (fun hlen0_5=>?_)
 refine ent_len 1 rfl (fun hlen1=>?_)
 refine esr rfl fun _ K1=>?_
 refine ent_alloc (z:=.agg #[.int .i64 0,.slice none 0 0]) [aInt 0,aEx (.slice none 0 0)] rfl zv107 rfl zc107 (fun b6_1=>?_)
 refine enk K1 ?_
 refine esr rfl fun _ K2=>?_
 refine A_A rfl (ok_build st107 (As:=[aInt 0,aEx (.slice none 0 0)]) z107 (⟨0,1,rfl,.inl ⟨rfl,_,rfl,(A_N _),rfl,rfl⟩⟩)) ?_
 refine ent_alloc (z:=.agg #[.int .i64 0,.slice none 0 0]) [aInt 0,aEx (.slice none 0 0)] rfl zv107 rfl zc107 (fun b7_2=>?_)
 refine A_t (k:=0) sizeOf107 rfl rfl rfl (AllOne.mem ⟨(A_N _),(one_ex rfl),trivial⟩) rfl rfl ?_
 show Ent _ ⟨_,[_,_]⟩ _
 refine enk K2 ?_
 refine A_C fun _ K3=>?_
 refine esr rfl fun _ K4=>?_
 refine A_A rfl (ok_len rfl runUnderlying29 rfl) ?_
 refine emm rfl ?_
 refine enk K4 ?_
 refine A_K ?_
 refine ent_open 29 1 false aInts (fun _=>rfl) ?_
 refine A_d (fun (ss:Int×Option Nat×Nat)=>match ss with | (i,rr4,cc4)=>(⟨[(0,aGF f),(2,aInt n),(6,aEx (.pointer (some ⟨b6_1,0,none⟩))),(7,aEx (.pointer (some ⟨b7_2,0,none⟩))),(12,aSl 1 false aInt xs),(13,aInt (↑xs.length:Int)),(14,aInt i)],[oVec rr4 cc4 29 1 false aInts (mapT (fun x=>powsF f x n) xs i),oBox b7_2 107 [aInt n,aEx (vec rr4 ((mapT (fun x=>powsF f x n) xs i).length) cc4)],oBox b6_1 107 [aInt 0,aEx (.slice none 0 0)]]⟩:St)) (fun (ss:Int×Option Nat×Nat)=>match ss with | (i,rr4,cc4)=>(0<=i)/\(i<=xs.length)) (fun (ss:Int×Option Nat×Nat)=>match ss with | (i,rr4,cc4)=>(xs.length-i).toNat) (0,none,0) ⟨(by omega),(by omega)⟩ (A_J ⟨rfl,rfl,rfl,rfl,rfl,rfl,A_V (A_p (show 0=(0:Int) by rfl)),trivial⟩ (A_F (A_s (show mapT (fun x=>powsF f x n) xs (0:Int) = [] by rfl)) (A_F (own_box (av_cons rfl (av_cons (rfl) (rfl)))) (rfl)))) ?_
 rintro ⟨i,rr4,cc4⟩ ⟨k0,k1⟩
 show Ent _ ⟨_,[_,_,_]⟩ _
 have lf:=length_mapT (fun x=>powsF f x n) xs (i:=i) (by omega)
 refine esr rfl fun _ K5=>?_
 refine A_A rfl (A_r rfl rfl) ?_
 refine enk K5 ?_
 refine A_C fun _ K6=>?_
 refine A_G rfl (fun h15=>?_) (fun h15=>?_)
 ·refine esp K6 ?_
  refine A_C fun _ K7=>?_
  refine A_K ?_
  refine esr rfl fun _ K8=>?_
  refine A_A rfl (A_a 0 sl29 rfl rfl (by omega) (by omega)) ?_
  refine A_A rfl (A_P ti3 rfl) ?_
  refine emm rfl ?_
  refine enk K8 ?_
  refine A_w 7 mixed (by kernel_rfl) (by kernel_rfl) (by kernel_rfl) ?_
  refine dw_o rfl (A_B runUnderlying107 rfl sizeOf65 (by decide) rfl) ?_
  refine dw_o rfl (A_I (k:=1) isAgg65 rfl rfl rfl) ?_
  refine dw_o rfl (A_D rfl) ?_
  refine dw_o rfl (A_D rfl) ?_
  refine dw_o rfl (A_D rfl) ?_
  refine dw_o rfl (A_W (CtrF.ctr (CtrF.sl (RgPowers_ok f (ix 0 xs i) n ‹_› ‹_› ‹_›))) rfl) ?_
  refine dw_o rfl (ok_build1 (enc:=aInts) (y:=powsF f (ix 0 xs i) n) vt65 rfl (A_z A_j) (by decide)) ?_
  refine dw_nil ?_
  refine ent_appendS (k:=0) rfl vt65 rfl rfl rfl rfl (A_x A_h) (by simp only [List.length_append,List.length_cons,List.length_nil];omega) (by simp only [List.length_append,List.length_cons,List.length_nil];omega) (fun r25_4 cr25_4=>?_)
  refine A_A rfl (A_B runUnderlying107 rfl sizeOf65 (by decide) rfl) ?_
  refine ent_storeB (k:=1) sizeOf65 rfl rfl rfl (one_ex rfl) rfl ?_
  refine enk K7 ?_
  refine A_H ?_
  refine A_A rfl (A_n rfl rfl (by omega) (by omega)) ?_
  refine emm rfl ?_
  refine A_O ?_
  refine A_U (s:=(i,rr4,cc4)) (i+1,r25_4,cr25_4) ⟨(by omega),‹_›⟩ (by dsimp only;omega) (A_J ⟨rfl,rfl,rfl,rfl,rfl,rfl,rfl,trivial⟩ (A_F (A_s (show mapT (fun x=>powsF f x n) xs (i+1)=(mapT (fun x=>powsF f x n) xs i)++[powsF f (ix 0 xs i) n] by exact mapT_succ 0 _ xs k0 h15)) (A_F (own_box (av_cons rfl (av_cons (av_vec (congrArg List.length (show mapT (fun x=>powsF f x n) xs (i+1)=(mapT (fun x=>powsF f x n) xs i)++[powsF f (ix 0 xs i) n] by exact mapT_succ 0 _ xs k0 h15))) (rfl)))) (rfl))))
 refine A_e ?_
 refine A_0 K3 ?_
 refine esr rfl fun _ K9=>?_
 refine A_A rfl (A_R (k:=1) ti107 rfl rfl rfl) ?_
 refine A_t (k:=2) sizeOf107 rfl rfl rfl (AllOne.mem ⟨(A_N _),(one_ex rfl),trivial⟩) rfl rfl ?_
 show Ent _ ⟨_,[_,_,_]⟩ _
 refine enk K9 ?_
 refine A_Q ?_
 exact retR1 (.inr rfl) results66 (resr_cell (k:=2) ti107 rfl rfl rfl (cv_agg ⟨A_Z rfl,cv_vec (k:=0) (off_x rfl) rfl (by rw [mapT_all _ _ (by omega)];rfl),trivial⟩))

theorem rNodes_ok (r:Rgn) (l:List Int) (m but:Int)  : Ctr Try.prog 44 [aRgn r,aSl 1 false aInt l,aInt m,aInt but] (aInt (nodErr r.Points.length m but l)):=by
 refine ctr_of Try.call44 func44 rfl rfl ?_
 intro w O
 refine A_o 0 2 rfl rfl (fun hlen0_2=>?_)
 refine A_o 0 6 rfl rfl (fun hlen0_6=>?_)
 refine ent_len 1 rfl (fun hlen1=>?_)
 refine esr rfl fun _ K1=>?_
 refine A_y rfl rfl (AllOne.mem ⟨(A_N _),(A_N _),A_j,(A_N _),(A_N _),(A_N _),A_j,trivial⟩) (fun b4_1=>?_)
 refine emm rfl ?_
 refine enk K1 ?_
 refine A_C fun _ K2=>?_
 refine esr rfl fun _ K3=>?_
 refine A_A rfl (ok_len rfl runUnderlying29 rfl) ?_
 refine emm rfl ?_
 refine A_A rfl (ok_neq rfl rfl) ?_
 refine enk K3 ?_
 refine A_G rfl (fun h15=>?_) (fun h15=>?_)
 ·refine esk rfl ?_
  refine A_Q ?_
  exact retR1 (.inr rfl) results44 (A_L (A_S rfl (A_Z (by exact (if_pos h15).symm))))
 have hlm:(l.length:Int)=m:=Classical.not_not.1 h15
 refine esp K2 ?_
 refine A_C fun _ K5=>?_
 refine esk rfl ?_
 refine A_K ?_
 refine A_d (fun (i:Int)=>(⟨[(1,aSl 1 false aInt l),(2,aInt m),(3,aInt but),(4,aEx (.pointer (some ⟨b4_1,0,none⟩))),(9,aInt i)],[oBox b4_1 53 [aInt r.F.P,aInt r.F.M,aSl 1 false aInt r.F.mod,aInt r.Kind,aInt r.K,aInt r.D,aSl 1 false aInt r.Points]]⟩:St)) (fun (i:Int)=>(0<=i)/\(i<=l.length)/\(¬badIn r.Points.length but (l.take i.toNat))) (fun (i:Int)=>(l.length-i).toNat) 0 ⟨(by omega),(by omega),(by simp [badIn])⟩ (A_J ⟨rfl,rfl,rfl,rfl,A_V (A_p (show 0=(0:Int) by rfl)),trivial⟩ rfl) ?_
 rintro i ⟨h0,h1,hn⟩
 show Ent _ ⟨_,[_]⟩ _
 refine A_C fun _ K7=>?_
 refine esr rfl fun _ K8=>?_
 refine A_A rfl (A_r rfl rfl) ?_
 refine enk K8 ?_
 refine A_G rfl (fun h18=>?_) (fun h18=>?_)
 ·refine esp K7 ?_
  refine A_C fun _ K9=>?_
  refine A_K ?_
  refine A_C fun _ K10=>?_
  refine ent_cut (⟨[(1,aSl 1 false aInt l),(2,aInt m),(3,aInt but),(4,aEx (.pointer (some ⟨b4_1,0,none⟩))),(9,aInt i),(43,aBool (decide ((((ix 0 l i)<0)\/((↑r.Points.length:Int)<=(ix 0 l i)))\/((ix 0 l i)=but))))],[oBox b4_1 53 [aInt r.F.P,aInt r.F.M,aSl 1 false aInt r.F.mod,aInt r.Kind,aInt r.K,aInt r.D,aSl 1 false aInt r.Points]]⟩) ?_ ?_
  ·refine A_w 23 mixed (by kernel_rfl) (by kernel_rfl) (by kernel_rfl) ?_
   refine dw_o rfl (A_D rfl) ?_
   refine dw_o rfl (A_D rfl) ?_
   refine dw_o rfl (A_a 0 sl29 rfl rfl (by omega) (by omega)) ?_
   refine dw_o rfl (A_P ti3 rfl) ?_
   refine dw_o rfl (A_r rfl rfl) ?_
   refine dw_o rfl (A_D rfl) ?_
   refine dw_guardDf rfl rfl rfl rfl (fun hg26=>?_) (fun hg26=>?_)
   ·refine dw_o rfl (A_D rfl) ?_
    refine A_i rfl rfl rfl rfl (decide_eq_false hg26) ?_
    refine dw_o rfl (A_D rfl) ?_
    refine A_i rfl rfl rfl rfl (decide_eq_false hg26) ?_
    refine dw_o rfl (A_a 0 sl29 rfl rfl (by omega) (by omega)) ?_
    refine A_i rfl rfl rfl rfl (decide_eq_false hg26) ?_
    refine dw_o rfl (A_P ti3 rfl) ?_
    refine A_i rfl rfl rfl rfl (decide_eq_false hg26) ?_
    refine dw_o rfl (A_B runUnderlying53 rfl sizeOf29 (by decide) rfl) ?_
    refine A_i rfl rfl rfl rfl (decide_eq_false hg26) ?_
    refine dw_o rfl (A_I (k:=0) isAgg29 rfl rfl rfl) ?_
    refine A_i rfl rfl rfl rfl (decide_eq_false hg26) ?_
    refine dw_o rfl (ok_len rfl runUnderlying29 rfl) ?_
    refine A_i rfl rfl rfl rfl (decide_eq_false hg26) ?_
    refine dw_o rfl (ok_geq rfl rfl) ?_
    refine dw_o rfl (A_1 rfl (decide_eq_false hg26) rfl) ?_
    refine dw_o rfl (A_D rfl) ?_
    refine dw_guardDf rfl rfl rfl rfl (fun hg36=>?_) (fun hg36=>?_)
    ·refine dw_o rfl (A_D rfl) ?_
     refine A_i rfl rfl rfl rfl (decide_eq_false hg36) ?_
     refine dw_o rfl (A_D rfl) ?_
     refine A_i rfl rfl rfl rfl (decide_eq_false hg36) ?_
     refine dw_o rfl (A_a 0 sl29 rfl rfl (by omega) (by omega)) ?_
     refine A_i rfl rfl rfl rfl (decide_eq_false hg36) ?_
     refine dw_o rfl (A_P ti3 rfl) ?_
     refine A_i rfl rfl rfl rfl (decide_eq_false hg36) ?_
     refine dw_o rfl (A_D rfl) ?_
     refine A_i rfl rfl rfl rfl (decide_eq_false hg36) ?_
     refine dw_o rfl (ok_eql rfl rfl) ?_
     refine dw_o rfl (A_1 rfl (decide_eq_false hg36) rfl) ?_
     refine dw_nil ?_
     refine A_O ?_
     exact A_J ⟨rfl,rfl,rfl,rfl,rfl,A_X (dq_Q ((or_iff_right (fun h=>h.elim hg26 hg36)).trans Iff.rfl)),trivial⟩ rfl
    refine A_g rfl rfl rfl rfl (decide_eq_true hg36) ?_
    refine A_g rfl rfl rfl rfl (decide_eq_true hg36) ?_
    refine A_g rfl rfl rfl rfl (decide_eq_true hg36) ?_
    refine A_g rfl rfl rfl rfl (decide_eq_true hg36) ?_
    refine A_g rfl rfl rfl rfl (decide_eq_true hg36) ?_
    refine dw_o rfl (A_m rfl (decide_eq_true hg36) rfl) ?_
    refine dw_nil ?_
    refine A_O ?_
    exact A_J ⟨rfl,rfl,rfl,rfl,rfl,A_X (dq_T rfl (Or.inl (Or.inr hg36))),trivial⟩ rfl
   refine A_g rfl rfl rfl rfl (decide_eq_true hg26) ?_
   refine A_g rfl rfl rfl rfl (decide_eq_true hg26) ?_
   refine A_g rfl rfl rfl rfl (decide_eq_true hg26) ?_
   refine A_g rfl rfl rfl rfl (decide_eq_true hg26) ?_
   refine A_g rfl rfl rfl rfl (decide_eq_true hg26) ?_
   refine A_g rfl rfl rfl rfl (decide_eq_true hg26) ?_
   refine A_g rfl rfl rfl rfl (decide_eq_true hg26) ?_
   refine dw_o rfl (A_m rfl (decide_eq_true hg26) rfl) ?_
   refine dw_o rfl (A_D rfl) ?_
   refine A_g rfl rfl rfl rfl rfl ?_
   refine A_g rfl rfl rfl rfl rfl ?_
   refine A_g rfl rfl rfl rfl rfl ?_
   refine A_g rfl rfl rfl rfl rfl ?_
   refine A_g rfl rfl rfl rfl rfl ?_
   refine A_g rfl rfl rfl rfl rfl ?_
   refine dw_o rfl (A_m rfl rfl rfl) ?_
   refine dw_nil ?_
   refine A_O ?_
   exact A_J ⟨rfl,rfl,rfl,rfl,rfl,A_X (dq_T rfl (Or.inl (Or.inl hg26))),trivial⟩ rfl
  refine A_0 K10 ?_
  refine A_G rfl (fun h43=>?_) (fun h43=>?_)
  ·refine esk rfl ?_
   refine A_Q ?_
   exact retR1 (.inr rfl) results44 (A_L (A_S rfl (A_Z (by rw [nodErr,if_neg h15,lstErr,if_pos (badIn_at h0 (by omega) h43)]))))
  refine esp K9 ?_
  refine A_H ?_
  refine emm rfl ?_
  refine A_A rfl (A_n rfl rfl (by omega) (by omega)) ?_
  refine emm rfl ?_
  refine A_O ?_
  refine A_U (s:=(i)) (i+1) ⟨(by omega),(by omega),(badIn_succ h0 (by omega) hn h43)⟩ (by omega) (A_J ⟨rfl,rfl,rfl,rfl,rfl,trivial⟩ rfl)
 refine A_e ?_
 refine A_0 K5 ?_
 refine A_C fun _ K12=>?_
 refine esk rfl ?_
 refine A_K ?_
 refine A_d (fun (i:Int)=>(⟨[(1,aSl 1 false aInt l),(2,aInt m),(10,aInt i)],[oBox b4_1 53 [aInt r.F.P,aInt r.F.M,aSl 1 false aInt r.F.mod,aInt r.Kind,aInt r.K,aInt r.D,aSl 1 false aInt r.Points]]⟩:St)) (fun (i:Int)=>(0<=i)/\(i<=l.length)/\((l.take i.toNat).Nodup)) (fun (i:Int)=>(l.length-i).toNat) 0 ⟨(by omega),(by omega),(by simp)⟩ (A_J ⟨rfl,rfl,A_V (A_p (show 0=(0:Int) by rfl)),trivial⟩ rfl) ?_
 rintro i ⟨k0,k1,kn⟩
 show Ent _ ⟨_,[_]⟩ _
 refine A_C fun _ K14=>?_
 refine esr rfl fun _ K15=>?_
 refine A_A rfl (A_r rfl rfl) ?_
 refine enk K15 ?_
 refine A_G rfl (fun h46=>?_) (fun h46=>?_)
 ·refine esp K14 ?_
  refine A_C fun _ K16=>?_
  refine A_K ?_
  refine esk rfl ?_
  refine A_K ?_
  refine A_d (fun (j:Int)=>(⟨[(1,aSl 1 false aInt l),(2,aInt m),(10,aInt i),(11,aInt j)],[oBox b4_1 53 [aInt r.F.P,aInt r.F.M,aSl 1 false aInt r.F.mod,aInt r.Kind,aInt r.K,aInt r.D,aSl 1 false aInt r.Points]]⟩:St)) (fun (j:Int)=>(0<=j)/\(j<=i)/\(∀q:Nat,(q:Int)<j->ix 0 l i≠ix 0 l q)) (fun (j:Int)=>(i-j).toNat) 0 ⟨(by omega),‹_›,(fun q hq=>by omega)⟩ (A_J ⟨rfl,rfl,rfl,A_V (A_p (show 0=(0:Int) by rfl)),trivial⟩ rfl) ?_
  rintro j ⟨j0,j1,jn⟩
  show Ent _ ⟨_,[_]⟩ _
  refine A_C fun _ K18=>?_
  refine esr rfl fun _ K19=>?_
  refine A_A rfl (A_r rfl rfl) ?_
  refine enk K19 ?_
  refine A_G rfl (fun h51=>?_) (fun h51=>?_)
  ·refine esp K18 ?_
   refine A_C fun _ K20=>?_
   refine A_K ?_
   refine A_C fun _ K21=>?_
   refine A_w 9 mixed (by kernel_rfl) (by kernel_rfl) (by kernel_rfl) ?_
   refine dw_o rfl (A_D rfl) ?_
   refine dw_o rfl (A_D rfl) ?_
   refine dw_o rfl (A_a 0 sl29 rfl rfl (by omega) (by omega)) ?_
   refine dw_o rfl (A_P ti3 rfl) ?_
   refine dw_o rfl (A_D rfl) ?_
   refine dw_o rfl (A_D rfl) ?_
   refine dw_o rfl (A_a 0 sl29 rfl rfl (by omega) (by omega)) ?_
   refine dw_o rfl (A_P ti3 rfl) ?_
   refine dw_o rfl (ok_eql rfl rfl) ?_
   refine dw_nil ?_
   refine enk K21 ?_
   refine A_G rfl (fun h62=>?_) (fun h62=>?_)
   ·refine esk rfl ?_
    refine A_Q ?_
    exact retR1 (.inr rfl) results44 (A_L (A_S rfl (A_Z (by rw [List.take_of_length_le (by omega)] at hn;rw [nodErr,if_neg h15,lstErr,if_neg hn,if_neg (nodup_of_take (n:=(i+1).toNat) (fun h=>((nodup_take_succ l k0 (by omega)).1 h).2 (by rw [show ix 0 l i=l.getD j.toNat 0 from h62];exact getD_mem_take 0 l _ _ (by omega) (by omega))))]))))
   refine esp K20 ?_
   refine A_H ?_
   refine emm rfl ?_
   refine A_A rfl (A_n rfl rfl (by omega) (by omega)) ?_
   refine emm rfl ?_
   refine A_O ?_
   refine A_U (s:=(j)) (j+1) ⟨(by omega),‹_›,(fun q hq=>by by_cases hqj:(q:Int)=j;(rw [hqj];exact h62);exact jn q (by omega))⟩ (by omega) (A_J ⟨rfl,rfl,rfl,rfl,trivial⟩ rfl)
  refine A_e ?_
  refine A_0 K16 ?_
  refine A_H ?_
  refine emm rfl ?_
  refine A_A rfl (A_n rfl rfl (by omega) (by omega)) ?_
  refine emm rfl ?_
  refine A_O ?_
  refine A_U (s:=(i)) (i+1) ⟨(by omega),(by omega),((nodup_take_succ l k0 (by omega)).2 ⟨kn,fun hm=>by obtain ⟨q,q1,q2,q3⟩:=mem_take_getD 0 l _ _ hm;exact jn q (by omega) q3.symm⟩)⟩ (by omega) (A_J ⟨rfl,rfl,rfl,trivial⟩ rfl)
 refine A_e ?_
 refine A_0 K12 ?_
 refine esk rfl ?_
 refine A_Q ?_
 exact retR1 (.inr rfl) results44 (A_L (A_S rfl (A_Z (by rw [List.take_of_length_le (by omega)] at hn kn;rw [nodErr,if_neg h15,lstErr,if_neg hn,if_pos kn]))))

end Go.Proofs.Ytaipghchkamajaa

