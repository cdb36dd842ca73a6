/-
  Walks of functions of the program and the reference.
-/
import Derived.Test.YtcilbmggiahciaaGreatZ35
open Go Go.Cw
namespace Go.Proofs.YtcilbmggiahciaaGreat
open Tryz
set_option maxRecDepth 100000
set_option linter.unusedVariables false
set_option linter.unusedSimpArgs false
theorem rTurn_ok (rows:List (List Int)) (cols:Int) (hc0:0<=cols) (hc1:cols<=1000) (hr:∀i:Int,0<=i->i<rows.length->((ix [] rows i).length:Int)=cols) (hm:rows.length<=1000):Ctr Tryz.prog 65 [aSl 1 false aInts rows,aInt cols] (aSl 1 false aInts (turnL rows cols)):=by
 have htl:=length_turnL rows cols
 refine A_p Tryz.call65 func65 rfl rfl ?_
 intro w O
 refine A_x 0 rfl (fun hlen0=>?_)
 refine esk rfl ?_
 refine esk rfl ?_
 refine A_C fun _ K3=>?_
 refine esk rfl ?_
 refine A_K ?_
 refine ent_open 22 1 false aInts (fun _=>rfl) ?_
 refine A_g (fun (ss:Int×Option Nat×Nat)=>match ss with | (c,rr2,cc2)=>(⟨[(0,aSl 1 false aInts rows),(1,aInt cols),(5,aEx (vec rr2 (((turnL rows cols).take c.toNat).length) cc2)),(6,aInt c)],[oVec rr2 cc2 22 1 false aInts ((turnL rows cols).take c.toNat)]⟩:St)) (fun (ss:Int×Option Nat×Nat)=>match ss with | (c,rr2,cc2)=>(0<=c)/\(c<=cols)) (fun (ss:Int×Option Nat×Nat)=>match ss with | (c,rr2,cc2)=>(cols-c).toNat) (0,none,0) ⟨(by omega),‹_›⟩ (A_I ⟨rfl,rfl,A_W ((show aEx (vec none ([]:List _).length 0)=aEx (vec none (((turnL rows cols).take (0:Int).toNat).length) 0) from av_vec (congrArg List.length (show (turnL rows cols).take (0:Int).toNat = [] by rfl).symm))),A_W (A_i (show 0=(0:Int) by rfl)),trivial⟩ (A_N (A_n (show (turnL rows cols).take (0:Int).toNat = [] by rfl)) (rfl))) ?_
 rintro ⟨c,rr2,cc2⟩ ⟨h0,h1⟩
 show Ent _ ⟨_,[_]⟩ _
 have lt:((turnL rows cols).take c.toNat).length=c.toNat:=by rw [List.length_take];omega
 refine A_C fun _ K5=>?_
 refine esr rfl fun _ K6=>?_
 refine A_A rfl (A_o rfl rfl) ?_
 refine enk K6 ?_
 refine A_E rfl (fun h11=>?_) (fun h11=>?_)
 ·refine esp K5 ?_
  refine A_C fun _ K7=>?_
  refine A_K ?_
  refine esk rfl ?_
  refine A_C fun _ K9=>?_
  refine esk rfl ?_
  refine A_K ?_
  refine ent_open 3 1 false aInt (fun _=>rfl) ?_
  refine A_g (fun (ss:Int×Option Nat×Nat)=>match ss with | (i,rr4,cc4)=>(⟨[(0,aSl 1 false aInts rows),(1,aInt cols),(5,aEx (vec rr2 (((turnL rows cols).take c.toNat).length) cc2)),(6,aInt c),(7,aEx (vec rr4 (((colC rows c).take i.toNat).length) cc4)),(8,aInt i)],[oVec rr4 cc4 3 1 false aInt ((colC rows c).take i.toNat),oVec rr2 cc2 22 1 false aInts ((turnL rows cols).take c.toNat)]⟩:St)) (fun (ss:Int×Option Nat×Nat)=>match ss with | (i,rr4,cc4)=>(0<=i)/\(i<=rows.length)) (fun (ss:Int×Option Nat×Nat)=>match ss with | (i,rr4,cc4)=>(rows.length-i).toNat) (0,none,0) ⟨(by omega),(by omega)⟩ (A_I ⟨rfl,rfl,rfl,rfl,A_W ((show aEx (vec none ([]:List _).length 0)=aEx (vec none (((colC rows c).take (0:Int).toNat).length) 0) from av_vec (congrArg List.length (show (colC rows c).take (0:Int).toNat = [] by rfl).symm))),A_W (A_i (show 0=(0:Int) by rfl)),trivial⟩ (A_N (A_n (show (colC rows c).take (0:Int).toNat = [] by rfl)) (rfl))) ?_
  rintro ⟨i,rr4,cc4⟩ ⟨i0,i1⟩
  show Ent _ ⟨_,[_,_]⟩ _
  have lc:((colC rows c).take i.toNat).length=i.toNat:=by rw [List.length_take,length_colC];omega
  refine A_C fun _ K11=>?_
  refine esr rfl fun _ K12=>?_
  refine A_A rfl (A_z rfl runUnderlying25 rfl) ?_
  refine A_A rfl (A_o rfl rfl) ?_
  refine enk K12 ?_
  refine A_E rfl (fun h17=>?_) (fun h17=>?_)
  ·have hri:=hr i i0 h17
   refine esp K11 ?_
   refine A_C fun _ K13=>?_
   refine A_K ?_
   refine A_D ?_
   refine emm rfl ?_
   refine A_A rfl (A_d [] sl25 rfl rfl (by omega) (by omega)) ?_
   refine A_A rfl (A_V ti22 rfl) ?_
   refine emm rfl ?_
   refine A_A rfl (A_d 0 sl22 rfl rfl (by omega) (by omega)) ?_
   refine A_A rfl (A_V ti3 rfl) ?_
   refine ent_appendL (k:=0) (enc:=aInt) (y:=ix 0 (ix [] rows i) c) rfl rfl vt22 rfl rfl rfl rfl ((A_u (A_F _))) (by omega) (by omega) (by decide) (fun b29_5 c29_5=>?_)
   refine emm rfl ?_
   refine enk K13 ?_
   refine A_D ?_
   refine emm rfl ?_
   refine A_A rfl (A_m rfl rfl (by omega) (by omega)) ?_
   refine emm rfl ?_
   refine A_O ?_
   refine A_X (s:=(i,rr4,cc4)) (i+1,(some b29_5),c29_5) ⟨(by omega),‹_›⟩ (by dsimp only;omega) (A_I ⟨rfl,rfl,rfl,rfl,A_W (av_vec (congrArg List.length (show (colC rows c).take (i+1).toNat=((colC rows c).take i.toNat)++[ix 0 (ix [] rows i) c] by rw [take_succ_ix 0 (colC rows c) i0 (by rw [length_colC];exact h17),ix_colC rows c i0 h17]).symm)),rfl,trivial⟩ (A_N (A_n (show (colC rows c).take (i+1).toNat=((colC rows c).take i.toNat)++[ix 0 (ix [] rows i) c] by rw [take_succ_ix 0 (colC rows c) i0 (by rw [length_colC];exact h17),ix_colC rows c i0 h17])) (rfl)))
  refine A_e ?_
  refine A_s K9 ?_
  refine A_D ?_
  refine emm rfl ?_
  refine ent_give 0 31 rfl (cv_vec (k:=0) (off_erase rfl) rfl rfl) ?_
  refine ent_appendL (k:=0) (enc:=aInts) (y:=(colC rows c).take i.toNat) rfl rfl vt25 rfl rfl rfl rfl ((A_u A_c)) (by omega) (by omega) (by decide) (fun b33_6 c33_6=>?_)
  refine emm rfl ?_
  refine enk K7 ?_
  refine A_D ?_
  refine emm rfl ?_
  refine A_A rfl (A_m rfl rfl (by omega) (by omega)) ?_
  refine emm rfl ?_
  refine A_O ?_
  refine A_X (s:=(c,rr2,cc2)) (c+1,(some b33_6),c33_6) ⟨(by omega),‹_›⟩ (by dsimp only;omega) (A_I ⟨rfl,rfl,A_W (av_vec (congrArg List.length (show (turnL rows cols).take (c+1).toNat=((turnL rows cols).take c.toNat)++[(colC rows c).take i.toNat] by rw [turnL_succ rows h0 h11,show (colC rows c).take i.toNat=colC rows c from List.take_of_length_le (by rw [length_colC];omega)]).symm)),rfl,trivial⟩ (A_N (A_n (show (turnL rows cols).take (c+1).toNat=((turnL rows cols).take c.toNat)++[(colC rows c).take i.toNat] by rw [turnL_succ rows h0 h11,show (colC rows c).take i.toNat=colC rows c from List.take_of_length_le (by rw [length_colC];omega)])) (rfl)))
 refine A_e ?_
 refine A_s K3 ?_
 refine esk rfl ?_
 refine A_R ?_
 exact retR1 (.inr rfl) results65 (A_H (A_T rfl (cv_vec (k:=0) (off_x rfl) rfl (by rw [List.take_of_length_le (by omega)]))))

theorem Sub_ok (f:Fld) (x y:Int) (hF:FOk f):Ctr Tryz.prog 48 [aGF f,aInt x,aInt y] (aInt (addF f x (negF f y))):=by
 refine A_p Tryz.call48 func48 rfl rfl ?_
 intro w O
 refine ent_lenP 0 4 rfl rfl (fun hlen0_4=>?_)
 refine ent_lenP 0 5 rfl rfl (fun hlen0_5=>?_)
 refine esk rfl ?_
 refine esr rfl fun _ K2=>?_
 refine A_A rfl (A_S (Neg_ok f y ‹_›) rfl) ?_
 refine A_A rfl (A_S (Add_ok f x (negF f y) ‹_›) rfl) ?_
 refine emm rfl ?_
 refine enk K2 ?_
 refine A_R ?_
 exact retR1 (.inr rfl) results48 (A_H (A_T rfl (A_a rfl)))

theorem minus_ok (c:Cod) (x j a:Int) (hk:COk c) (hx:c.F.q^(dua c).Gen.length<=65536) (x0:0<=x) (x1:x<=1000000) (j0:0<=j) (j1:j<c.N):Ctr Tryz.prog 44 [aSp c,aInt x,aInt j,aInt a] (aInt (minV c x j a)):=by
 have hqb:=hk.fld.1.bd
 have hdd:=hk.dim_dua
 have hn64:=hk.n64
 have hq2:=hk.q2
 have ltn:=length_turnL (dua c).Gen c.N
 have ldc:=dcol_len c j0 j1
 have ldc2:(ix [] (turnL (dua c).Gen c.N) j).length=(dua c).Gen.length:=ldc
 have hG:∀i:Int,0<=i->i<((dua c).Gen.length:Int)->0<=(fun zz=>addF c.F (dig c.F.q (dua c).Gen.length x zz) (negF c.F (mulF c.F a (ix 0 (dcol c j) zz)))) i/\(fun zz=>addF c.F (dig c.F.q (dua c).Gen.length x zz) (negF c.F (mulF c.F a (ix 0 (dcol c j) zz)))) i<c.F.q:=fun i _ _=>hk.fld.1.addF_lt _ _
 refine A_p Tryz.call44 func44 rfl rfl ?_
 intro w O
 refine ent_lenP 0 5 rfl rfl (fun hlen0_5=>?_)
 refine esk rfl ?_
 refine esk rfl ?_
 refine A_C fun _ K3=>?_
 refine esr rfl fun _ K4=>?_
 refine A_A rfl (A_q rfl) ?_
 refine A_A rfl (A_f runUnderlying70 rfl sizeOf3 rfl rfl) ?_
 refine A_A rfl (A_V ti3 rfl) ?_
 refine A_A rfl (ok_sub rfl rfl (by omega) (by omega)) ?_
 refine emm rfl ?_
 refine enk K4 ?_
 refine A_K ?_
 refine A_g (fun (i:Int)=>(⟨[(0,aSp c),(1,aInt (x/c.F.q^(((dua c).Gen.length:Int)-1-i).toNat)),(2,aInt j),(3,aInt a),(9,aInt (sufV c.F.q (fun zz=>addF c.F (dig c.F.q (dua c).Gen.length x zz) (negF c.F (mulF c.F a (ix 0 (dcol c j) zz)))) ((dua c).Gen.length:Int) i)),(10,aInt (c.F.q^(((dua c).Gen.length:Int)-1-i).toNat)),(11,aInt i)],[]⟩:St)) (fun (i:Int)=>(-1<=i)/\(i<((dua c).Gen.length:Int))) (fun (i:Int)=>(i+1).toNat) (((dua c).Gen.length:Int)-1) ⟨(by omega),(by omega)⟩ (A_I ⟨rfl,A_W (A_i (show x=x/c.F.q^(((dua c).Gen.length:Int)-1-(((dua c).Gen.length:Int)-1)).toNat by simp)),rfl,rfl,A_W (A_i (show 0=sufV c.F.q (fun zz=>addF c.F (dig c.F.q (dua c).Gen.length x zz) (negF c.F (mulF c.F a (ix 0 (dcol c j) zz)))) ((dua c).Gen.length:Int) (((dua c).Gen.length:Int)-1) by exact (sufV_top _ _ _).symm)),A_W (A_i (show 1=c.F.q^(((dua c).Gen.length:Int)-1-(((dua c).Gen.length:Int)-1)).toNat by simp)),rfl,trivial⟩ rfl) ?_
 rintro i ⟨i0,i1⟩
 show Ent _ ⟨_,[]⟩ _
 have hsb:=sufV_bd hq2 hG i0
 have hp1:=pow_pos_of c.F.q hq2 (((dua c).Gen.length:Int)-1-i).toNat
 have hcu:0<=x/c.F.q^(((dua c).Gen.length:Int)-1-i).toNat/\x/c.F.q^(((dua c).Gen.length:Int)-1-i).toNat<=x:=⟨Int.ediv_nonneg x0 (by omega),Int.ediv_le_self _ x0⟩
 refine A_C fun _ K5=>?_
 refine esr rfl fun _ K6=>?_
 refine A_A rfl (ok_geq rfl rfl) ?_
 refine enk K6 ?_
 refine A_E rfl (fun h18=>?_) (fun h18=>?_)
 ·have hgi:=hG i h18 i1
  have hgi2:=hk.fld.1.addF_lt (x/c.F.q^(((dua c).Gen.length:Int)-1-i).toNat%c.F.q) (negF c.F (mulF c.F a (ix 0 (ix [] (turnL (dua c).Gen c.N) j) i)))
  have hpm:=pow_mono_of c.F.q hq2 (show (((dua c).Gen.length:Int)-1-i).toNat<=(dua c).Gen.length by omega)
  have hmm:0<=c.F.q^(((dua c).Gen.length:Int)-1-i).toNat*addF c.F (x/c.F.q^(((dua c).Gen.length:Int)-1-i).toNat%c.F.q) (negF c.F (mulF c.F a (ix 0 (ix [] (turnL (dua c).Gen c.N) j) i)))/\c.F.q^(((dua c).Gen.length:Int)-1-i).toNat*addF c.F (x/c.F.q^(((dua c).Gen.length:Int)-1-i).toNat%c.F.q) (negF c.F (mulF c.F a (ix 0 (ix [] (turnL (dua c).Gen c.N) j) i)))<=65536*256:=⟨Int.mul_nonneg (by omega) hgi2.1,Int.mul_le_mul (by omega) (by omega) hgi2.1 (by decide)⟩
  have hmq:0<=c.F.q^(((dua c).Gen.length:Int)-1-i).toNat*c.F.q/\c.F.q^(((dua c).Gen.length:Int)-1-i).toNat*c.F.q<=65536*256:=⟨Int.mul_nonneg (by omega) (by omega),Int.mul_le_mul (by omega) (by omega) (by omega) (by decide)⟩
  refine esp K5 ?_
  refine A_C fun _ K7=>?_
  refine A_K ?_
  refine A_C fun _ K8=>?_
  refine A_t 32 mixed (by kernel_rfl) (drawQ_F (by kernel_rfl)) (by kernel_rfl) ?_
  refine dw_o rfl (A_J rfl) ?_
  refine dw_o rfl (A_J rfl) ?_
  refine dw_o rfl (A_J rfl) ?_
  refine dw_o rfl (A_q rfl) ?_
  refine dw_o rfl (A_f runUnderlying70 rfl sizeOf68 rfl rfl) ?_
  refine dw_o rfl (A_V ti68 rfl) ?_
  refine dw_o rfl (A_J rfl) ?_
  refine dw_o rfl (A_J rfl) ?_
  refine dw_o rfl (A_q rfl) ?_
  refine dw_o rfl (A_f runUnderlying70 rfl sizeOf3 rfl rfl) ?_
  refine dw_o rfl (A_V ti3 rfl) ?_
  refine dw_o rfl (ok_rem rfl rfl (by omega) (by omega)) ?_
  refine dw_o rfl (A_J rfl) ?_
  refine dw_o rfl (A_q rfl) ?_
  refine dw_o rfl (A_f runUnderlying70 rfl sizeOf68 rfl rfl) ?_
  refine dw_o rfl (A_V ti68 rfl) ?_
  refine dw_o rfl (A_J rfl) ?_
  refine dw_o rfl (A_J rfl) ?_
  refine dw_o rfl (A_q rfl) ?_
  refine dw_o rfl (A_f runUnderlying70 rfl sizeOf25 rfl rfl) ?_
  refine dw_o rfl (A_V ti25 rfl) ?_
  refine dw_o rfl (A_J rfl) ?_
  refine dw_o rfl (A_d [] sl25 rfl rfl (by omega) (by omega)) ?_
  refine dw_o rfl (A_V ti22 rfl) ?_
  refine dw_o rfl (A_J rfl) ?_
  refine dw_o rfl (A_d 0 sl22 rfl rfl (by omega) (by omega)) ?_
  refine dw_o rfl (A_V ti3 rfl) ?_
  refine dw_o rfl (A_S (Mul_ok c.F a (ix 0 (ix [] (turnL (dua c).Gen c.N) j) i) hk.fld) rfl) ?_
  refine dw_o rfl (A_S (Sub_ok c.F ((x/c.F.q^(((dua c).Gen.length:Int)-1-i).toNat)%c.F.q) (mulF c.F a (ix 0 (ix [] (turnL (dua c).Gen c.N) j) i)) hk.fld) rfl) ?_
  refine dw_o rfl (ok_mul rfl rfl (by omega) (by omega)) ?_
  refine dw_o rfl (A_m rfl rfl (by omega) (by omega)) ?_
  refine dw_o rfl (ok_assign rfl) ?_
  refine dw_nil ?_
  refine enk K8 ?_
  refine esr rfl fun _ K9=>?_
  refine A_A rfl (A_q rfl) ?_
  refine A_A rfl (A_f runUnderlying70 rfl sizeOf3 rfl rfl) ?_
  refine A_A rfl (A_V ti3 rfl) ?_
  refine A_A rfl (ok_quo rfl rfl (by omega) (by omega) (by omega)) ?_
  refine emm rfl ?_
  refine enk K9 ?_
  refine A_D ?_
  refine emm rfl ?_
  refine A_A rfl (A_q rfl) ?_
  refine A_A rfl (A_f runUnderlying70 rfl sizeOf3 rfl rfl) ?_
  refine A_A rfl (A_V ti3 rfl) ?_
  refine A_A rfl (ok_mul rfl rfl (by omega) (by omega)) ?_
  refine emm rfl ?_
  refine enk K7 ?_
  refine A_D ?_
  refine emm rfl ?_
  refine A_A rfl (ok_sub rfl rfl (by omega) (by omega)) ?_
  refine emm rfl ?_
  refine A_O ?_
  refine A_X (s:=(i)) (i-1) ⟨(by omega),(by omega)⟩ (by omega) (A_I ⟨rfl,A_W (A_i (show (x/c.F.q^(((dua c).Gen.length:Int)-1-i).toNat)/c.F.q=x/c.F.q^(((dua c).Gen.length:Int)-1-(i-1)).toNat by exact cur_step (by omega) h18 i1)),rfl,rfl,A_W (A_i (show (sufV c.F.q (fun zz=>addF c.F (dig c.F.q (dua c).Gen.length x zz) (negF c.F (mulF c.F a (ix 0 (dcol c j) zz)))) ((dua c).Gen.length:Int) i)+((c.F.q^(((dua c).Gen.length:Int)-1-i).toNat)*(addF c.F ((x/c.F.q^(((dua c).Gen.length:Int)-1-i).toNat)%c.F.q) (negF c.F (mulF c.F a (ix 0 (ix [] (turnL (dua c).Gen c.N) j) i)))))=sufV c.F.q (fun zz=>addF c.F (dig c.F.q (dua c).Gen.length x zz) (negF c.F (mulF c.F a (ix 0 (dcol c j) zz)))) ((dua c).Gen.length:Int) (i-1) by exact (sufV_step _ _ h18 i1).symm)),A_W (A_i (show (c.F.q^(((dua c).Gen.length:Int)-1-i).toNat)*c.F.q=c.F.q^(((dua c).Gen.length:Int)-1-(i-1)).toNat by exact (pow_step _ h18 i1).symm)),rfl,trivial⟩ rfl)
 refine A_e ?_
 refine A_s K3 ?_
 refine esk rfl ?_
 refine A_R ?_
 exact retR1 (.inr rfl) results44 (A_H (A_T rfl (A_a (by exact sufV_all _ _ _ (by omega)))))

theorem rStep_ok (f:Fld) (h:List Int) (s a:Int) (hS:Shape f) (s0:0<=s) (s1:s<=1000000) (hl:h.length<=64) (hx:f.q^h.length<=65536):Ctr Tryz.prog 41 [aFld f,aSl 1 false aInt h,aInt s,aInt a] (aInt (stpV f h s a)):=by
 have hqb:=hS.bd
 refine A_p Tryz.call41 func41 rfl rfl ?_
 intro w O
 refine A_Y 0 2 rfl rfl (fun hlen0_2=>?_)
 refine A_x 1 rfl (fun hlen1=>?_)
 refine esr rfl fun _ K1=>?_
 refine A_h rfl rfl (AllOne.mem ⟨(A_F _),(A_F _),A_c,trivial⟩) (fun b4_1=>?_)
 refine emm rfl ?_
 refine enk K1 ?_
 refine esr rfl fun _ K2=>?_
 refine A_A rfl (A_P (k:=0) ti24 rfl rfl rfl) ?_
 refine A_A rfl (A_S (rOrder_ok f) rfl) ?_
 refine emm rfl ?_
 refine enk K2 ?_
 refine esr rfl fun _ K3=>?_
 refine A_A rfl (A_z rfl runUnderlying22 rfl) ?_
 refine ent_make aInt 0 rfl vt22 rfl rfl (by omega) (by omega) (by omega) (fun _ _=>rfl) (AllV.mem ⟨rfl,trivial⟩) (fun b16_2=>?_)
 refine emm rfl ?_
 refine enk K3 ?_
 refine A_C fun _ K4=>?_
 refine esr rfl fun _ K5=>?_
 refine A_A rfl (A_z rfl runUnderlying22 rfl) ?_
 refine A_A rfl (ok_sub rfl rfl (by omega) (by omega)) ?_
 refine emm rfl ?_
 refine enk K5 ?_
 refine A_K ?_
 refine A_g (fun (i:Int)=>(⟨[(1,aSl 1 false aInt h),(2,aInt (s/f.q^((h.length:Int)-1-i).toNat)),(3,aInt a),(4,aEx (.pointer (some ⟨b4_1,0,none⟩))),(9,aInt f.q),(10,aEx (vec (some b16_2) (((↑h.length:Int)).toNat) (((↑h.length:Int)).toNat))),(11,aInt i)],[oVec (some b16_2) (((↑h.length:Int)).toNat) 3 1 false aInt (sufL (fun zz=>addF f (dig f.q h.length s zz) (mulF f a (ix 0 h zz))) h.length i),oBox b4_1 24 [aInt f.P,aInt f.M,aSl 1 false aInt f.mod]]⟩:St)) (fun (i:Int)=>(-1<=i)/\(i<h.length)) (fun (i:Int)=>(i+1).toNat) ((↑h.length:Int)-1) ⟨(by omega),(by omega)⟩ (A_I ⟨rfl,A_W (A_i (show s=s/f.q^((h.length:Int)-1-((↑h.length:Int)-1)).toNat by simp)),rfl,rfl,rfl,rfl,rfl,trivial⟩ (A_N (A_n (show sufL (fun zz=>addF f (dig f.q h.length s zz) (mulF f a (ix 0 h zz))) h.length ((↑h.length:Int)-1)=List.replicate (((↑h.length:Int)).toNat) 0 by exact (sufL_top _ _).symm)) (rfl))) ?_
 rintro i ⟨i0,i1⟩
 show Ent _ ⟨_,[_,_]⟩ _
 have lsl:=length_sufL (fun zz=>addF f (dig f.q h.length s zz) (mulF f a (ix 0 h zz))) h.length i
 have hp1:=pow_pos_of f.q (by omega) ((h.length:Int)-1-i).toNat
 have hcu:0<=s/f.q^((h.length:Int)-1-i).toNat/\s/f.q^((h.length:Int)-1-i).toNat<=s:=⟨Int.ediv_nonneg s0 (by omega),Int.ediv_le_self _ s0⟩
 refine A_C fun _ K6=>?_
 refine esr rfl fun _ K7=>?_
 refine A_A rfl (ok_geq rfl rfl) ?_
 refine enk K7 ?_
 refine A_E rfl (fun h21=>?_) (fun h21=>?_)
 ·refine esp K6 ?_
  refine A_C fun _ K8=>?_
  refine A_K ?_
  refine A_C fun _ K9=>?_
  refine A_t 15 mixed (by kernel_rfl) (by kernel_rfl) (by kernel_rfl) ?_
  refine dw_o rfl (A_J rfl) ?_
  refine dw_o rfl (A_J rfl) ?_
  refine dw_o rfl (A_P (k:=1) ti24 rfl rfl rfl) ?_
  refine dw_o rfl (A_J rfl) ?_
  refine dw_o rfl (A_J rfl) ?_
  refine dw_o rfl (ok_rem rfl rfl (by omega) (by omega)) ?_
  refine dw_o rfl (A_P (k:=1) ti24 rfl rfl rfl) ?_
  refine dw_o rfl (A_J rfl) ?_
  refine dw_o rfl (A_J rfl) ?_
  refine dw_o rfl (A_J rfl) ?_
  refine dw_o rfl (A_d 0 sl22 rfl rfl (by omega) (by omega)) ?_
  refine dw_o rfl (A_V ti3 rfl) ?_
  refine dw_o rfl (A_S (rMul_ok f a (ix 0 h i) ‹_›) rfl) ?_
  refine dw_o rfl (A_S (rAdd_ok f ((s/f.q^((h.length:Int)-1-i).toNat)%f.q) (mulF f a (ix 0 h i)) ‹_›) rfl) ?_
  refine dw_o rfl (A_k sl22 rfl rfl (by omega) (by omega)) ?_
  refine dw_nil ?_
  refine ent_storeV (k:=0) (z:=addF f ((s/f.q^((h.length:Int)-1-i).toNat)%f.q) (mulF f a (ix 0 h i))) ti3 rfl rfl rfl (A_u (A_F _)) (by omega) (by omega) ?_
  refine enk K9 ?_
  refine A_D ?_
  refine emm rfl ?_
  refine A_A rfl (ok_quo rfl rfl (by omega) (by omega) (by omega)) ?_
  refine emm rfl ?_
  refine enk K8 ?_
  refine A_D ?_
  refine emm rfl ?_
  refine A_A rfl (ok_sub rfl rfl (by omega) (by omega)) ?_
  refine emm rfl ?_
  refine A_O ?_
  refine A_X (s:=(i)) (i-1) ⟨(by omega),(by omega)⟩ (by omega) (A_I ⟨rfl,A_W (A_i (show (s/f.q^((h.length:Int)-1-i).toNat)/f.q=s/f.q^((h.length:Int)-1-(i-1)).toNat by exact cur_step (by omega) h21 i1)),rfl,rfl,rfl,rfl,rfl,trivial⟩ (A_N (A_n (show sufL (fun zz=>addF f (dig f.q h.length s zz) (mulF f a (ix 0 h zz))) h.length (i-1)=List.set (sufL (fun zz=>addF f (dig f.q h.length s zz) (mulF f a (ix 0 h zz))) h.length i) (i).toNat (addF f ((s/f.q^((h.length:Int)-1-i).toNat)%f.q) (mulF f a (ix 0 h i))) by exact (sufL_set _ h21 i1).symm)) (rfl)))
 refine A_e ?_
 refine A_s K4 ?_
 refine A_C fun _ K10=>?_
 have hsa:=sufL_all (fun zz=>addF f (dig f.q h.length s zz) (mulF f a (ix 0 h zz))) (h.length:Int) (i:=i) (by omega)
 rw [hsa]
 refine ent_give 0 10 rfl (cv_vec (k:=0) (off_erase rfl) (by simp) rfl) ?_
 refine A_D ?_
 refine A_A rfl (A_P (k:=0) ti24 rfl rfl rfl) ?_
 refine emm rfl ?_
 refine A_A rfl (A_S (rNumber_ok f (mapR (fun zz=>addF f (dig f.q h.length s zz) (mulF f a (ix 0 h zz))) h.length) hS (outF_mapR fun _ _ _=>hS.addF_lt _ _) (by rw [A_j];exact hx)) rfl) ?_
 refine emm rfl ?_
 refine enk K10 ?_
 refine A_R ?_
 exact retR1 (.inr rfl) results41 (A_H (A_T rfl (A_a rfl)))

theorem rCols_ok (c:Cod) (hk:COk c):Ctr Tryz.prog 39 [aCod c] (aSl 1 false aInts (turnL (dua c).Gen c.N)):=by
 have hdd:=hk.dim_dua
 have hn64:=hk.n64
 have hn1:=hk.n1
 refine A_p Tryz.call39 func39 rfl rfl ?_
 intro w O
 refine A_Y 0 2 rfl rfl (fun hlen0_2=>?_)
 refine A_Y 0 4 rfl rfl (fun hlen0_4=>?_)
 refine esr rfl fun _ K1=>?_
 refine A_h rfl rfl (AllOne.mem ⟨(A_F _),(A_F _),A_c,(A_F _),A_c,trivial⟩) (fun b1_1=>?_)
 refine emm rfl ?_
 refine enk K1 ?_
 refine A_C fun _ K2=>?_
 refine A_t 6 mixed (by kernel_rfl) (by kernel_rfl) (by kernel_rfl) ?_
 refine dw_o rfl (A_P (k:=0) ti27 rfl rfl rfl) ?_
 refine dw_o rfl (A_S (rParity_ok c hk) rfl) ?_
 refine dw_o rfl (A_B runUnderlying27 rfl sizeOf3 (by decide) rfl) ?_
 refine dw_o rfl (A_L (k:=0) isAgg3 rfl rfl rfl) ?_
 refine dw_o rfl (A_S (rTurn_ok ((dua c).Gen) c.N (by omega) (by omega) (fun i i0 i1=>hk.dua.row i0 i1) (by omega)) rfl) ?_
 refine dw_o rfl (ok_assign rfl) ?_
 refine dw_nil ?_
 refine enk K2 ?_
 refine A_R ?_
 exact retR1 (.inr rfl) results39 (A_H (A_T rfl (cv_sl sub_x rfl)))
end Go.Proofs.YtcilbmggiahciaaGreat

