/-
  The step of the machine.
-/
import Derived.Test.YtfjhbdfgbpcchaaProg
import Derived.Test.YtfjhbdfgbpcchaaTab
import Derived.Test.YtfjhbdfgbpcchaaCy
import Derived.Test.YtfjhbdfgbpcchaaPlainO
import Derived.Test.YtfjhbdfgbpcchaaFieldA
import Derived.Test.YtfjhbdfgbpcchaaFieldB
import Derived.Test.YtfjhbdfgbpcchaaFieldC
import Derived.Test.YtfjhbdfgbpcchaaFieldE
import Derived.Test.YtfjhbdfgbpcchaaPoly
import Derived.Test.YtfjhbdfgbpcchaaBuild
import Derived.Test.YtfjhbdfgbpcchaaRefC
open Go Go.Cw
namespace Go.Proofs.Ytfjhbdfgbpcchaa
set_option maxRecDepth 100000
set_option linter.unusedVariables false
set_option linter.unusedSimpArgs false
theorem coefficient_ok (p : List Int) (d : Int) (h0 : 0 ≤ d) : Ctr Try.prog 103 [aSl 1 false aInt p, aInt d] (aInt (ix 0 p d)) := by
  refine ctr_of Try.call103 Try.func103 rfl rfl ?_
  intro w O
  refine ent_len 0 rfl (fun hlen0 => ?_)
  refine ent_seq fun K1 hK1 => ?_
  refine ent_region ?_
  refine ent_o rfl (ok_assign rfl) ?_
  refine ent_nil ?_
  refine ent_k hK1 ?_
  refine ent_seq fun K2 hK2 => ?_
  refine ent_seq fun K3 hK3 => ?_
  refine ent_region ?_
  refine ent_o rfl (ok_move rfl) ?_
  refine ent_o rfl (ok_move rfl) ?_
  refine ent_o rfl (ok_len rfl Try.runUnderlying22 rfl) ?_
  refine ent_o rfl (ok_lss rfl rfl) ?_
  refine ent_nil ?_
  refine ent_k hK3 ?_
  refine ent_condD rfl (fun h8 => ?_) (fun h8 => ?_)
  · refine ent_seq fun K4 hK4 => ?_
    refine ent_region ?_
    refine ent_o rfl (ok_move rfl) ?_
    refine ent_o rfl (ok_move rfl) ?_
    refine ent_o rfl (ok_index 0 sl22 rfl rfl (by omega) (by omega)) ?_
    refine ent_o rfl (ok_load ti3 rfl) ?_
    refine ent_o rfl (ok_assign rfl) ?_
    refine ent_nil ?_
    refine ent_k hK4 ?_
    refine ent_ret ?_
    exact retR1 (.inr rfl) Try.results103 (resr_tmp (res_cv rfl (cv_int (by rfl))))
  · refine ent_skip ?_
    refine ent_k hK2 ?_
    refine ent_seq fun K5 hK5 => ?_
    refine ent_region ?_
    refine ent_o rfl (ok_assign rfl) ?_
    refine ent_nil ?_
    refine ent_k hK5 ?_
    refine ent_ret ?_
    exact retR1 (.inr rfl) Try.results103 (resr_tmp (res_cv rfl (cv_int (by unfold ix; simp [List.getD]; rw [List.getElem?_eq_none (by omega)]; rfl))))

theorem step_ok (c : Cnv) (s : Int) (inn : List Int) (hFew : c.Few) (hOk : c.Ok) (hs0 : 0 ≤ s) (hs1 : s < c.states) (hg : c.GoodIn inn) : CtrF Try.prog 64 [aMach c, aInt s, aSl 1 false aInt inn] (aTup [aInt (c.nxt s inn c.Gen.length), aSl 1 false aInt (c.outL s inn)]) := by
  have hF := hOk.fld
  have hS := hF.1
  have hq := hS.bd
  have hst := Cnv.states_le hq.2.2.2.2.2.1 hOk.small
  have hkn := hOk.kn
  have hnl := hOk.len
  have hil := hg.1
  have hik : c.k = (c.Gen.length : Int) := rfl
  have hen : c.n = ((ix [] c.Gen 0).length : Int) := rfl
  refine ctrF_of Try.call64 Try.func64 rfl rfl ?_
  intro w O
  refine ent_lenP 0 1 rfl rfl (fun hlen0_1 => ?_)
  refine ent_lenP 0 4 rfl rfl (fun hlen0_4 => ?_)
  refine ent_lenP 0 8 rfl rfl (fun hlen0_8 => ?_)
  refine ent_len 2 rfl (fun hlen2 => ?_)
  refine ent_seq fun K1 hK1 => ?_
  refine ent_region ?_
  refine ent_o rfl (ok_assign rfl) ?_
  refine ent_o rfl (ok_assign rfl) ?_
  refine ent_nil ?_
  refine ent_k hK1 ?_
  refine ent_seq fun K2 hK2 => ?_
  refine ent_lin [5, 0, 1, 2, 3, 4, 6] mixed (by kernel_rfl) (by kernel_rfl) (by kernel_rfl) (fun _ _ _ _ _ h => h) ?_
  refine ent_o rfl (ok_assign rfl) ?_
  refine ent_o rfl (ok_move rfl) ?_
  refine ent_o rfl (ok_nilCheck rfl) ?_
  refine ent_o rfl (ok_fieldAddr1 Try.runUnderlying84 rfl Try.sizeOf3 rfl rfl) ?_
  refine ent_o rfl (ok_load ti3 rfl) ?_
  refine ent_make aInt 0 rfl vt22 rfl rfl (by omega) (by omega) (by omega) (fun _ _ => rfl) (AllV.mem ⟨rfl, trivial⟩) (fun b20_1 => ?_)
  refine ent_o rfl (ok_assign rfl) ?_
  refine ent_nil ?_
  refine ent_k hK2 ?_
  refine ent_seq fun K3 hK3 => ?_
  refine ent_seq fun K4 hK4 => ?_
  refine ent_region ?_
  refine ent_o rfl (ok_move rfl) ?_
  refine ent_o rfl (ok_len rfl Try.runUnderlying22 rfl) ?_
  refine ent_o rfl (ok_move rfl) ?_
  refine ent_nil ?_
  refine ent_k hK4 ?_
  refine ent_block ?_
  refine ent_loop (fun (i : Int) => (⟨[(0, aMach c), (1, aInt s), (8, aInt (c.nxt s inn i.toNat)), (9, aEx (vec (some b20_1) ((c.n).toNat) ((c.n).toNat))), (21, aSl 1 false aInt inn), (22, aInt (↑inn.length : Int)), (23, aInt i)], [oVec (some b20_1) ((c.n).toNat) 3 1 false aInt (mapR (fun j => c.outTo s inn j i.toNat) c.n)]⟩ : St)) (fun (i : Int) => (0 ≤ i) ∧ (i ≤ inn.length)) (fun (i : Int) => (inn.length - i).toNat) 0 ⟨(by first | rfl | assumption | omega | (simp_all; done) | grind), (by first | rfl | assumption | omega | (simp_all; done) | grind)⟩ (ent_rep ⟨rfl, rfl, slot_av (av_int (show 0 = c.nxt s inn (0 : Int).toNat by rfl)), rfl, rfl, rfl, slot_av (av_int (show 0 = (0 : Int) by first | rfl | assumption | omega | (simp_all; done) | grind)), trivial⟩ (own_cons (own_vec (show mapR (fun j => c.outTo s inn j (0 : Int).toNat) c.n = List.replicate ((c.n).toNat) 0 by exact mapR_const 0 c.n)) (rfl))) ?_
  rintro i ⟨h0, h1⟩
  show Ent _ (⟨[(0, aMach c), (1, aInt s), (8, aInt (c.nxt s inn i.toNat)), (9, aEx (vec (some b20_1) ((c.n).toNat) ((c.n).toNat))), (21, aSl 1 false aInt inn), (22, aInt (↑inn.length : Int)), (23, aInt i)], [oVec (some b20_1) ((c.n).toNat) 3 1 false aInt (mapR (fun j => c.outTo s inn j i.toNat) c.n)]⟩ : St) _
  refine ent_seq fun K5 hK5 => ?_
  refine ent_region ?_
  refine ent_o rfl (ok_lss rfl rfl) ?_
  refine ent_nil ?_
  refine ent_k hK5 ?_
  refine ent_seq fun K6 hK6 => ?_
  refine ent_condD rfl (fun h24 => ?_) (fun h24 => ?_)
  · have hdg := c.ix_degs h0 (show i < c.Gen.length by omega)
    have hfi := c.ix_fsts h0 (show i < c.Gen.length by omega)
    have hfp := c.fst_pos hq.2.2.2.2.2.1 i
    have hdeg40 := hFew.deg_le i h0 (by omega)
    have lfs : c.fsts.length = c.k.toNat := length_mapR _ _
    have lds : c.degs.length = c.k.toNat := length_mapR _ _
    have lcn : c.canon.length = c.Gen.length := by unfold Cnv.canon; simp
    have hfst1 := Cnv.fst_part hq.2.2.2.2.2.1 hOk.small h0 (show i < c.Gen.length by omega) (d := 0) (by omega) (c.deg_nonneg i)
    rw [show c.fst i * c.F.q ^ (0 : Int).toNat = c.fst i by simp] at hfst1
    refine ent_skip ?_
    refine ent_k hK6 ?_
    refine ent_seq fun K7 hK7 => ?_
    refine ent_block ?_
    refine ent_seq fun K8 hK8 => ?_
    refine ent_region ?_
    refine ent_o rfl (ok_move rfl) ?_
    refine ent_o rfl (ok_index 0 sl22 rfl rfl (by omega) (by omega)) ?_
    refine ent_o rfl (ok_load ti3 rfl) ?_
    refine ent_o rfl (ok_assign rfl) ?_
    refine ent_o rfl (ok_assign rfl) ?_
    refine ent_nil ?_
    refine ent_k hK8 ?_
    refine ent_seq fun K9 hK9 => ?_
    refine ent_draw 18 mixed (by kernel_rfl) (by kernel_rfl) (by kernel_rfl) ?_
    refine dw_o rfl (ok_move rfl) ?_
    refine dw_o rfl (ok_nilCheck rfl) ?_
    refine dw_o rfl (ok_fieldAddr1 Try.runUnderlying84 rfl Try.sizeOf22 rfl rfl) ?_
    refine dw_o rfl (ok_load ti22 rfl) ?_
    refine dw_o rfl (ok_move rfl) ?_
    refine dw_o rfl (ok_index 0 sl22 rfl rfl (by omega) (by omega)) ?_
    refine dw_o rfl (ok_load ti3 rfl) ?_
    refine dw_o rfl (ok_move rfl) ?_
    refine dw_o rfl (ok_move rfl) ?_
    refine dw_o rfl (ok_nilCheck rfl) ?_
    refine dw_o rfl (ok_fieldAddr1 Try.runUnderlying84 rfl Try.sizeOf22 rfl rfl) ?_
    refine dw_o rfl (ok_load ti22 rfl) ?_
    refine dw_o rfl (ok_move rfl) ?_
    refine dw_o rfl (ok_index 0 sl22 rfl rfl (by omega) (by omega)) ?_
    refine dw_o rfl (ok_load ti3 rfl) ?_
    refine dw_o rfl (ok_quo rfl rfl (by omega) (by omega) (by omega)) ?_
    refine dw_o rfl (ok_assign rfl) ?_
    refine dw_o rfl (ok_assign rfl) ?_
    refine dw_nil ?_
    refine ent_nil ?_
    refine ent_k hK9 ?_
    refine ent_seq fun K10 hK10 => ?_
    refine ent_region ?_
    refine ent_o rfl (ok_assign rfl) ?_
    refine ent_nil ?_
    refine ent_k hK10 ?_
    refine ent_block ?_
    refine ent_loop (fun (ss : Int × Int × Int × Int) => match ss with | (d, x, pl, v) => (⟨[(0, aMach c), (1, aInt s), (8, aInt (c.nxt s inn i.toNat + c.nxE s inn i (min d (c.deg i)).toNat)), (9, aEx (vec (some b20_1) ((c.n).toNat) ((c.n).toNat))), (10, aInt i), (11, aInt x), (12, aInt pl), (13, aInt v), (14, aInt d), (21, aSl 1 false aInt inn), (22, aInt (↑inn.length : Int)), (23, aInt i)], [oVec (some b20_1) ((c.n).toNat) 3 1 false aInt (mapR (c.acc s inn i d) c.n)]⟩ : St)) (fun (ss : Int × Int × Int × Int) => match ss with | (d, x, pl, v) => (0 ≤ d) ∧ (d ≤ c.deg i + 1) ∧ (d ≤ c.deg i → x = ix 0 (c.line s inn i) d) ∧ (d ≤ c.deg i → pl = c.fst i * c.F.q ^ d.toNat) ∧ (d ≤ c.deg i → v = s / c.fst i / c.F.q ^ d.toNat)) (fun (ss : Int × Int × Int × Int) => match ss with | (d, x, pl, v) => (c.deg i + 1 - d).toNat) (0, ix 0 inn i, ix 0 c.fsts i, s / (ix 0 c.fsts i)) ⟨(by first | rfl | assumption | omega | (simp_all; done) | grind), (by have := c.deg_nonneg i; omega), (fun _ => rfl), (fun _ => by rw [hfi]; simp), (fun _ => by rw [hfi]; simp)⟩ (ent_rep ⟨rfl, rfl, slot_av (av_int (show c.nxt s inn i.toNat = c.nxt s inn i.toNat + c.nxE s inn i (min (0 : Int) (c.deg i)).toNat by rw [show (min 0 (c.deg i)).toNat = 0 by omega]; simp [Cnv.nxE])), rfl, rfl, rfl, rfl, rfl, slot_av (av_int (show 0 = (0 : Int) by first | rfl | assumption | omega | (simp_all; done) | grind)), rfl, rfl, rfl, trivial⟩ (own_cons (own_vec (show mapR (c.acc s inn i (0 : Int)) c.n = mapR (fun j => c.outTo s inn j i.toNat) c.n by rfl)) (rfl))) ?_
    rintro ⟨d, x, pl, v⟩ ⟨d0, d1, hx, hp, hv⟩
    show Ent _ (⟨[(0, aMach c), (1, aInt s), (8, aInt (c.nxt s inn i.toNat + c.nxE s inn i (min d (c.deg i)).toNat)), (9, aEx (vec (some b20_1) ((c.n).toNat) ((c.n).toNat))), (10, aInt i), (11, aInt x), (12, aInt pl), (13, aInt v), (14, aInt d), (21, aSl 1 false aInt inn), (22, aInt (↑inn.length : Int)), (23, aInt i)], [oVec (some b20_1) ((c.n).toNat) 3 1 false aInt (mapR (c.acc s inn i d) c.n)]⟩ : St) _
    have lm0 : (mapR (c.acc s inn i d) c.n).length = c.n.toNat := length_mapR _ _
    have lm1 : (mapR (c.acc s inn i (d + 1)) c.n).length = c.n.toNat := length_mapR _ _
    have hdn := c.deg_nonneg i
    refine ent_seq fun K11 hK11 => ?_
    refine ent_seq fun K12 hK12 => ?_
    refine ent_region ?_
    refine ent_o rfl (ok_move rfl) ?_
    refine ent_o rfl (ok_move rfl) ?_
    refine ent_o rfl (ok_nilCheck rfl) ?_
    refine ent_o rfl (ok_fieldAddr1 Try.runUnderlying84 rfl Try.sizeOf22 rfl rfl) ?_
    refine ent_o rfl (ok_load ti22 rfl) ?_
    refine ent_o rfl (ok_move rfl) ?_
    refine ent_o rfl (ok_index 0 sl22 rfl rfl (by omega) (by omega)) ?_
    refine ent_o rfl (ok_load ti3 rfl) ?_
    refine ent_o rfl (ok_leq rfl rfl) ?_
    refine ent_nil ?_
    refine ent_k hK12 ?_
    refine ent_condD rfl (fun h52 => ?_) (fun h52 => ?_)
    · have hfq := Cnv.fst_part hq.2.2.2.2.2.1 hOk.small h0 (show i < c.Gen.length by omega) d0 (show d ≤ c.deg i by omega)
      have hxe := hx (by omega)
      have hpe := hp (by omega)
      have hve := hv (by omega)
      have hxl := Cnv.line_lt (s := s) hq.2.2.2.2.2.1 hg h0 (show i < c.Gen.length by omega) d0 (show d ≤ c.deg i by omega)
      rw [← hxe] at hxl
      have hnl1 := Cnv.nxt_lt (s := s) hq.2.2.2.2.2.1 hg i.toNat (by omega)
      rw [show ((i.toNat : Nat) : Int) = i by omega] at hnl1
      have hnl2 := Cnv.nxE_lt (s := s) hq.2.2.2.2.2.1 hg h0 (show i < c.Gen.length by omega) hnl1.1 hnl1.2 (min d (c.deg i)).toNat (by omega)
      rw [show (min d (c.deg i)).toNat = d.toNat by omega] at hnl2
      have hsq := pow_succ_toNat c.F.q d d0
      have hmm : 0 ≤ x * pl ∧ x * pl ≤ 256 * 65536 := ⟨Int.mul_nonneg hxl.1 (by omega), Int.mul_le_mul (by omega) (by omega) (by omega) (by omega)⟩
      have hmq : 0 ≤ pl * c.F.q ∧ pl * c.F.q ≤ 65536 * 256 := ⟨Int.mul_nonneg (by omega) (by omega), Int.mul_le_mul (by omega) (by omega) (by omega) (by omega)⟩
      have hv0 : 0 ≤ v := by rw [hve]; exact Int.ediv_nonneg (Int.ediv_nonneg hs0 (by omega)) (Int.le_of_lt (Int.lt_of_lt_of_le Int.zero_lt_one (pow_pos_of c.F.q hq.2.2.2.2.2.1 d.toNat)))
      have hrow := hOk.row h0 (show i < c.Gen.length by omega)
      have hmd : (min d (c.deg i)).toNat = d.toNat := by omega
      have hme : c.nxE s inn i (min d (c.deg i)).toNat = c.nxE s inn i d.toNat := by rw [hmd]
      have hpw := pow_pos_of c.F.q hq.2.2.2.2.2.1 d.toNat
      have hvl : v ≤ 65536 := by rw [hve]; exact Int.le_trans (Int.ediv_le_self _ (Int.ediv_nonneg hs0 (by omega))) (Int.le_trans (Int.ediv_le_self _ hs0) (by omega))
      refine ent_skip ?_
      refine ent_k hK11 ?_
      refine ent_seq fun K13 hK13 => ?_
      refine ent_block ?_
      refine ent_seq fun K14 hK14 => ?_
      refine ent_seq fun K15 hK15 => ?_
      refine ent_region ?_
      refine ent_o rfl (ok_move rfl) ?_
      refine ent_o rfl (ok_neq rfl rfl) ?_
      refine ent_nil ?_
      refine ent_k hK15 ?_
      refine ent_condD rfl (fun h56 => ?_) (fun h56 => ?_)
      · refine ent_seq fun K16 hK16 => ?_
        refine ent_region ?_
        refine ent_o rfl (ok_move rfl) ?_
        refine ent_o rfl (ok_lenEx rfl Try.runUnderlying22 rfl) ?_
        refine ent_o rfl (ok_move rfl) ?_
        refine ent_nil ?_
        refine ent_k hK16 ?_
        refine ent_block ?_
        refine ent_loop (fun (j : Int) => (⟨[(0, aMach c), (1, aInt s), (8, aInt (c.nxt s inn i.toNat + c.nxE s inn i (min d (c.deg i)).toNat)), (9, aEx (vec (some b20_1) ((c.n).toNat) ((c.n).toNat))), (10, aInt i), (11, aInt x), (12, aInt pl), (13, aInt v), (14, aInt d), (21, aSl 1 false aInt inn), (22, aInt (↑inn.length : Int)), (23, aInt i), (58, aInt (↑((c.n).toNat) : Int)), (59, aInt j)], [oVec (some b20_1) ((c.n).toNat) 3 1 false aInt (mixL (mapR (c.acc s inn i (d + 1)) c.n) (mapR (c.acc s inn i d) c.n) j)]⟩ : St)) (fun (j : Int) => (0 ≤ j) ∧ (j ≤ c.n)) (fun (j : Int) => (c.n - j).toNat) 0 ⟨(by first | rfl | assumption | omega | (simp_all; done) | grind), (by first | rfl | assumption | omega | (simp_all; done) | grind)⟩ (ent_rep ⟨rfl, rfl, rfl, rfl, rfl, rfl, rfl, rfl, rfl, rfl, rfl, rfl, rfl, slot_av (av_int (show 0 = (0 : Int) by first | rfl | assumption | omega | (simp_all; done) | grind)), trivial⟩ (own_cons (own_vec (show mixL (mapR (c.acc s inn i (d + 1)) c.n) (mapR (c.acc s inn i d) c.n) (0 : Int) = mapR (c.acc s inn i d) c.n by exact mixL_zero _ _)) (rfl))) ?_
        rintro j ⟨j0, j1⟩
        show Ent _ (⟨[(0, aMach c), (1, aInt s), (8, aInt (c.nxt s inn i.toNat + c.nxE s inn i (min d (c.deg i)).toNat)), (9, aEx (vec (some b20_1) ((c.n).toNat) ((c.n).toNat))), (10, aInt i), (11, aInt x), (12, aInt pl), (13, aInt v), (14, aInt d), (21, aSl 1 false aInt inn), (22, aInt (↑inn.length : Int)), (23, aInt i), (58, aInt (↑((c.n).toNat) : Int)), (59, aInt j)], [oVec (some b20_1) ((c.n).toNat) 3 1 false aInt (mixL (mapR (c.acc s inn i (d + 1)) c.n) (mapR (c.acc s inn i d) c.n) j)]⟩ : St) _
        have lmx : (mixL (mapR (c.acc s inn i (d + 1)) c.n) (mapR (c.acc s inn i d) c.n) j).length = c.n.toNat := by rw [length_mixL _ _ (by omega)]; exact lm0
        refine ent_seq fun K17 hK17 => ?_
        refine ent_region ?_
        refine ent_o rfl (ok_lss rfl rfl) ?_
        refine ent_nil ?_
        refine ent_k hK17 ?_
        refine ent_seq fun K18 hK18 => ?_
        refine ent_condD rfl (fun h60 => ?_) (fun h60 => ?_)
        · have hmi : ix 0 (mixL (mapR (c.acc s inn i (d + 1)) c.n) (mapR (c.acc s inn i d) c.n) j) j = c.acc s inn i d j := by rw [ix_mixL _ _ j0 (by omega) (by omega)]; exact ix_mapR 0 _ j0 (by omega)
          have hce := c.coef_eq h0 (show i < c.Gen.length by omega) j0 (show j < (ix [] c.Gen i).length by omega) d
          have hval : addF c.F (ix 0 (mixL (mapR (c.acc s inn i (d + 1)) c.n) (mapR (c.acc s inn i d) c.n) j) j) (mulF c.F x (ix 0 (ix [] (ix [] c.canon i) j) d)) = ix 0 (mapR (c.acc s inn i (d + 1)) c.n) j := by rw [ix_mapR 0 _ j0 (by omega), c.acc_succ s inn i j d0, hmi, hce, hxe]
          have lcr : (ix [] c.canon i).length = (ix [] c.Gen i).length := by rw [c.ix_canon h0 (by omega)]; simp
          refine ent_skip ?_
          refine ent_k hK18 ?_
          refine ent_seq fun K19 hK19 => ?_
          refine ent_block ?_
          refine ent_seq fun K20 hK20 => ?_
          refine ent_region ?_
          refine ent_o rfl (ok_move rfl) ?_
          refine ent_o rfl (ok_assign rfl) ?_
          refine ent_nil ?_
          refine ent_k hK20 ?_
          refine ent_draw 30 mixed (by kernel_rfl) (by kernel_rfl) (by kernel_rfl) ?_
          refine dw_o rfl (ok_move rfl) ?_
          refine dw_o rfl (ok_move rfl) ?_
          refine dw_o rfl (ok_move rfl) ?_
          refine dw_o rfl (ok_nilCheck rfl) ?_
          refine dw_o rfl (ok_fieldAddr1 Try.runUnderlying84 rfl Try.sizeOf82 rfl rfl) ?_
          refine dw_o rfl (ok_load ti82 rfl) ?_
          refine dw_o rfl (ok_move rfl) ?_
          refine dw_o rfl (ok_move rfl) ?_
          refine dw_o rfl (ok_indexV sl22 rfl rfl (by omega) (by omega)) ?_
          refine dw_o rfl (ok_loadV (k := 0) 0 ti3 rfl rfl (by omega) (by omega)) ?_
          refine dw_o rfl (ok_move rfl) ?_
          refine dw_o rfl (ok_nilCheck rfl) ?_
          refine dw_o rfl (ok_fieldAddr1 Try.runUnderlying84 rfl Try.sizeOf82 rfl rfl) ?_
          refine dw_o rfl (ok_load ti82 rfl) ?_
          refine dw_o rfl (ok_move rfl) ?_
          refine dw_o rfl (ok_move rfl) ?_
          refine dw_o rfl (ok_nilCheck rfl) ?_
          refine dw_o rfl (ok_fieldAddr1 Try.runUnderlying84 rfl Try.sizeOf25 rfl rfl) ?_
          refine dw_o rfl (ok_load ti25 rfl) ?_
          refine dw_o rfl (ok_move rfl) ?_
          refine dw_o rfl (ok_index [] sl25 rfl rfl (by omega) (by omega)) ?_
          refine dw_o rfl (ok_load ti42 rfl) ?_
          refine dw_o rfl (ok_move rfl) ?_
          refine dw_o rfl (ok_index [] sl42 rfl rfl (by omega) (by omega)) ?_
          refine dw_o rfl (ok_load ti22 rfl) ?_
          refine dw_o rfl (ok_move rfl) ?_
          refine dw_o rfl (ok_call (coefficient_ok (ix [] (ix [] c.canon i) j) d (by first | rfl | assumption | omega | (simp_all; done) | grind)) rfl) ?_
          refine dw_o rfl (ok_call (Mul_ok c.F x (ix 0 (ix [] (ix [] c.canon i) j) d) (by first | rfl | assumption | omega | (simp_all; done) | grind)) rfl) ?_
          refine dw_o rfl (ok_call (Add_ok c.F (ix 0 (mixL (mapR (c.acc s inn i (d + 1)) c.n) (mapR (c.acc s inn i d) c.n) j) j) (mulF c.F x (ix 0 (ix [] (ix [] c.canon i) j) d)) (by first | rfl | assumption | omega | (simp_all; done) | grind)) rfl) ?_
          refine dw_o rfl (ok_indexV sl22 rfl rfl (by omega) (by omega)) ?_
          refine dw_nil ?_
          refine ent_storeV (k := 0) (z := addF c.F (ix 0 (mixL (mapR (c.acc s inn i (d + 1)) c.n) (mapR (c.acc s inn i d) c.n) j) j) (mulF c.F x (ix 0 (ix [] (ix [] c.canon i) j) d))) ti3 rfl rfl rfl (elem_one (one_int _)) (by omega) (by omega) ?_
          refine ent_nil ?_
          refine ent_k hK19 ?_
          refine ent_region ?_
          refine ent_o rfl (ok_add rfl rfl (by omega) (by omega)) ?_
          refine ent_o rfl (ok_move rfl) ?_
          refine ent_nil ?_
          refine ent_again (s := (j)) (j + 1) ⟨(by first | rfl | assumption | omega | (simp_all; done) | grind), (by first | rfl | assumption | omega | (simp_all; done) | grind)⟩ (by first | omega | (dsimp only; omega)) (ent_rep ⟨rfl, rfl, rfl, rfl, rfl, rfl, rfl, rfl, rfl, rfl, rfl, rfl, rfl, rfl, trivial⟩ (own_cons (own_vec (show mixL (mapR (c.acc s inn i (d + 1)) c.n) (mapR (c.acc s inn i d) c.n) (j + 1) = List.set (mixL (mapR (c.acc s inn i (d + 1)) c.n) (mapR (c.acc s inn i d) c.n) j) (j).toNat (addF c.F (ix 0 (mixL (mapR (c.acc s inn i (d + 1)) c.n) (mapR (c.acc s inn i d) c.n) j) j) (mulF c.F x (ix 0 (ix [] (ix [] c.canon i) j) d))) by exact (mixL_set _ _ j0 (by omega) (by omega) hval).symm)) (rfl)))
        · refine ent_exit ?_
          refine ent_k hK14 ?_
          refine ent_seq fun K21 hK21 => ?_
          refine ent_region ?_
          refine ent_o rfl (ok_move rfl) ?_
          refine ent_o rfl (ok_move rfl) ?_
          refine ent_o rfl (ok_nilCheck rfl) ?_
          refine ent_o rfl (ok_fieldAddr1 Try.runUnderlying84 rfl Try.sizeOf22 rfl rfl) ?_
          refine ent_o rfl (ok_load ti22 rfl) ?_
          refine ent_o rfl (ok_move rfl) ?_
          refine ent_o rfl (ok_index 0 sl22 rfl rfl (by omega) (by omega)) ?_
          refine ent_o rfl (ok_load ti3 rfl) ?_
          refine ent_o rfl (ok_lss rfl rfl) ?_
          refine ent_nil ?_
          refine ent_k hK21 ?_
          refine ent_condD rfl (fun h101 => ?_) (fun h101 => ?_)
          · refine ent_seq fun K22 hK22 => ?_
            refine ent_region ?_
            refine ent_o rfl (ok_move rfl) ?_
            refine ent_o rfl (ok_move rfl) ?_
            refine ent_o rfl (ok_move rfl) ?_
            refine ent_o rfl (ok_mul rfl rfl (by omega) (by omega)) ?_
            refine ent_o rfl (ok_add rfl rfl (by omega) (by omega)) ?_
            refine ent_o rfl (ok_assign rfl) ?_
            refine ent_nil ?_
            refine ent_k hK22 ?_
            refine ent_seq fun K23 hK23 => ?_
            refine ent_region ?_
            refine ent_o rfl (ok_move rfl) ?_
            refine ent_o rfl (ok_move rfl) ?_
            refine ent_o rfl (ok_nilCheck rfl) ?_
            refine ent_o rfl (ok_fieldAddr1 Try.runUnderlying84 rfl Try.sizeOf3 rfl rfl) ?_
            refine ent_o rfl (ok_load ti3 rfl) ?_
            refine ent_o rfl (ok_mul rfl rfl (by omega) (by omega)) ?_
            refine ent_o rfl (ok_assign rfl) ?_
            refine ent_nil ?_
            refine ent_k hK23 ?_
            refine ent_seq fun K24 hK24 => ?_
            refine ent_region ?_
            refine ent_o rfl (ok_move rfl) ?_
            refine ent_o rfl (ok_move rfl) ?_
            refine ent_o rfl (ok_nilCheck rfl) ?_
            refine ent_o rfl (ok_fieldAddr1 Try.runUnderlying84 rfl Try.sizeOf3 rfl rfl) ?_
            refine ent_o rfl (ok_load ti3 rfl) ?_
            refine ent_o rfl (ok_rem rfl rfl (by omega) (by omega)) ?_
            refine ent_o rfl (ok_assign rfl) ?_
            refine ent_nil ?_
            refine ent_k hK24 ?_
            refine ent_region ?_
            refine ent_o rfl (ok_move rfl) ?_
            refine ent_o rfl (ok_move rfl) ?_
            refine ent_o rfl (ok_nilCheck rfl) ?_
            refine ent_o rfl (ok_fieldAddr1 Try.runUnderlying84 rfl Try.sizeOf3 rfl rfl) ?_
            refine ent_o rfl (ok_load ti3 rfl) ?_
            refine ent_o rfl (ok_quo rfl rfl (by omega) (by omega) (by omega)) ?_
            refine ent_o rfl (ok_assign rfl) ?_
            refine ent_nil ?_
            refine ent_k hK13 ?_
            refine ent_region ?_
            refine ent_o rfl (ok_move rfl) ?_
            refine ent_o rfl (ok_add rfl rfl (by omega) (by omega)) ?_
            refine ent_o rfl (ok_assign rfl) ?_
            refine ent_nil ?_
            refine ent_again (s := (d, x, pl, v)) (d + 1, v % c.F.q, pl * c.F.q, v / c.F.q) ⟨(by first | rfl | assumption | omega | (simp_all; done) | grind), (by first | rfl | assumption | omega | (simp_all; done) | grind), (fun hd => by first | exact absurd hd (by omega) | (rw [c.ix_line_succ s inn hq.2.2.2.2.2.1 d0 (by omega), hv (by omega)])), (fun hd => by first | exact absurd hd (by omega) | (rw [hp (by omega), hsq, Int.mul_assoc])), (fun hd => by first | exact absurd hd (by omega) | (rw [hv (by omega), hsq, Int.ediv_ediv_of_nonneg (by omega)]))⟩ (by first | omega | (dsimp only; omega)) (ent_rep ⟨rfl, rfl, slot_av (av_int (show (c.nxt s inn i.toNat + c.nxE s inn i (min d (c.deg i)).toNat) + (x * pl) = c.nxt s inn i.toNat + c.nxE s inn i (min (d + 1) (c.deg i)).toNat by first | (rw [show min (d + 1) (c.deg i) = d + 1 by omega, show min d (c.deg i) = d by omega, c.nxE_succ s inn d0, hx (by omega), hp (by omega)]; omega) | (rw [show min (d + 1) (c.deg i) = min d (c.deg i) by omega]))), rfl, rfl, rfl, rfl, rfl, rfl, rfl, rfl, rfl, trivial⟩ (own_cons (own_vec (show mapR (c.acc s inn i (d + 1)) c.n = mixL (mapR (c.acc s inn i (d + 1)) c.n) (mapR (c.acc s inn i d) c.n) j by first | exact mapR_congr (fun j _ _ => c.acc_skip hS s inn i j d0 (by rw [← hx (by omega)]; exact Classical.not_not.1 h56)) | exact (mixL_all _ _ (by simp; omega) (by simp; omega)).symm)) (rfl)))
          · refine ent_skip ?_
            refine ent_k hK13 ?_
            refine ent_region ?_
            refine ent_o rfl (ok_move rfl) ?_
            refine ent_o rfl (ok_add rfl rfl (by omega) (by omega)) ?_
            refine ent_o rfl (ok_assign rfl) ?_
            refine ent_nil ?_
            refine ent_again (s := (d, x, pl, v)) (d + 1, x, pl, v) ⟨(by first | rfl | assumption | omega | (simp_all; done) | grind), (by first | rfl | assumption | omega | (simp_all; done) | grind), (fun hd => by first | exact absurd hd (by omega) | (rw [c.ix_line_succ s inn hq.2.2.2.2.2.1 d0 (by omega), hv (by omega)])), (fun hd => by first | exact absurd hd (by omega) | (rw [hp (by omega), hsq, Int.mul_assoc])), (fun hd => by first | exact absurd hd (by omega) | (rw [hv (by omega), hsq, Int.ediv_ediv_of_nonneg (by omega)]))⟩ (by first | omega | (dsimp only; omega)) (ent_rep ⟨rfl, rfl, slot_av (av_int (show c.nxt s inn i.toNat + c.nxE s inn i (min d (c.deg i)).toNat = c.nxt s inn i.toNat + c.nxE s inn i (min (d + 1) (c.deg i)).toNat by first | (rw [show min (d + 1) (c.deg i) = d + 1 by omega, show min d (c.deg i) = d by omega, c.nxE_succ s inn d0, hx (by omega), hp (by omega)]; omega) | (rw [show min (d + 1) (c.deg i) = min d (c.deg i) by omega]))), rfl, rfl, rfl, rfl, rfl, rfl, rfl, rfl, rfl, trivial⟩ (own_cons (own_vec (show mapR (c.acc s inn i (d + 1)) c.n = mixL (mapR (c.acc s inn i (d + 1)) c.n) (mapR (c.acc s inn i d) c.n) j by first | exact mapR_congr (fun j _ _ => c.acc_skip hS s inn i j d0 (by rw [← hx (by omega)]; exact Classical.not_not.1 h56)) | exact (mixL_all _ _ (by simp; omega) (by simp; omega)).symm)) (rfl)))
      · refine ent_skip ?_
        refine ent_k hK14 ?_
        refine ent_seq fun K25 hK25 => ?_
        refine ent_region ?_
        refine ent_o rfl (ok_move rfl) ?_
        refine ent_o rfl (ok_move rfl) ?_
        refine ent_o rfl (ok_nilCheck rfl) ?_
        refine ent_o rfl (ok_fieldAddr1 Try.runUnderlying84 rfl Try.sizeOf22 rfl rfl) ?_
        refine ent_o rfl (ok_load ti22 rfl) ?_
        refine ent_o rfl (ok_move rfl) ?_
        refine ent_o rfl (ok_index 0 sl22 rfl rfl (by omega) (by omega)) ?_
        refine ent_o rfl (ok_load ti3 rfl) ?_
        refine ent_o rfl (ok_lss rfl rfl) ?_
        refine ent_nil ?_
        refine ent_k hK25 ?_
        refine ent_condD rfl (fun h101 => ?_) (fun h101 => ?_)
        · refine ent_seq fun K26 hK26 => ?_
          refine ent_region ?_
          refine ent_o rfl (ok_move rfl) ?_
          refine ent_o rfl (ok_move rfl) ?_
          refine ent_o rfl (ok_move rfl) ?_
          refine ent_o rfl (ok_mul rfl rfl (by omega) (by omega)) ?_
          refine ent_o rfl (ok_add rfl rfl (by omega) (by omega)) ?_
          refine ent_o rfl (ok_assign rfl) ?_
          refine ent_nil ?_
          refine ent_k hK26 ?_
          refine ent_seq fun K27 hK27 => ?_
          refine ent_region ?_
          refine ent_o rfl (ok_move rfl) ?_
          refine ent_o rfl (ok_move rfl) ?_
          refine ent_o rfl (ok_nilCheck rfl) ?_
          refine ent_o rfl (ok_fieldAddr1 Try.runUnderlying84 rfl Try.sizeOf3 rfl rfl) ?_
          refine ent_o rfl (ok_load ti3 rfl) ?_
          refine ent_o rfl (ok_mul rfl rfl (by omega) (by omega)) ?_
          refine ent_o rfl (ok_assign rfl) ?_
          refine ent_nil ?_
          refine ent_k hK27 ?_
          refine ent_seq fun K28 hK28 => ?_
          refine ent_region ?_
          refine ent_o rfl (ok_move rfl) ?_
          refine ent_o rfl (ok_move rfl) ?_
          refine ent_o rfl (ok_nilCheck rfl) ?_
          refine ent_o rfl (ok_fieldAddr1 Try.runUnderlying84 rfl Try.sizeOf3 rfl rfl) ?_
          refine ent_o rfl (ok_load ti3 rfl) ?_
          refine ent_o rfl (ok_rem rfl rfl (by omega) (by omega)) ?_
          refine ent_o rfl (ok_assign rfl) ?_
          refine ent_nil ?_
          refine ent_k hK28 ?_
          refine ent_region ?_
          refine ent_o rfl (ok_move rfl) ?_
          refine ent_o rfl (ok_move rfl) ?_
          refine ent_o rfl (ok_nilCheck rfl) ?_
          refine ent_o rfl (ok_fieldAddr1 Try.runUnderlying84 rfl Try.sizeOf3 rfl rfl) ?_
          refine ent_o rfl (ok_load ti3 rfl) ?_
          refine ent_o rfl (ok_quo rfl rfl (by omega) (by omega) (by omega)) ?_
          refine ent_o rfl (ok_assign rfl) ?_
          refine ent_nil ?_
          refine ent_k hK13 ?_
          refine ent_region ?_
          refine ent_o rfl (ok_move rfl) ?_
          refine ent_o rfl (ok_add rfl rfl (by omega) (by omega)) ?_
          refine ent_o rfl (ok_assign rfl) ?_
          refine ent_nil ?_
          refine ent_again (s := (d, x, pl, v)) (d + 1, v % c.F.q, pl * c.F.q, v / c.F.q) ⟨(by first | rfl | assumption | omega | (simp_all; done) | grind), (by first | rfl | assumption | omega | (simp_all; done) | grind), (fun hd => by first | exact absurd hd (by omega) | (rw [c.ix_line_succ s inn hq.2.2.2.2.2.1 d0 (by omega), hv (by omega)])), (fun hd => by first | exact absurd hd (by omega) | (rw [hp (by omega), hsq, Int.mul_assoc])), (fun hd => by first | exact absurd hd (by omega) | (rw [hv (by omega), hsq, Int.ediv_ediv_of_nonneg (by omega)]))⟩ (by first | omega | (dsimp only; omega)) (ent_rep ⟨rfl, rfl, slot_av (av_int (show (c.nxt s inn i.toNat + c.nxE s inn i (min d (c.deg i)).toNat) + (x * pl) = c.nxt s inn i.toNat + c.nxE s inn i (min (d + 1) (c.deg i)).toNat by first | (rw [show min (d + 1) (c.deg i) = d + 1 by omega, show min d (c.deg i) = d by omega, c.nxE_succ s inn d0, hx (by omega), hp (by omega)]; omega) | (rw [show min (d + 1) (c.deg i) = min d (c.deg i) by omega]))), rfl, rfl, rfl, rfl, rfl, rfl, rfl, rfl, rfl, trivial⟩ (own_cons (own_vec (show mapR (c.acc s inn i (d + 1)) c.n = mapR (c.acc s inn i d) c.n by first | exact mapR_congr (fun j _ _ => c.acc_skip hS s inn i j d0 (by rw [← hx (by omega)]; exact Classical.not_not.1 h56)) | exact (mixL_all _ _ (by simp; omega) (by simp; omega)).symm)) (rfl)))
        · refine ent_skip ?_
          refine ent_k hK13 ?_
          refine ent_region ?_
          refine ent_o rfl (ok_move rfl) ?_
          refine ent_o rfl (ok_add rfl rfl (by omega) (by omega)) ?_
          refine ent_o rfl (ok_assign rfl) ?_
          refine ent_nil ?_
          refine ent_again (s := (d, x, pl, v)) (d + 1, x, pl, v) ⟨(by first | rfl | assumption | omega | (simp_all; done) | grind), (by first | rfl | assumption | omega | (simp_all; done) | grind), (fun hd => by first | exact absurd hd (by omega) | (rw [c.ix_line_succ s inn hq.2.2.2.2.2.1 d0 (by omega), hv (by omega)])), (fun hd => by first | exact absurd hd (by omega) | (rw [hp (by omega), hsq, Int.mul_assoc])), (fun hd => by first | exact absurd hd (by omega) | (rw [hv (by omega), hsq, Int.ediv_ediv_of_nonneg (by omega)]))⟩ (by first | omega | (dsimp only; omega)) (ent_rep ⟨rfl, rfl, slot_av (av_int (show c.nxt s inn i.toNat + c.nxE s inn i (min d (c.deg i)).toNat = c.nxt s inn i.toNat + c.nxE s inn i (min (d + 1) (c.deg i)).toNat by first | (rw [show min (d + 1) (c.deg i) = d + 1 by omega, show min d (c.deg i) = d by omega, c.nxE_succ s inn d0, hx (by omega), hp (by omega)]; omega) | (rw [show min (d + 1) (c.deg i) = min d (c.deg i) by omega]))), rfl, rfl, rfl, rfl, rfl, rfl, rfl, rfl, rfl, trivial⟩ (own_cons (own_vec (show mapR (c.acc s inn i (d + 1)) c.n = mapR (c.acc s inn i d) c.n by first | exact mapR_congr (fun j _ _ => c.acc_skip hS s inn i j d0 (by rw [← hx (by omega)]; exact Classical.not_not.1 h56)) | exact (mixL_all _ _ (by simp; omega) (by simp; omega)).symm)) (rfl)))
    · refine ent_exit ?_
      refine ent_k hK7 ?_
      refine ent_region ?_
      refine ent_o rfl (ok_add rfl rfl (by omega) (by omega)) ?_
      refine ent_o rfl (ok_move rfl) ?_
      refine ent_nil ?_
      have hde : d = c.deg i + 1 := by omega
      refine ent_again (s := (i)) (i + 1) ⟨(by first | rfl | assumption | omega | (simp_all; done) | grind), (by first | rfl | assumption | omega | (simp_all; done) | grind)⟩ (by first | omega | (dsimp only; omega)) (ent_rep ⟨rfl, rfl, slot_av (av_int (show c.nxt s inn i.toNat + c.nxE s inn i (min d (c.deg i)).toNat = c.nxt s inn (i + 1).toNat by rw [c.nxt_succ s inn h0, show min d (c.deg i) = c.deg i by omega])), rfl, rfl, rfl, rfl, trivial⟩ (own_cons (own_vec (show mapR (fun j => c.outTo s inn j (i + 1).toNat) c.n = mapR (c.acc s inn i d) c.n by exact mapR_congr (fun j _ _ => (c.acc_all s inn h0 hde j).symm))) (rfl)))
  · refine ent_exit ?_
    refine ent_k hK3 ?_
    refine ent_seq fun K29 hK29 => ?_
    refine ent_region ?_
    refine ent_o rfl (ok_move rfl) ?_
    refine ent_o rfl (ok_move rfl) ?_
    refine ent_o rfl (ok_assign rfl) ?_
    refine ent_o rfl (ok_assign rfl) ?_
    refine ent_nil ?_
    refine ent_k hK29 ?_
    refine ent_ret ?_
    exact retR2 (.inr rfl) Try.results64 (resr_tmp (res_cv rfl (cv_int (by rw [show i.toNat = c.Gen.length by omega])))) (resr_tmp (res_cv rfl (cvF_vec (k := 0) flat_int rfl rfl (by first | rfl | (simp; done) | (simp_all; done) | omega) (by rw [show i.toNat = c.Gen.length by omega]; rfl))))

theorem input_ok (c : Cnv) (l : List Int)  : Ctr Try.prog 63 [aMach c, aSl 1 false aInt l] (aInt (c.inErr l)) := by
  refine ctr_of Try.call63 Try.func63 rfl rfl ?_
  intro w O
  refine ent_lenP 0 1 rfl rfl (fun hlen0_1 => ?_)
  refine ent_lenP 0 4 rfl rfl (fun hlen0_4 => ?_)
  refine ent_lenP 0 8 rfl rfl (fun hlen0_8 => ?_)
  refine ent_len 1 rfl (fun hlen1 => ?_)
  refine ent_seq fun K1 hK1 => ?_
  refine ent_region ?_
  refine ent_o rfl (ok_assign rfl) ?_
  refine ent_nil ?_
  refine ent_k hK1 ?_
  refine ent_seq fun K2 hK2 => ?_
  refine ent_seq fun K3 hK3 => ?_
  refine ent_region ?_
  refine ent_o rfl (ok_move rfl) ?_
  refine ent_o rfl (ok_len rfl Try.runUnderlying22 rfl) ?_
  refine ent_o rfl (ok_move rfl) ?_
  refine ent_o rfl (ok_nilCheck rfl) ?_
  refine ent_o rfl (ok_fieldAddr1 Try.runUnderlying84 rfl Try.sizeOf3 rfl rfl) ?_
  refine ent_o rfl (ok_load ti3 rfl) ?_
  refine ent_o rfl (ok_neq rfl rfl) ?_
  refine ent_nil ?_
  refine ent_k hK3 ?_
  refine ent_condD rfl (fun h13 => ?_) (fun h13 => ?_)
  · refine ent_seq fun K4 hK4 => ?_
    refine ent_region ?_
    refine ent_o rfl (ok_assign rfl) ?_
    refine ent_nil ?_
    refine ent_k hK4 ?_
    refine ent_ret ?_
    exact retR1 (.inr rfl) Try.results63 (resr_tmp (res_cv rfl (cv_int (by unfold Cnv.inErr; rw [if_pos h13]))))
  · refine ent_skip ?_
    refine ent_k hK2 ?_
    refine ent_seq fun K5 hK5 => ?_
    refine ent_seq fun K6 hK6 => ?_
    refine ent_region ?_
    refine ent_o rfl (ok_move rfl) ?_
    refine ent_o rfl (ok_len rfl Try.runUnderlying22 rfl) ?_
    refine ent_o rfl (ok_move rfl) ?_
    refine ent_nil ?_
    refine ent_k hK6 ?_
    refine ent_block ?_
    refine ent_loop (fun (i : Int) => (⟨[(0, aMach c), (14, aSl 1 false aInt l), (15, aInt (↑l.length : Int)), (16, aInt i)], []⟩ : St)) (fun (i : Int) => (0 ≤ i) ∧ (i ≤ l.length) ∧ (¬ outF c.F (l.take i.toNat))) (fun (i : Int) => (l.length - i).toNat) 0 ⟨(by first | rfl | assumption | omega | (simp_all; done) | grind), (by first | rfl | assumption | omega | (simp_all; done) | grind), (by simp [outF])⟩ (ent_rep ⟨rfl, rfl, rfl, slot_av (av_int (show 0 = (0 : Int) by first | rfl | assumption | omega | (simp_all; done) | grind)), trivial⟩ rfl) ?_
    rintro i ⟨h0, h1, hn⟩
    show Ent _ (⟨[(0, aMach c), (14, aSl 1 false aInt l), (15, aInt (↑l.length : Int)), (16, aInt i)], []⟩ : St) _
    refine ent_seq fun K7 hK7 => ?_
    refine ent_region ?_
    refine ent_o rfl (ok_lss rfl rfl) ?_
    refine ent_nil ?_
    refine ent_k hK7 ?_
    refine ent_seq fun K8 hK8 => ?_
    refine ent_condD rfl (fun h17 => ?_) (fun h17 => ?_)
    · refine ent_skip ?_
      refine ent_k hK8 ?_
      refine ent_seq fun K9 hK9 => ?_
      refine ent_block ?_
      refine ent_seq fun K10 hK10 => ?_
      refine ent_region ?_
      refine ent_o rfl (ok_index 0 sl22 rfl rfl (by omega) (by omega)) ?_
      refine ent_o rfl (ok_load ti3 rfl) ?_
      refine ent_o rfl (ok_assign rfl) ?_
      refine ent_nil ?_
      refine ent_k hK10 ?_
      refine ent_seq fun K11 hK11 => ?_
      refine ent_region ?_
      refine ent_o rfl (ok_move rfl) ?_
      refine ent_o rfl (ok_nilCheck rfl) ?_
      refine ent_o rfl (ok_fieldAddr1 Try.runUnderlying84 rfl Try.sizeOf82 rfl rfl) ?_
      refine ent_o rfl (ok_load ti82 rfl) ?_
      refine ent_o rfl (ok_move rfl) ?_
      refine ent_o rfl (ok_call (Is_ok c.F (ix 0 l i)) rfl) ?_
      refine ent_o rfl (ok_notD rfl) ?_
      refine ent_nil ?_
      refine ent_k hK11 ?_
      refine ent_condD rfl (fun h26 => ?_) (fun h26 => ?_)
      · refine ent_seq fun K12 hK12 => ?_
        refine ent_region ?_
        refine ent_o rfl (ok_assign rfl) ?_
        refine ent_nil ?_
        refine ent_k hK12 ?_
        refine ent_ret ?_
        exact retR1 (.inr rfl) Try.results63 (resr_tmp (res_cv rfl (cv_int (by unfold Cnv.inErr entErr; rw [if_neg h13, if_pos (outF_at h0 h17 h26)]))))
      · refine ent_skip ?_
        refine ent_k hK9 ?_
        refine ent_region ?_
        refine ent_o rfl (ok_add rfl rfl (by omega) (by omega)) ?_
        refine ent_o rfl (ok_move rfl) ?_
        refine ent_nil ?_
        refine ent_again (s := (i)) (i + 1) ⟨(by first | rfl | assumption | omega | (simp_all; done) | grind), (by first | rfl | assumption | omega | (simp_all; done) | grind), (outF_succ h0 h17 hn (Classical.not_not.1 h26))⟩ (by first | omega | (dsimp only; omega)) (ent_rep ⟨rfl, rfl, rfl, rfl, trivial⟩ rfl)
    · refine ent_exit ?_
      refine ent_k hK5 ?_
      refine ent_seq fun K13 hK13 => ?_
      refine ent_region ?_
      refine ent_o rfl (ok_assign rfl) ?_
      refine ent_nil ?_
      refine ent_k hK13 ?_
      refine ent_ret ?_
      exact retR1 (.inr rfl) Try.results63 (resr_tmp (res_cv rfl (cv_int (by unfold Cnv.inErr entErr; rw [if_neg h13, if_neg (by rw [List.take_of_length_le (by omega)] at hn; exact hn)]))))
end Go.Proofs.Ytfjhbdfgbpcchaa
