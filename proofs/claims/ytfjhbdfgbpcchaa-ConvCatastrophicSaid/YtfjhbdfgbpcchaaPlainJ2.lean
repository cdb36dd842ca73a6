/-
  Plain facts.
-/
import Derived.Test.YtfjhbdfgbpcchaaPlainJ1
set_option linter.unnecessarySimpa false
set_option linter.unusedVariables false
set_option linter.unusedSimpArgs false
set_option linter.unusedSectionVars false
namespace Go.Cw
section
variable {f : Fld} (h : FOk f)
open La Ps
noncomputable def cmbP (p : List Int) (a : Int) (q : List Int) : List Int := lS h (pS h p + con (ke h a) * pS h q)
noncomputable def subP (p q : List Int) : List Int := lS h (pS h p + -(pS h q))
noncomputable def addP (p q : List Int) : List Int := lS h (pS h p + pS h q)
noncomputable def mulP (p q : List Int) : List Int := lS h (pS h p * pS h q)
noncomputable def sclP (a : Int) (p : List Int) : List Int := lS h (con (ke h a) * pS h p)
noncomputable def monP (p : List Int) : List Int := lS h (mon (pS h p))
noncomputable def quoP (p q : List Int) : List Int := lS h (dq (pS h p) (pS h q))
noncomputable def remP (p q : List Int) : List Int := lS h (dm (pS h p) (pS h q))
noncomputable def gcdP (p q : List Int) : List Int := lS h (gc (pS h p) (pS h q))
noncomputable def cnrP (p : List Int) : List Int := lS h (pS h p)
theorem cnrP_eq (p : List Int) : trimL (p.map (inF f)) = cnrP h p := lS_canon h p
theorem pS_cnr (p : List Int) : pS h (cnrP h p) = pS h p := pS_lS h (pS_pol h p)
theorem cnrP_cn (p : List Int) : CnL f (cnrP h p) := lS_cn h _
theorem cnrP_len (p : List Int) : (cnrP h p).length ≤ p.length := lS_len h (pS_low h p)
theorem cnrP_id {p : List Int} (hp : CnL f p) : cnrP h p = p := lS_pS h hp
theorem subP_pol (p q : List Int) : Pol (pS h p + -(pS h q)) := (pS_pol h p).add (pS_pol h q).neg
theorem pS_sub (p q : List Int) : pS h (subP h p q) = pS h p + -(pS h q) := pS_lS h (subP_pol h p q)
theorem pS_mul (p q : List Int) : pS h (mulP h p q) = pS h p * pS h q := pS_lS h ((pS_pol h p).mul (pS_pol h q))
theorem pS_scl (a : Int) (p : List Int) : pS h (sclP h a p) = con (ke h a) * pS h p := pS_lS h ((con_pol _).mul (pS_pol h p))
theorem cmbP_neg (p q : List Int) : cmbP h p (negF f 1) q = subP h p q := by
 unfold cmbP subP
 rw [ke_neg, ke_one]
 congr 2
 apply Ps.ext; funext n
 rw [con_mul, co_neg, Fi.neg_mul, Fi.one_mul]
theorem subP_len (p q : List Int) : (subP h p q).length ≤ max p.length q.length := lS_len h (((pS_low h p).mono (by omega)).add ((pS_low h q).mono (by omega)).neg)
theorem mulP_len (p q : List Int) : (mulP h p q).length ≤ p.length + q.length - 1 := lS_len h ((pS_low h p).mul (pS_low h q))
theorem sclP_len (a : Int) (p : List Int) : (sclP h a p).length ≤ p.length := by
 have := (con_low (ke h a)).mul (pS_low h p)
 exact lS_len h (this.mono (by omega))
theorem cmbP_one {p L : List Int} {i : Int} (i0 : 0 ≤ i) (i1 : i < L.length) (e : pS h L = tk h (pS h p) i.toNat) : pS h (L.set i.toNat (addF f (ix 0 p i) 0)) = tk h (pS h p) (i + 1).toNat := by
 have hz : ke h (ix 0 L i) = 0 := by
  have := congrArg (fun a => Ps.co a i.toNat) e
  simp only [co_pS] at this
  rw [show ((i.toNat : Nat) : Int) = i by omega] at this
  rw [this]
  show (if i.toNat < i.toNat then (pS h p).co i.toNat else 0) = 0
  rw [if_neg (by omega)]
 rw [pS_set h L i0 i1 _ (x := ke h (ix 0 p i)) (by rw [ke_add, ke_zero, Fi.add_zero, hz, Fi.zero_add]), e, show (i + 1).toNat = i.toNat + 1 by omega, tk_succ, co_pS, show ((i.toNat : Nat) : Int) = i by omega]
theorem cmbP_two {p q L : List Int} {a j : Int} (j0 : 0 ≤ j) (j1 : j < L.length) (e : pS h L = pS h p + con (ke h a) * tk h (pS h q) j.toNat) :
  pS h (L.set j.toNat (addF f (ix 0 L j) (mulF f a (ix 0 q j)))) = pS h p + con (ke h a) * tk h (pS h q) (j + 1).toNat := by
 rw [pS_set h L j0 j1 _ (x := ke h a * ke h (ix 0 q j)) (by rw [ke_add, ke_mul]), e, show (j + 1).toNat = j.toNat + 1 by omega, tk_succ, co_pS, show ((j.toNat : Nat) : Int) = j by omega, Ri.mul_add, Ri.add_assoc, ← Ri.mul_assoc, con_con]
theorem cmbP_mid {p q L : List Int} {a i : Int} (hi : p.length ≤ i) (e : pS h L = tk h (pS h p) i.toNat) : pS h L = pS h p + con (ke h a) * tk h (pS h q) (0 : Int).toNat := by
 rw [show (0 : Int).toNat = 0 from rfl, tk_zero, Ri.mul_zero, Ri.add_zero, e, tk_all h (pS_low' h p _ (by omega))]
theorem cmbP_end {p q L : List Int} {a j : Int} (hj : q.length ≤ j) (o : ¬ outF f L) (e : pS h L = pS h p + con (ke h a) * tk h (pS h q) j.toNat) : trimL L = cmbP h p a q := by
 rw [lS_trim h o, e, tk_all h (pS_low' h q _ (by omega))]; rfl
theorem mulP_end {p q L : List Int} {i : Int} (hp : CnL f p) (hq : CnL f q) (p0 : 0 < p.length) (q0 : 0 < q.length) (hi : p.length ≤ i) (o : ¬ outF f L) (hl : (L.length : Int) = p.length + q.length - 1) (e : pS h L = prT h p q i 0) : L = mulP h p q := by
 rw [prT_all h p q hi] at e
 exact lS_eq h (cn_mul h hp hq p0 q0 o e (by omega)) e
theorem mulP_nil {p q : List Int} (hz : (cnrP h p).length = 0 ∨ (cnrP h q).length = 0) : mulP h p q = [] := by
 unfold mulP
 rcases hz with hz | hz
 ·have := (lS_nil h (pS_pol h p)).1 (List.eq_nil_of_length_eq_zero hz)
  rw [this, Ri.zero_mul, lS_zero]
 ·have := (lS_nil h (pS_pol h q)).1 (List.eq_nil_of_length_eq_zero hz)
  rw [this, Ri.mul_zero, lS_zero]
theorem mulP_cnr (p q : List Int) : mulP h (cnrP h p) (cnrP h q) = mulP h p q := by unfold mulP; rw [pS_cnr, pS_cnr]
theorem mulP_one (p : List Int) : mulP h [1] p = cnrP h p := by unfold mulP cnrP; rw [pS_one, Ri.one_mul]
theorem mulP_canL (p q : List Int) : mulP h (cnrP h p) q = mulP h p q := by unfold mulP; rw [pS_cnr]
theorem scaleF_map (a : Int) (v : List Int) : scaleF f a v = v.map (mulF f a) := by
 refine ext_ix 0 (by rw [length_scaleF, List.length_map]) fun j h0 h1 => ?_
 rw [length_scaleF] at h1
 rw [ix_scaleF f a v h0 h1]
 have hj : j.toNat < v.length := by omega
 simp [ix, List.getD, hj]
theorem sclP_eq (a : Int) (p : List Int) : trimL (scaleF f a p) = sclP h a p := by
 rw [scaleF_map, lS_trim h (outF_map_mul h.1 a p), pS_map_mul]; rfl
theorem monP_eq {p : List Int} (hp : CnL f p) (p0 : 0 < p.length) : scaleF f (invF f (ix 0 p ((p.length : Int) - 1))) p = monP h p := by
 rw [scaleF_map]
 have ht := cn_top h hp p0
 have hi : inF f (ix 0 p ((p.length : Int) - 1)) ≠ 0 := by
  intro hz
  apply ht.1
  rw [co_pS, show (((p.length - 1 : Nat)) : Int) = (p.length : Int) - 1 by omega, ← ke_in, hz, ke_zero]
 have hs := invF_spec h hi
 have hk : ke h (invF f (ix 0 p ((p.length : Int) - 1))) = Fi.inv ((pS h p).co (p.length - 1)) := by
  rw [co_pS, show (((p.length - 1 : Nat)) : Int) = (p.length : Int) - 1 by omega]
  have e1 : ke h (ix 0 p ((p.length : Int) - 1)) * ke h (invF f (ix 0 p ((p.length : Int) - 1))) = 1 := by rw [← ke_mul, hs.1, ke_one]
  have hne : ke h (ix 0 p ((p.length : Int) - 1)) ≠ 0 := fun e => Fi.one_ne (by rw [← e1, e, Fi.zero_mul])
  exact Fi.mul_left_cancel hne (by rw [e1, Fi.mul_inv hne])
 refine lS_eq h ⟨outF_map_mul h.1 _ _, ?_⟩ (by rw [pS_map_mul, mon_top ht, hk])
 have h1 := lS_top h (n := p.length - 1) (a := pS h (p.map (mulF f (invF f (ix 0 p ((p.length : Int) - 1)))))) (by
  rw [pS_map_mul, hk]
  refine ⟨by rw [con_mul, Fi.inv_mul _ ht.1]; exact Fi.one_ne, ?_⟩
  have := (con_low (Fi.inv ((pS h p).co (p.length - 1)))).mul ht.2
  exact this.mono (by omega))
 rw [← lS_trim h (outF_map_mul h.1 _ _), length_trimL] at h1
 unfold trimL
 exact List.take_of_length_le (by rw [List.length_map]; omega)
theorem monP_nil {p : List Int} (hz : (cnrP h p).length = 0) : monP h p = [] := by
 have := (lS_nil h (pS_pol h p)).1 (List.eq_nil_of_length_eq_zero hz)
 unfold monP; rw [this, mon_zero, lS_zero]
theorem monP_cnr (p : List Int) : monP h (cnrP h p) = monP h p := by unfold monP; rw [pS_cnr]
structure DvI (P Q : List Int) (Qs R : List Int) (n : Int) : Prop where
 lR : R.length = P.length
 lQ : (Qs.length : Int) = max 0 ((P.length : Int) - Q.length + 1)
 oR : ¬ outF f R
 oQ : ¬ outF f Qs
 eq : pS h P = pS h Qs * pS h Q + pS h R
 low : Low (pS h R) (n + Q.length).toNat
 qz : ∀ k : Nat, (k : Int) ≤ n → ix 0 Qs k = 0
theorem DvI.start {P Q : List Int} (hP : CnL f P) {m : Nat} (hm : (m : Int) = max 0 ((P.length : Int) - Q.length + 1)) : DvI h P Q (List.replicate m 0) P ((P.length : Int) - Q.length) where
 lR := rfl
 lQ := by rw [List.length_replicate]; exact hm
 oR := hP.1
 oQ := outF_repl h.1 _
 eq := by rw [pS_repl, Ri.zero_mul, Ri.zero_add]
 low := pS_low' h P _ (by omega)
 qz := fun k _ => ix_replicate0 _ _
structure DvJ (P Q : List Int) (Qs R : List Int) (n a j : Int) (R' : List Int) : Prop where
 lR : R'.length = P.length
 oR : ¬ outF f R'
 eq : pS h R' = pS h R + -(con (ke h a) * xp n.toNat * tk h (pS h Q) j.toNat)
theorem DvJ.start {P Q Qs R : List Int} {n : Int} (D : DvI h P Q Qs R n) (a : Int) : DvJ h P Q Qs R n a 0 R where
 lR := D.lR
 oR := D.oR
 eq := by rw [show (0 : Int).toNat = 0 from rfl, tk_zero, Ri.mul_zero, Ri.neg_zero, Ri.add_zero]
theorem DvJ.next {P Q Qs R R' : List Int} {n a j : Int} (J : DvJ h P Q Qs R n a j R') (n0 : 0 ≤ n) (j0 : 0 ≤ j) (hn : n + j < P.length) :
  DvJ h P Q Qs R n a (j + 1) (R'.set (n + j).toNat (addF f (ix 0 R' (n + j)) (negF f (mulF f a (ix 0 Q j))))) where
 lR := by rw [List.length_set]; exact J.lR
 oR := outF_set J.oR (h.1.addF_lt _ _) _
 eq := by
  rw [pS_set h R' (by omega) (by rw [J.lR]; exact hn) _ (x := -(ke h a * ke h (ix 0 Q j))) (by rw [ke_add, ke_neg, ke_mul]), J.eq, Ri.add_assoc]
  congr 1
  rw [show (j + 1).toNat = j.toNat + 1 by omega, tk_succ, Ri.mul_add, Ri.neg_add_rev, co_pS, show ((j.toNat : Nat) : Int) = j by omega, show (n + j).toNat = n.toNat + j.toNat by omega, ← xp_xp h]
  congr 1
  have e : con (-(ke h a * ke h (ix 0 Q j))) = -(con (ke h a) * con (ke h (ix 0 Q j))) := by
   rw [con_con]; apply Ps.ext; funext i; rw [co_neg, co_con, co_con]; split
   ·rfl
   ·exact Fi.neg_zero.symm
  rw [e, Ri.neg_mul]
  congr 1
  ac_rfl
theorem DvI.next {P Q Qs R R' : List Int} {n a j : Int} (hQ : CnL f Q) (q0 : 0 < Q.length) (D : DvI h P Q Qs R n) (n0 : 0 ≤ n) (n1 : n < Qs.length) (hn : n + Q.length ≤ P.length) (ha : a = mulF f (ix 0 R (n + Q.length - 1)) (invF f (ix 0 Q ((Q.length : Int) - 1))))
  (hj : Q.length ≤ j) (J : DvJ h P Q Qs R n a j R') : DvI h P Q (Qs.set n.toNat a) R' (n - 1) := by
 have ht := cn_top h hQ q0
 have hE := J.eq
 rw [tk_all h (pS_low' h Q _ (by omega))] at hE
 refine ⟨J.lR, by rw [List.length_set]; exact D.lQ, J.oR, outF_set D.oQ (by rw [ha]; exact h.1.mulF_lt _ _) _, ?_, ?_, fun k hk => ?_⟩
 ·rw [pS_set h Qs n0 n1 a (x := ke h a) (by
   have := D.qz n.toNat (by omega)
   rw [show ((n.toNat : Nat) : Int) = n by omega] at this
   rw [this, ke_zero, Fi.zero_add]), hE, D.eq, Ri.add_mul, Ri.add_assoc, Ri.add_comm (con _ * xp _ * pS h Q), Ri.add_assoc (pS h R), Ri.neg_add, Ri.add_zero]
 ·rw [hE]
  have e1 : (n - 1 + Q.length).toNat + 1 = (n + Q.length).toNat := by omega
  refine Low.cut ?_ ?_
  ·rw [e1]
   refine D.low.add (Low.neg ?_)
   have := low_xp (pS_low h Q) (ke h a) n.toNat
   exact this.mono (by omega)
  ·have e2 : (n - 1 + Q.length).toNat = n.toNat + (Q.length - 1) := by omega
   rw [co_add, co_neg, e2, co_xp_top, co_pS, co_pS, ha, ke_mul, show ((n.toNat + (Q.length - 1) : Nat) : Int) = n + Q.length - 1 by omega, show ((Q.length - 1 : Nat) : Int) = (Q.length : Int) - 1 by omega]
   have hi : inF f (ix 0 Q ((Q.length : Int) - 1)) ≠ 0 := by
    intro hz
    apply ht.1
    rw [co_pS, show (((Q.length - 1 : Nat)) : Int) = (Q.length : Int) - 1 by omega, ← ke_in, hz, ke_zero]
   have hs := invF_spec h hi
   rw [Fi.mul_assoc, Fi.mul_comm (ke h (invF f _)), ← ke_mul, hs.1, ke_one, Fi.mul_one, Fi.add_neg]
 ·have := D.qz k (by omega)
  rw [ixn_set Qs n0 n1, if_neg (by omega)]
  exact this
theorem DvI.done {P Q Qs R : List Int} {n : Int} (hQ : CnL f Q) (q0 : 0 < Q.length) (D : DvI h P Q Qs R n) (n0 : n < 0) : trimL Qs = quoP h P Q ∧ trimL R = remP h P Q := by
 have ht := cn_top h hQ q0
 have := dq_eq ht (pS_pol h Qs) (D.low.mono (show (n + Q.length).toNat ≤ Q.length - 1 by omega)) D.eq
 unfold quoP remP
 rw [← this.1, ← this.2]
 exact ⟨lS_trim h D.oQ, lS_trim h D.oR⟩
theorem quoP_cnr (p q : List Int) : quoP h (cnrP h p) (cnrP h q) = quoP h p q := by unfold quoP; rw [pS_cnr, pS_cnr]
theorem remP_cnr (p q : List Int) : remP h (cnrP h p) (cnrP h q) = remP h p q := by unfold remP; rw [pS_cnr, pS_cnr]
noncomputable def prd2 (p q : List Int) (i : Int) : List Int := if i = 0 then [1] else if i = 1 then cnrP h p else mulP h p q
theorem prd2_succ (p q : List Int) {i : Int} (i0 : 0 ≤ i) (i1 : i < 2) : mulP h (prd2 h p q i) (ix [] [p, q] i) = prd2 h p q (i + 1) := by
 rcases (show i = 0 ∨ i = 1 by omega) with e | e
 ·subst e
  unfold prd2
  rw [if_pos rfl, if_neg (by omega), if_pos (by omega)]
  exact mulP_one h p
 ·subst e
  unfold prd2
  rw [if_neg (by omega), if_pos rfl, if_neg (by omega), if_neg (by omega)]
  exact mulP_canL h p q
theorem prd2_two (p q : List Int) : prd2 h p q 2 = mulP h p q := by unfold prd2; rw [if_neg (by omega), if_neg (by omega)]
theorem prd2_len {p q : List Int} (hp : p.length ≤ 400000) {i : Int} (i0 : 0 ≤ i) (i1 : i < 2) : (prd2 h p q i).length ≤ 400001 := by
 have := cnrP_len h p
 unfold prd2
 split
 ·simp
 ·rw [if_pos (by omega)]; omega
end
end Go.Cw
set_option linter.unusedVariables false
set_option linter.unusedSimpArgs false
set_option linter.unusedSectionVars false
namespace Go.Cw
section
variable {f : Fld} (h : FOk f)
open La Ps
theorem inF_zero (hS : Shape f) : inF f 0 = 0 := by have := hS.bd; exact inF_id (by omega) (by omega)
theorem at_out (hS : Shape f) {p : List Int} {i : Int} (hi : p.length ≤ i) : inF f (ix 0 p i) = 0 := by
 have := ix_out p (n := i.toNat) (by omega)
 rw [show ((i.toNat : Nat) : Int) = i by omega] at this
 rw [this, inF_zero hS]
theorem pS_co (p : List Int) {i : Int} (i0 : 0 ≤ i) : (pS h p).co i.toNat = ke h (ix 0 p i) := by rw [co_pS, show ((i.toNat : Nat) : Int) = i by omega]
theorem tk_set (a : Ps (KF f h)) {L : List Int} {i : Int} (i0 : 0 ≤ i) (i1 : i < L.length) (e : pS h L = tk h a i.toNat) {v : Int} (hv : ke h v = a.co i.toNat) : pS h (L.set i.toNat v) = tk h a (i + 1).toNat := by
 have hz : ke h (ix 0 L i) = 0 := by
  rw [← pS_co h L i0, e]
  show (if i.toNat < i.toNat then a.co i.toNat else 0) = 0
  rw [if_neg (by omega)]
 rw [pS_set h L i0 i1 _ (x := a.co i.toNat) (by rw [hv, hz, Fi.zero_add]), e, show (i + 1).toNat = i.toNat + 1 by omega, tk_succ]
theorem addP_step {p q L : List Int} {i : Int} (i0 : 0 ≤ i) (i1 : i < L.length) (e : pS h L = tk h (pS h p + pS h q) i.toNat) : pS h (L.set i.toNat (addF f (inF f (ix 0 p i)) (inF f (ix 0 q i)))) = tk h (pS h p + pS h q) (i + 1).toNat :=
 tk_set h _ i0 i1 e (by rw [ke_add, ke_in, ke_in, co_add, pS_co h p i0, pS_co h q i0])
theorem addP_end {p q L : List Int} {i : Int} (hi : max (p.length : Int) q.length ≤ i) (e : pS h L = tk h (pS h p + pS h q) i.toNat) : cnrP h L = addP h p q := by
 unfold cnrP addP
 rw [e, tk_all h (((pS_low h p).mono (by omega)).add ((pS_low h q).mono (by omega)))]
theorem sclP_step {a : Int} {p L : List Int} {i : Int} (i0 : 0 ≤ i) (i1 : i < L.length) (e : pS h L = tk h (con (ke h a) * pS h p) i.toNat) : pS h (L.set i.toNat (mulF f a (ix 0 p i))) = tk h (con (ke h a) * pS h p) (i + 1).toNat :=
 tk_set h _ i0 i1 e (by rw [ke_mul, con_mul, pS_co h p i0])
theorem sclP_end {a : Int} {p L : List Int} {i : Int} (hi : (p.length : Int) ≤ i) (e : pS h L = tk h (con (ke h a) * pS h p) i.toNat) : cnrP h L = sclP h a p := by
 unfold cnrP sclP
 have := (con_low (ke h a)).mul (pS_low h p)
 rw [e, tk_all h (this.mono (by omega))]
theorem subP_add (p q : List Int) : addP h p (sclP h (negF f 1) q) = subP h p q := by
 unfold addP
 rw [pS_scl]
 exact cmbP_neg h p q
theorem mulP_endR {p q L : List Int} {i : Int} (hi : (cnrP h p).length ≤ i) (e : pS h L = prT h (cnrP h p) (cnrP h q) i 0) : cnrP h L = mulP h p q := by
 rw [prT_all h _ _ hi] at e
 unfold cnrP mulP
 rw [e, pS_cnr, pS_cnr]
def pwrL (n : Int) : List Int := (List.replicate (n + 1).toNat 0).set n.toNat 1
theorem length_pwrL {n : Int} (n0 : 0 ≤ n) : ((pwrL n).length : Int) = n + 1 := by unfold pwrL; rw [List.length_set, List.length_replicate]; omega
theorem pS_pwr {n : Int} (n0 : 0 ≤ n) : pS h (pwrL n) = xp n.toNat := by
 unfold pwrL
 rw [pS_set h _ n0 (by rw [List.length_replicate]; omega) 1 (x := 1) (by
  have := ix_replicate0 (n + 1).toNat n
  rw [this, ke_zero, ke_one, Fi.zero_add]), pS_repl, Ri.zero_add, con_one, Ri.one_mul]
structure RvI (P Q : List Int) (Qs R : List Int) : Prop where
 cR : CnL f R
 lR : R.length ≤ P.length
 lQ : (Qs.length : Int) = max ((P.length : Int) - (Q.length - 1)) 0
 oQ : ¬ outF f Qs
 eq : pS h P = pS h Qs * pS h Q + pS h R
 qz : ∀ k : Nat, (k : Int) < (R.length : Int) - (Q.length - 1) → ix 0 Qs k = 0
theorem RvI.start {P Q : List Int} (hP : CnL f P) {m : Nat} (hm : (m : Int) = max ((P.length : Int) - (Q.length - 1)) 0) : RvI h P Q (List.replicate m 0) P where
 cR := hP
 lR := Nat.le_refl _
 lQ := by rw [List.length_replicate]; exact hm
 oQ := outF_repl h.1 _
 eq := by rw [pS_repl, Ri.zero_mul, Ri.zero_add]
 qz := fun k _ => ix_replicate0 _ _
theorem RvI.next {P Q Qs R : List Int} {n a : Int} (hQ : CnL f Q) (q0 : 0 < Q.length) (D : RvI h P Q Qs R) (hn : n = (R.length : Int) - 1 - (Q.length - 1)) (n0 : 0 ≤ n) (ha : a = mulF f (ix 0 R ((R.length : Int) - 1)) (invF f (ix 0 Q ((Q.length : Int) - 1)))) :
  RvI h P Q (Qs.set n.toNat a) (subP h R (mulP h (sclP h a Q) (pwrL n))) ∧ (subP h R (mulP h (sclP h a Q) (pwrL n))).length < R.length := by
 have ht := cn_top h hQ q0
 have hR := cn_top h D.cR (by omega)
 have hlQ := D.lQ
 have hlR := D.lR
 have hE : pS h (subP h R (mulP h (sclP h a Q) (pwrL n))) = pS h R + -(con (ke h a) * xp n.toNat * pS h Q) := by
  rw [pS_sub, pS_mul, pS_scl, pS_pwr h n0]
  congr 2
  ac_rfl
 have hi : inF f (ix 0 Q ((Q.length : Int) - 1)) ≠ 0 := by
  intro hz
  apply ht.1
  rw [co_pS, show (((Q.length - 1 : Nat)) : Int) = (Q.length : Int) - 1 by omega, ← ke_in, hz, ke_zero]
 have hs := invF_spec h hi
 have hlow : Low (pS h R + -(con (ke h a) * xp n.toNat * pS h Q)) (R.length - 1) := by
  refine Low.cut ?_ ?_
  ·rw [show R.length - 1 + 1 = R.length by omega]
   refine (pS_low h R).add (Low.neg ?_)
   have := low_xp (pS_low h Q) (ke h a) n.toNat
   exact this.mono (by omega)
  ·have e2 : R.length - 1 = n.toNat + (Q.length - 1) := by omega
   rw [co_add, co_neg, e2, co_xp_top, co_pS, co_pS, ha, ke_mul, show ((n.toNat + (Q.length - 1) : Nat) : Int) = (R.length : Int) - 1 by omega, show ((Q.length - 1 : Nat) : Int) = (Q.length : Int) - 1 by omega]
   rw [Fi.mul_assoc, Fi.mul_comm (ke h (invF f _)), ← ke_mul, hs.1, ke_one, Fi.mul_one, Fi.add_neg]
 have hlen : (subP h R (mulP h (sclP h a Q) (pwrL n))).length ≤ R.length - 1 := by
  rw [← hE] at hlow
  have e := lS_len h hlow
  rwa [lS_pS h (show CnL f (subP h R (mulP h (sclP h a Q) (pwrL n))) from lS_cn h _)] at e
 refine ⟨⟨lS_cn h _, by omega, by rw [List.length_set]; exact hlQ, outF_set D.oQ (by rw [ha]; exact h.1.mulF_lt _ _) _, ?_, fun k hk => ?_⟩, by omega⟩
 ·rw [pS_set h Qs n0 (by omega) a (x := ke h a) (by
   have := D.qz n.toNat (by omega)
   rw [show ((n.toNat : Nat) : Int) = n by omega] at this
   rw [this, ke_zero, Fi.zero_add]), hE, D.eq, Ri.add_mul, Ri.add_assoc, Ri.add_comm (con _ * xp _ * pS h Q), Ri.add_assoc (pS h R), Ri.neg_add, Ri.add_zero]
 ·have := D.qz k (by omega)
  rw [ixn_set Qs n0 (by omega), if_neg (by omega)]
  exact this
theorem RvI.done {P Q Qs R : List Int} (hQ : CnL f Q) (q0 : 0 < Q.length) (D : RvI h P Q Qs R) (hn : (R.length : Int) ≤ (Q.length : Int) - 1) : cnrP h Qs = quoP h P Q ∧ R = remP h P Q := by
 have ht := cn_top h hQ q0
 have := dq_eq ht (pS_pol h Qs) (pS_low' h R (Q.length - 1) (by omega)) D.eq
 unfold quoP remP cnrP
 rw [← this.1, ← this.2]
 exact ⟨rfl, (lS_pS h D.cR).symm⟩
theorem monP_scl {p : List Int} (hp : CnL f p) (p0 : 0 < p.length) : sclP h (invF f (ix 0 p ((p.length : Int) - 1))) p = monP h p := by
 rw [← sclP_eq, monP_eq h hp p0]
 exact (lS_cn h _).2
structure EuI (p q : List Int) (P Q : List Int) : Prop where
 cP : CnL f P
 cQ : CnL f Q
 lP : P.length ≤ max p.length q.length
 lQ : Q.length ≤ max p.length q.length
 dv : ∀ e, Pol e → ((Dv e (pS h P) ∧ Dv e (pS h Q)) ↔ (Dv e (pS h p) ∧ Dv e (pS h q)))
theorem EuI.start (p q : List Int) : EuI h p q (cnrP h p) (cnrP h q) where
 cP := cnrP_cn h p
 cQ := cnrP_cn h q
 lP := by have := cnrP_len h p; omega
 lQ := by have := cnrP_len h q; omega
 dv := fun e _ => by rw [pS_cnr, pS_cnr]
theorem remP_len {P Q : List Int} (hQ : CnL f Q) (q0 : 0 < Q.length) : (remP h P Q).length < Q.length := by
 have := lS_len h (dq_spec (pS_pol h P) (cn_top h hQ q0)).2.1
 unfold remP; omega
theorem EuI.next {p q P Q : List Int} (E : EuI h p q P Q) (q0 : 0 < Q.length) : EuI h p q Q (remP h P Q) where
 cP := E.cQ
 cQ := lS_cn h _
 lP := E.lQ
 lQ := by have := remP_len h (P := P) E.cQ q0; have := E.lQ; omega
 dv := fun e he => by
  have ht := cn_top h E.cQ q0
  rw [show pS h (remP h P Q) = dm (pS h P) (pS h Q) from pS_lS h (dm_pol (pS_pol h P) (pS_pol h Q) ht.ne), ← dv_step (pS_pol h P) ht]
  exact E.dv e he
theorem EuI.done {p q P Q : List Int} (E : EuI h p q P Q) (q0 : Q.length = 0) : monP h P = gcdP h p q := by
 unfold monP gcdP
 rw [gc_end (pS_pol h P) fun e he => ?_]
 rw [← E.dv e he, List.eq_nil_of_length_eq_zero q0, pS_nil]
end
end Go.Cw
set_option linter.unusedVariables false
set_option linter.unusedSimpArgs false
set_option linter.unusedSectionVars false
namespace Go.Cw
section
open La Ps
theorem lr_low {K : Type} [Fi K] {g : Nat → Ps K} {N : Nat} : ∀ {n : Nat}, (∀ i, i < n → Low (g i) N) → Low (Lr.sm g n) N
 | 0, _ => Low.zero N
 | n + 1, h => (lr_low fun i hi => h i (by omega)).add (h n (by omega))
theorem sg_low {K : Type} [Fi K] (c : Nat) : Low (Lr.sg c : Ps K) 1 := by
 unfold Lr.sg
 split
 ·exact Low.one.neg
 ·exact Low.one
theorem det_low {K : Type} [Fi K] {B : Nat} : ∀ {n : Nat} {A : Nat → Nat → Ps K}, (∀ i j, i < n → j < n → Low (A i j) B) → Low (Lr.det n A) (B * n + 1)
 | 0, _, _ => Low.one.mono (by omega)
 | n + 1, A, h => by
  rw [Lr.det_succ]
  refine lr_low fun c hc => ?_
  have h1 := det_low (n := n) (A := fun i j => A (i + 1) (Lr.sk c j)) fun i j hi hj => h (i + 1) (Lr.sk c j) (by omega) (by unfold Lr.sk; split <;> omega)
  have h2 := (sg_low (K := K) c).mul ((h 0 c (by omega) hc).mul h1)
  exact h2.mono (by rw [Nat.mul_add]; omega)
theorem dv_low {K : Type} [Fi K] {d a : Ps K} {N : Nat} (hd : Pol d) (h : Dv d a) (ha : a ≠ 0) (hl : Low a N) : Low d N := by
 obtain ⟨q, hq, e⟩ := h
 have hd0 : d ≠ 0 := fun e2 => ha (by rw [e, e2, Ri.mul_zero])
 have hq0 : q ≠ 0 := fun e2 => ha (by rw [e, e2, Ri.zero_mul])
 obtain ⟨n, hn⟩ := hd.top hd0
 obtain ⟨m, hm⟩ := hq.top hq0
 have ht := hm.mul hn
 rw [← e] at ht
 refine hn.2.mono (Classical.byContradiction fun hc => ht.1 (hl _ (by omega)))
namespace Cnv
variable (c : Cnv) (hF : FOk c.F)
noncomputable def cG (i j : Int) : Ps (KF c.F hF) := pS hF (ix [] (ix [] c.Gen i) j)
noncomputable def detD (row : Int) (cs : List Int) : Ps (KF c.F hF) := Lr.det (c.Gen.length - row.toNat) fun a b => c.cG hF (row + a) (ix 0 cs b)
def restC (cs : List Int) (i : Int) : List Int := List.take i.toNat cs ++ List.drop (i + 1).toNat cs
theorem length_restC {cs : List Int} {i : Int} (i0 : 0 ≤ i) (i1 : i < cs.length) : (restC cs i).length + 1 = cs.length := by
 unfold restC; rw [List.length_append, List.length_take, List.length_drop]; omega
theorem ix_restC {cs : List Int} {i : Nat} (i1 : i < cs.length) (b : Nat) : ix 0 (restC cs i) b = ix 0 cs (Lr.sk i b : Nat) := by
 unfold restC ix Lr.sk
 simp only [List.getD, Int.toNat_natCast]
 rw [show ((i : Int) + 1).toNat = i + 1 by omega]
 have hl : (List.take i cs).length = i := by rw [List.length_take]; omega
 by_cases hb : b < i
 ·rw [if_pos hb, List.getElem?_append_left (by omega), List.getElem?_take, if_pos hb]
 ·rw [if_neg hb, List.getElem?_append_right (by omega), hl, List.getElem?_drop, show i + 1 + (b - i) = b + 1 by omega]
theorem mem_restC {cs : List Int} {i x : Int} (h : x ∈ restC cs i) : x ∈ cs := by
 unfold restC at h
 rcases List.mem_append.1 h with h | h
 ·exact List.mem_of_mem_take h
 ·exact List.mem_of_mem_drop h
noncomputable def detS (row : Int) (cs : List Int) (i : Int) : Ps (KF c.F hF) := Lr.sm (fun t => Lr.sg t * (c.cG hF row (ix 0 cs t) * c.detD hF (row + 1) (restC cs t))) i.toNat
theorem detS_zero (row : Int) (cs : List Int) : c.detS hF row cs 0 = 0 := rfl
theorem detD_last {row : Int} (hr : row = c.Gen.length) (cs : List Int) : c.detD hF row cs = 1 := by
 unfold detD
 rw [show c.Gen.length - row.toNat = 0 by omega]; rfl
theorem detD_all {row : Int} {cs : List Int} (r0 : 0 ≤ row) (r1 : row < c.Gen.length) (hl : row + cs.length = c.Gen.length) {i : Int} (hi : i = cs.length) : c.detS hF row cs i = c.detD hF row cs := by
 obtain ⟨m, hm⟩ : ∃ m, c.Gen.length - row.toNat = m + 1 := ⟨c.Gen.length - row.toNat - 1, by omega⟩
 unfold detS
 conv => rhs; unfold detD
 rw [hm, Lr.det_succ, show i.toNat = m + 1 by omega]
 refine Lr.sm_congr fun t ht => ?_
 congr 2
 ·show c.cG hF row (ix 0 cs t) = c.cG hF (row + ((0 : Nat) : Int)) (ix 0 cs t)
  rw [show row + ((0 : Nat) : Int) = row by omega]
 ·unfold detD
  rw [show c.Gen.length - (row + 1).toNat = m by omega]
  refine Lr.det_congr fun a b ha hb => ?_
  rw [ix_restC (by omega), show row + 1 + (a : Int) = row + ((a + 1 : Nat) : Int) by omega]
theorem detS_succ {row : Int} {cs : List Int} {i : Int} (i0 : 0 ≤ i) : c.detS hF row cs (i + 1) = c.detS hF row cs i + Lr.sg i.toNat * (c.cG hF row (ix 0 cs i) * c.detD hF (row + 1) (restC cs i)) := by
 unfold detS
 rw [show (i + 1).toNat = i.toNat + 1 by omega]
 show Lr.sm _ i.toNat + Lr.sg i.toNat * (c.cG hF row (ix 0 cs ((i.toNat : Nat) : Int)) * c.detD hF (row + 1) (restC cs ((i.toNat : Nat) : Int))) = _
 rw [show ((i.toNat : Nat) : Int) = i by omega]
theorem Few.pol (hFew : c.Few) (i j : Int) : Low (c.cG hF i j) 40 := by
 unfold cG
 refine pS_low' hF _ _ ?_
 by_cases hi : i.toNat < c.Gen.length
 ·by_cases hj : j.toNat < (ix [] c.Gen i).length
  ·have hm : ix [] c.Gen i ∈ c.Gen := by
    unfold ix; simp only [List.getD]; rw [List.getElem?_eq_getElem hi]; exact List.getElem_mem hi
   have := (hFew.2 _ hm).2 (ix [] (ix [] c.Gen i) j) (by
    generalize ix [] c.Gen i = l at hj
    unfold ix; simp only [List.getD]; rw [List.getElem?_eq_getElem hj]; exact List.getElem_mem hj)
   omega
  ·have : ix [] (ix [] c.Gen i) j = [] := by
    generalize ix [] c.Gen i = l at hj
    unfold ix; simp only [List.getD]; rw [List.getElem?_eq_none (by omega)]; rfl
   rw [this]; simp
 ·have : ix [] c.Gen i = [] := by unfold ix; simp only [List.getD]; rw [List.getElem?_eq_none (by omega)]; rfl
  rw [this]
  have : ix [] ([] : List (List Int)) j = [] := by unfold ix; simp
  rw [this]; simp
theorem detD_low (hFew : c.Few) (row : Int) (cs : List Int) : Low (c.detD hF row cs) (40 * (c.Gen.length - row.toNat) + 1) := by
 unfold detD
 exact det_low fun i j _ _ => Few.pol c hF hFew _ _
theorem detD_low' (hFew : c.Few) (row : Int) (cs : List Int) : Low (c.detD hF row cs) 2801 := by
 refine (c.detD_low hF hFew row cs).mono ?_
 have := hFew.1
 unfold k at this
 omega
theorem detS_low (hFew : c.Few) (row : Int) (cs : List Int) (i : Int) : Low (c.detS hF row cs i) 2840 := by
 unfold detS
 refine lr_low fun t _ => ?_
 have h2 := (sg_low (K := KF c.F hF) t).mul ((Few.pol c hF hFew row (ix 0 cs t)).mul (c.detD_low' hF hFew (row + 1) (restC cs t)))
 exact h2.mono (by omega)
theorem detS_pol (hFew : c.Few) (row : Int) (cs : List Int) (i : Int) : Pol (c.detS hF row cs i) := ⟨_, c.detS_low hF hFew row cs i⟩
theorem detD_pol (hFew : c.Few) (row : Int) (cs : List Int) : Pol (c.detD hF row cs) := ⟨_, c.detD_low hF hFew row cs⟩
theorem det_even (hFew : c.Few) {row : Int} {cs : List Int} {i : Int} (i0 : 0 ≤ i) (he : i % 2 = 0) :
  addP hF (lS hF (c.detS hF row cs i)) (mulP hF (ix [] (ix [] c.Gen row) (ix 0 cs i)) (lS hF (c.detD hF (row + 1) (restC cs i)))) = lS hF (c.detS hF row cs (i + 1)) := by
 unfold addP
 rw [pS_mul, pS_lS hF (c.detS_pol hF hFew row cs i), pS_lS hF (c.detD_pol hF hFew _ _), c.detS_succ hF i0]
 congr 2
 unfold Lr.sg
 rw [if_neg (by omega), Ri.one_mul]; rfl
theorem det_odd (hFew : c.Few) {row : Int} {cs : List Int} {i : Int} (i0 : 0 ≤ i) (he : ¬ i % 2 = 0) :
  subP hF (lS hF (c.detS hF row cs i)) (mulP hF (ix [] (ix [] c.Gen row) (ix 0 cs i)) (lS hF (c.detD hF (row + 1) (restC cs i)))) = lS hF (c.detS hF row cs (i + 1)) := by
 unfold subP
 rw [pS_mul, pS_lS hF (c.detS_pol hF hFew row cs i), pS_lS hF (c.detD_pol hF hFew _ _), c.detS_succ hF i0]
 congr 2
 unfold Lr.sg
 rw [if_pos (by omega), Ri.neg_mul, Ri.one_mul]; rfl
def Inc : Int → List Int → Int → Prop
 | _, [], _ => True
 | a, b :: t, n => a ≤ b ∧ b < n ∧ Inc (b + 1) t n
def IsM (d : Ps (KF c.F hF)) (first : Int) (cs : List Int) : Prop :=
 Pol d ∧ Mon d ∧ ∀ e, Pol e → (Dv e d ↔ ∀ t, Inc first t c.n → cs.length + t.length = c.Gen.length → Dv e (c.detD hF 0 (cs ++ t)))
def IsT (d : Ps (KF c.F hF)) (first : Int) (cs : List Int) (j : Int) : Prop :=
 Pol d ∧ Mon d ∧ ∀ e, Pol e → (Dv e d ↔ ∀ a t, first ≤ a → a < j → Inc (a + 1) t c.n → cs.length + 1 + t.length = c.Gen.length → Dv e (c.detD hF 0 (cs ++ a :: t)))
variable {c hF}
theorem IsM.uniq {d d' : Ps (KF c.F hF)} {first : Int} {cs : List Int} (h : c.IsM hF d first cs) (h' : c.IsM hF d' first cs) : d = d' :=
 h.2.1.uniq h'.2.1 ((h'.2.2 d h.1).2 ((h.2.2 d h.1).1 (Dv.refl d))) ((h.2.2 d' h'.1).2 ((h'.2.2 d' h'.1).1 (Dv.refl d')))
theorem IsT.uniq {d d' : Ps (KF c.F hF)} {first : Int} {cs : List Int} {j : Int} (h : c.IsT hF d first cs j) (h' : c.IsT hF d' first cs j) : d = d' :=
 h.2.1.uniq h'.2.1 ((h'.2.2 d h.1).2 ((h.2.2 d h.1).1 (Dv.refl d))) ((h.2.2 d' h'.1).2 ((h'.2.2 d' h'.1).1 (Dv.refl d')))
theorem IsM.full {first : Int} {cs : List Int} (hFew : c.Few) (hl : cs.length = c.Gen.length) : c.IsM hF (mon (c.detD hF 0 cs)) first cs := by
 have hp := c.detD_pol hF hFew 0 cs
 refine ⟨mon_pol hp, mon_mon hp, fun e _ => ?_⟩
 rw [dv_mon hp]
 constructor
 ·intro h t _ ht
  have : t = [] := List.eq_nil_of_length_eq_zero (by omega)
  rw [this, List.append_nil]; exact h
 ·intro h
  have := h [] trivial (by simpa using hl)
  rwa [List.append_nil] at this
theorem IsT.start (first : Int) (cs : List Int) : c.IsT hF 0 first cs first :=
 ⟨Pol.zero, .inl rfl, fun e _ => ⟨fun _ a t h1 h2 => by omega, fun _ => Dv.zero e⟩⟩
theorem IsT.next {d g : Ps (KF c.F hF)} {first j : Int} {cs : List Int} (h : c.IsT hF d first cs j) (hj : first ≤ j) (hg : c.IsM hF g (j + 1) (cs ++ [j])) : c.IsT hF (gc d g) first cs (j + 1) := by
 obtain ⟨h1, h2, h3⟩ := gc_spec h.1 hg.1
 refine ⟨h1, h2, fun e he => ?_⟩
 rw [h3 e he, h.2.2 e he, hg.2.2 e he]
 constructor
 ·rintro ⟨x, y⟩ a t ha1 ha2 hi hl
  by_cases e2 : a = j
  ·subst e2
   have := y t hi (by rw [List.length_append]; simpa using hl)
   rwa [List.append_assoc] at this
  ·exact x a t ha1 (by omega) hi hl
 ·intro x
  refine ⟨fun a t ha1 ha2 => x a t ha1 (by omega), fun t hi hl => ?_⟩
  rw [List.append_assoc]
  exact x j t hj (by omega) hi (by rw [List.length_append] at hl; simpa using hl)
theorem IsT.done {d : Ps (KF c.F hF)} {first j : Int} {cs : List Int} (h : c.IsT hF d first cs j) (hj : j = c.n) (hl : cs.length < c.Gen.length) : c.IsM hF d first cs := by
 refine ⟨h.1, h.2.1, fun e he => ?_⟩
 rw [h.2.2 e he]
 constructor
 ·intro x t hi ht
  cases t with
  | nil => simp at ht; omega
  | cons a t => exact x a t hi.1 (by rw [hj]; exact hi.2.1) hi.2.2 (by simp at ht; omega)
 ·intro x a t h1 h2 h3 h4
  exact x (a :: t) ⟨h1, by omega, h3⟩ (by simp; omega)
theorem IsM.ex (hFew : c.Few) : ∀ (m : Nat) {first : Int} {cs : List Int}, cs.length + m = c.Gen.length → first ≤ c.n → ∃ d, c.IsM hF d first cs
 | 0, first, cs, hl, _ => ⟨_, IsM.full hFew (by omega)⟩
 | m + 1, first, cs, hl, hf => by
  have key : ∀ z : Nat, first + z ≤ c.n → ∃ d, c.IsT hF d first cs (first + z) := by
   intro z
   induction z with
   | zero => intro _; exact ⟨0, by have := IsT.start (c := c) (hF := hF) first cs; simpa using this⟩
   | succ z ih =>
    intro hz
    obtain ⟨d, hd⟩ := ih (by omega)
    obtain ⟨g, hg⟩ := IsM.ex hFew m (first := first + z + 1) (cs := cs ++ [first + z]) (by rw [List.length_append]; simp; omega) (by omega)
    have := hd.next (by omega) hg
    refine ⟨gc d g, ?_⟩
    rw [show first + ((z + 1 : Nat) : Int) = first + z + 1 by omega]
    exact this
  obtain ⟨d, hd⟩ := key (c.n - first).toNat (by omega)
  exact ⟨d, hd.done (by omega) (by omega)⟩
variable (c hF)
open Classical in
noncomputable def mP (first : Int) (cs : List Int) : Ps (KF c.F hF) := if g : ∃ d, c.IsM hF d first cs then Classical.choose g else 0
open Classical in
noncomputable def mT (first : Int) (cs : List Int) (j : Int) : Ps (KF c.F hF) := if g : ∃ d, c.IsT hF d first cs j then Classical.choose g else 0
variable {c hF}
theorem mP_eq {d : Ps (KF c.F hF)} {first : Int} {cs : List Int} (h : c.IsM hF d first cs) : c.mP hF first cs = d := by
 have hg : ∃ d, c.IsM hF d first cs := ⟨d, h⟩
 unfold mP
 rw [dif_pos hg]
 exact (Classical.choose_spec hg).uniq h
theorem mT_eq {d : Ps (KF c.F hF)} {first j : Int} {cs : List Int} (h : c.IsT hF d first cs j) : c.mT hF first cs j = d := by
 have hg : ∃ d, c.IsT hF d first cs j := ⟨d, h⟩
 unfold mT
 rw [dif_pos hg]
 exact (Classical.choose_spec hg).uniq h
theorem mP_spec (hFew : c.Few) {first : Int} {cs : List Int} (hl : cs.length ≤ c.Gen.length) (hf : first ≤ c.n) : c.IsM hF (c.mP hF first cs) first cs := by
 obtain ⟨d, hd⟩ := IsM.ex (c := c) (hF := hF) hFew (c.Gen.length - cs.length) (first := first) (cs := cs) (by omega) hf
 rw [mP_eq hd]; exact hd
theorem mT_zero (first : Int) (cs : List Int) : c.mT hF first cs first = 0 := mT_eq (IsT.start first cs)
theorem mT_spec (hFew : c.Few) {first j : Int} {cs : List Int} (hl : cs.length < c.Gen.length) (hj : first ≤ j) (hn : j ≤ c.n) : c.IsT hF (c.mT hF first cs j) first cs j := by
 have key : ∀ z : Nat, first + z ≤ c.n → c.IsT hF (c.mT hF first cs (first + z)) first cs (first + z) := by
  intro z
  induction z with
  | zero =>
   intro _
   have := IsT.start (c := c) (hF := hF) first cs
   rw [show first + ((0 : Nat) : Int) = first by omega, mT_eq this]
   exact this
  | succ z ih =>
   intro hz
   have := (ih (by omega)).next (by omega) (mP_spec hFew (first := first + z + 1) (cs := cs ++ [first + z]) (by rw [List.length_append]; simp; omega) (by omega))
   rw [show first + ((z + 1 : Nat) : Int) = first + z + 1 by omega, mT_eq this]
   exact this
 have := key (j - first).toNat (by omega)
 rwa [show first + ((j - first).toNat : Int) = j by omega] at this
theorem mT_step (hFew : c.Few) {first j : Int} {cs : List Int} (hl : cs.length < c.Gen.length) (hj : first ≤ j) (hn : j < c.n) :
  gcdP hF (lS hF (c.mT hF first cs j)) (lS hF (c.mP hF (j + 1) (cs ++ [j]))) = lS hF (c.mT hF first cs (j + 1)) := by
 have h1 := mT_spec (hF := hF) hFew hl hj (Int.le_of_lt hn)
 have h2 := mP_spec (hF := hF) hFew (first := j + 1) (cs := cs ++ [j]) (by rw [List.length_append]; simp; omega) (by omega)
 unfold gcdP
 rw [pS_lS hF h1.1, pS_lS hF h2.1, mT_eq (h1.next hj h2)]
theorem mT_done (hFew : c.Few) {first j : Int} {cs : List Int} (hl : cs.length < c.Gen.length) (hj : first ≤ j) (hn : j = c.n) : c.mT hF first cs j = c.mP hF first cs := by
 have h1 := mT_spec (hF := hF) hFew hl hj (Int.le_of_eq hn)
 rw [mP_eq (h1.done hn hl)]
theorem mP_full (hFew : c.Few) {first : Int} {cs : List Int} (hl : cs.length = c.Gen.length) : monP hF (lS hF (c.detD hF 0 cs)) = lS hF (c.mP hF first cs) := by
 unfold monP
 rw [pS_lS hF (c.detD_pol hF hFew 0 cs), mP_eq (IsM.full hFew hl)]
theorem mP_len (hFew : c.Few) {first : Int} {cs : List Int} (hl : cs.length ≤ c.Gen.length) (hf : first ≤ c.n) : (lS hF (c.mP hF first cs)).length ≤ 2801 := by
 have h := mP_spec (hF := hF) hFew hl hf
 by_cases hz : c.mP hF first cs = 0
 ·rw [hz, lS_zero]; simp
 ·have hn : ¬ ∀ t, Inc first t c.n → cs.length + t.length = c.Gen.length → Dv 0 (c.detD hF 0 (cs ++ t)) := fun h2 => hz ((h.2.2 0 Pol.zero).2 h2).of_zero
  have : ∃ t, Inc first t c.n ∧ cs.length + t.length = c.Gen.length ∧ c.detD hF 0 (cs ++ t) ≠ 0 := Classical.byContradiction fun hc => hn fun t h1 h2 => Classical.byContradiction fun h3 => hc ⟨t, h1, h2, fun e => h3 (by rw [e]; exact Dv.zero 0)⟩
  obtain ⟨t, h1, h2, h3⟩ := this
  exact lS_len hF (dv_low h.1 ((h.2.2 _ h.1).1 (Dv.refl _) t h1 h2) h3 (c.detD_low' hF hFew 0 _))
theorem mT_len (hFew : c.Few) {first j : Int} {cs : List Int} (hl : cs.length < c.Gen.length) (hj : first ≤ j) (hn : j ≤ c.n) : (lS hF (c.mT hF first cs j)).length ≤ 2801 := by
 have h := mT_spec (hF := hF) hFew hl hj hn
 by_cases hz : c.mT hF first cs j = 0
 ·rw [hz, lS_zero]; simp
 ·have hn : ¬ ∀ a t, first ≤ a → a < j → Inc (a + 1) t c.n → cs.length + 1 + t.length = c.Gen.length → Dv 0 (c.detD hF 0 (cs ++ a :: t)) := fun h2 => hz ((h.2.2 0 Pol.zero).2 h2).of_zero
  have : ∃ a t, first ≤ a ∧ a < j ∧ Inc (a + 1) t c.n ∧ cs.length + 1 + t.length = c.Gen.length ∧ c.detD hF 0 (cs ++ a :: t) ≠ 0 := Classical.byContradiction fun hc => hn fun a t h1 h2 h3 h4 => Classical.byContradiction fun h5 => hc ⟨a, t, h1, h2, h3, h4, fun e => h5 (by rw [e]; exact Dv.zero 0)⟩
  obtain ⟨a, t, h1, h2, h3, h4, h5⟩ := this
  exact lS_len hF (dv_low h.1 ((h.2.2 _ h.1).1 (Dv.refl _) a t h1 h2 h3 h4) h5 (c.detD_low' hF hFew 0 _))
end Cnv
end
end Go.Cw
set_option linter.unusedVariables false
set_option linter.unusedSimpArgs false
set_option linter.unusedSectionVars false
namespace Go.Cw
section
open La Ps
variable {K : Type} [Fi K]
def dL (k : Nat) (V : Int → Nat → Ps K) (cs : List Int) : Ps K := Lr.det k fun a b => V (ix 0 cs b) a
def AllD (e : Ps K) (k : Nat) (n : Int) (V : Int → Nat → Ps K) : Prop := ∀ cs : List Int, cs.length = k → (∀ x ∈ cs, 0 ≤ x ∧ x < n) → Dv e (dL k V cs)
theorem ix_mid (p q : List Int) (x y : Int) (b : Nat) : ix 0 (p ++ x :: y :: q) b = if b < p.length then ix 0 p b else if b = p.length then x else if b = p.length + 1 then y else ix 0 q (b - p.length - 2 : Nat) := by
 unfold ix
 simp only [List.getD, Int.toNat_natCast]
 by_cases h1 : b < p.length
 ·rw [if_pos h1, List.getElem?_append_left h1]
 ·rw [if_neg h1, List.getElem?_append_right (by omega)]
  obtain ⟨m, hm⟩ : ∃ m, b - p.length = m := ⟨_, rfl⟩
  rw [hm]
  match m, hm with
  | 0, hm => rw [if_pos (by omega)]; rfl
  | 1, hm => rw [if_neg (by omega), if_pos (by omega)]; rfl
  | m + 2, hm => rw [if_neg (by omega), if_neg (by omega)]; rfl
theorem dL_dup {k : Nat} (V : Int → Nat → Ps K) (p q : List Int) (x : Int) (hl : (p ++ x :: x :: q).length = k) : dL k V (p ++ x :: x :: q) = 0 := by
 simp only [List.length_append, List.length_cons] at hl
 refine Lr.det_same (q := p.length) (k := p.length + 1) (by omega) (by omega) (by omega) fun i => ?_
 rw [ix_mid, ix_mid, if_neg (by omega), if_pos rfl, if_neg (by omega), if_neg (by omega), if_pos rfl]
theorem dL_swap {k : Nat} (V : Int → Nat → Ps K) (p q : List Int) (x y : Int) (hl : (p ++ x :: y :: q).length = k) : dL k V (p ++ y :: x :: q) = -(dL k V (p ++ x :: y :: q)) := by
 simp only [List.length_append, List.length_cons] at hl
 unfold dL
 rw [← Lr.det_swap (fun a b => V (ix 0 (p ++ x :: y :: q) b) a) (q := p.length) (k := p.length + 1) (by omega) (by omega) (by omega)]
 refine Lr.det_congr fun a b _ _ => ?_
 unfold Lr.two
 dsimp only
 by_cases h1 : b = p.length
 ·rw [if_pos h1, ix_mid, ix_mid, if_neg (by omega), if_pos h1, if_neg (by omega), if_neg (by omega), if_pos rfl]
 ·rw [if_neg h1]
  by_cases h2 : b = p.length + 1
  ·rw [if_pos h2, ix_mid, ix_mid, if_neg (by omega), if_neg h1, if_pos h2, if_neg (by omega), if_pos rfl]
  ·rw [if_neg h2, ix_mid, ix_mid]
   by_cases h3 : b < p.length
   ·rw [if_pos h3, if_pos h3]
   ·rw [if_neg h3, if_neg h1, if_neg h2, if_neg h3, if_neg h1, if_neg h2]
theorem dL_perm {e : Ps K} {k : Nat} (V : Int → Nat → Ps K) {l l' : List Int} (h : l.Perm l') : ∀ p : List Int, (p ++ l).length = k → (Dv e (dL k V (p ++ l)) ↔ Dv e (dL k V (p ++ l'))) := by
 induction h with
 | nil => exact fun p _ => Iff.rfl
 | cons x _ ih =>
  intro p hl
  have := ih (p ++ [x]) (by simpa using hl)
  simpa using this
 | swap x y l =>
  intro p hl
  rw [dL_swap V p l y x hl]
  exact ⟨Dv.neg, Dv.of_neg⟩
 | trans h1 h2 ih1 ih2 =>
  intro p hl
  rw [ih1 p hl]
  exact ih2 p (by rw [List.length_append, ← h1.length_eq, ← List.length_append]; exact hl)
theorem inc_or : ∀ (l : List Int) {lo n : Int}, l.Pairwise (· ≤ ·) → (∀ x ∈ l, lo ≤ x ∧ x < n) → Cnv.Inc lo l n ∨ ∃ p x q, l = p ++ x :: x :: q
 | [], _, _, _, _ => .inl trivial
 | [a], lo, n, _, h => .inl ⟨(h a (by simp)).1, (h a (by simp)).2, trivial⟩
 | a :: b :: l, lo, n, hp, h => by
  have ha := h a (by simp)
  rw [List.pairwise_cons] at hp
  by_cases e : a = b
  ·exact .inr ⟨[], a, l, by rw [← e]; rfl⟩
  ·have hab := hp.1 b (by simp)
   have hp2 := hp.2
   rcases inc_or (b :: l) (lo := a + 1) (n := n) hp2 (fun x hx => ⟨by
    rcases List.mem_cons.1 hx with hx | hx
    ·omega
    ·have := (List.pairwise_cons.1 hp2).1 x hx; omega, (h x (List.mem_cons_of_mem _ hx)).2⟩) with h1 | ⟨p, x, q, h1⟩
   ·exact .inl ⟨ha.1, ha.2, h1⟩
   ·exact .inr ⟨a :: p, x, q, by rw [h1]; rfl⟩
theorem inc_mem : ∀ (l : List Int) {lo n : Int}, Cnv.Inc lo l n → ∀ x ∈ l, lo ≤ x ∧ x < n
 | a :: l, lo, n, h, x, hx => by
  rcases List.mem_cons.1 hx with e | hx
  ·rw [e]; exact ⟨h.1, h.2.1⟩
  ·have := inc_mem l h.2.2 x hx
   have := h.1
   omega
theorem all_inc {e : Ps K} {k : Nat} {n : Int} {V : Int → Nat → Ps K} : AllD e k n V ↔ ∀ t, Cnv.Inc 0 t n → t.length = k → Dv e (dL k V t) := by
 constructor
 ·exact fun h t hi hl => h t hl fun x hx => inc_mem t hi x hx
 ·intro h cs hl hx
  have hp : (cs.mergeSort (fun a b => decide (a ≤ b))).Perm cs := List.mergeSort_perm _ _
  have hs : (cs.mergeSort (fun a b => decide (a ≤ b))).Pairwise (fun a b => decide (a ≤ b) = true) := List.pairwise_mergeSort (fun a b c h1 h2 => by simp at *; omega) (fun a b => by simp; omega) cs
  generalize cs.mergeSort (fun a b => decide (a ≤ b)) = l at hp hs
  have hs2 : l.Pairwise (· ≤ ·) := hs.imp fun h => by simpa using h
  have hll : l.length = k := by rw [hp.length_eq, hl]
  have := (dL_perm (e := e) V hp [] (by simpa using hll)).1
  simp only [List.nil_append] at this
  refine this ?_
  rcases inc_or l hs2 (lo := 0) (n := n) (fun x h1 => hx x (hp.mem_iff.1 h1)) with h1 | ⟨p, x, q, h1⟩
  ·exact h l h1 hll
  ·rw [h1] at hll ⊢
   rw [dL_dup V p q x hll]; exact Dv.zero e
theorem all_cols {e : Ps K} {k : Nat} {n : Int} {V W : Int → Nat → Ps K} (hV : AllD e k n V) (hW : ∀ j, 0 ≤ j → j < n → ∃ u v x, 0 ≤ u ∧ u < n ∧ 0 ≤ v ∧ v < n ∧ Pol x ∧ ∀ a, W j a = V u a + x * V v a) : AllD e k n W := by
 have key : ∀ (m : Nat) (C : Nat → Nat → Ps K), m ≤ k → (∀ b, b < m → ∃ u v x, 0 ≤ u ∧ u < n ∧ 0 ≤ v ∧ v < n ∧ Pol x ∧ ∀ a, C a b = V u a + x * V v a) → (∀ b, m ≤ b → b < k → ∃ u, 0 ≤ u ∧ u < n ∧ ∀ a, C a b = V u a) → Dv e (Lr.det k C) := by
  intro m
  induction m with
  | zero =>
   intro C _ _ h
   have hx : ∀ b : Int, ∃ u : Int, 0 ≤ b → b < (k : Int) → (0 ≤ u ∧ u < n ∧ ∀ a, C a b.toNat = V u a) := fun b => by
    by_cases hb : 0 ≤ b ∧ b < k
    ·obtain ⟨u, h1⟩ := h b.toNat (by omega) (by omega)
     exact ⟨u, fun _ _ => h1⟩
    ·exact ⟨0, fun h1 h2 => absurd ⟨h1, h2⟩ hb⟩
   let g : Int → Int := fun b => Classical.choose (hx b)
   have hg : ∀ b : Int, 0 ≤ b → b < (k : Int) → (0 ≤ g b ∧ g b < n ∧ ∀ a, C a b.toNat = V (g b) a) := fun b => Classical.choose_spec (hx b)
   have := hV (mapR g k) (by rw [length_mapR]; omega) (fun x hx => by
    unfold mapR at hx
    obtain ⟨b, hb, rfl⟩ := List.mem_map.1 hx
    rw [List.mem_range] at hb
    have := hg b (by omega) (by omega)
    exact ⟨this.1, this.2.1⟩)
   have he : dL k V (mapR g k) = Lr.det k C := Lr.det_congr fun a b _ hb => by
    rw [ix_mapR 0 g (by omega) (by omega)]
    have := (hg b (by omega) (by omega)).2.2 a
    rw [Int.toNat_natCast] at this
    exact this.symm
   rwa [he] at this
  | succ m ih =>
   intro C hm h1 h2
   obtain ⟨u, v, x, u0, u1, v0, v1, hx, hC⟩ := h1 m (by omega)
   have hd := Lr.det_lin (n := k) (A := fun a b => if b = m then V u a else C a b) (B := fun a b => if b = m then V v a else C a b) (C := C) m x (by omega)
    (fun i j hj => by rw [if_neg hj]) (fun i j hj => by rw [if_neg hj, if_neg hj]) (fun i => by rw [if_pos rfl, if_pos rfl]; exact hC i)
   have side : ∀ w, 0 ≤ w → w < n → Dv e (Lr.det k fun a b => if b = m then V w a else C a b) := fun w w0 w1 => by
    refine ih _ (by omega) (fun b hb => ?_) (fun b hb hbk => ?_)
    ·obtain ⟨u, v, x, g1, g2, g3, g4, g5, g6⟩ := h1 b (by omega)
     exact ⟨u, v, x, g1, g2, g3, g4, g5, fun a => by rw [if_neg (by omega)]; exact g6 a⟩
    ·by_cases e2 : b = m
     ·exact ⟨w, w0, w1, fun a => by rw [if_pos e2]⟩
     ·obtain ⟨u, g1, g2, g3⟩ := h2 b (by omega) hbk
      exact ⟨u, g1, g2, fun a => by rw [if_neg e2]; exact g3 a⟩
   rw [hd]
   exact (side u u0 u1).add ((side v v0 v1).mul hx)
 intro cs hl hx
 refine key k _ (Nat.le_refl k) (fun b hb => ?_) (fun b hb hbk => by omega)
 have hm := hx (ix 0 cs b) (ix_mem 0 cs (by omega) (by omega))
 exact hW _ hm.1 hm.2
def prD (A : Nat → Nat → Ps K) : Nat → Ps K
 | 0 => 1
 | n + 1 => prD A n * A n n
theorem prD_head (A : Nat → Nat → Ps K) : ∀ n, prD A (n + 1) = A 0 0 * prD (fun i j => A (i + 1) (j + 1)) n
 | 0 => by show 1 * A 0 0 = A 0 0 * 1; rw [Ri.one_mul, Ri.mul_one]
 | n + 1 => by
  show prD A (n + 1) * A (n + 1) (n + 1) = A 0 0 * (prD (fun i j => A (i + 1) (j + 1)) n * A (n + 1) (n + 1))
  rw [prD_head A n, Ri.mul_assoc]
theorem det_tri : ∀ {n : Nat} {A : Nat → Nat → Ps K}, (∀ i j, i < n → j < n → i < j → A i j = 0) → Lr.det n A = prD A n
 | 0, _, _ => rfl
 | n + 1, A, h => by
  rw [Lr.det_succ, Lr.sm_one (k := 0) (by omega) fun c hc hne => by rw [h 0 c (by omega) hc (by omega), Ri.zero_mul, Ri.mul_zero], prD_head]
  have e : Lr.det n (fun i j => A (i + 1) (Lr.sk 0 j)) = prD (fun i j => A (i + 1) (j + 1)) n := by
   rw [← det_tri (n := n) (A := fun i j => A (i + 1) (j + 1)) fun i j hi hj hij => h (i + 1) (j + 1) (by omega) (by omega) (by omega)]
   exact Lr.det_congr fun i j _ _ => by unfold Lr.sk; rw [if_neg (by omega)]
  rw [e]
  show Lr.sg 0 * _ = _
  unfold Lr.sg
  rw [if_neg (by omega), Ri.one_mul]
theorem det_zero_col {n : Nat} {A : Nat → Nat → Ps K} {q : Nat} (hq : q < n) (h : ∀ i, i < n → A i q = 0) : Lr.det n A = 0 := by
 have e : Lr.det n A = Lr.det n (fun i j => if j = q then 0 else A i j) := Lr.det_congr fun i j hi hj => by
  split
  ·rename_i e; rw [e, h i hi]
  ·rfl
 have := Lr.det_lin (n := n) (A := fun i j => if j = q then 0 else A i j) (B := fun i j => if j = q then 0 else A i j) (C := fun i j => if j = q then 0 else A i j) q (-1) hq (fun i j hj => rfl) (fun i j hj => rfl) (fun i => by rw [if_pos rfl, Ri.mul_zero, Ri.add_zero])
 rw [e, this, Ri.neg_mul, Ri.one_mul, Ri.add_neg]
theorem inc_range {k : Int} : ∀ (t : List Int) {a n : Int}, Cnv.Inc a t n → (∀ x ∈ t, x < k) → a + t.length = k → ∀ b : Nat, b < t.length → ix 0 t b = a + b
 | x :: t, a, n, h, hk, hl, b, hb => by
  have hx : x = a := by
   have hb2 : ∀ (t : List Int) (lo : Int), Cnv.Inc lo t n → (∀ y ∈ t, y < k) → t = [] ∨ lo + t.length ≤ k := by
    intro t
    induction t with
    | nil => exact fun _ _ _ => .inl rfl
    | cons y t ih =>
     intro lo hi hk
     have h1 := hk y (by simp)
     have h2 := hi.1
     rcases ih (y + 1) hi.2.2 (fun z hz => hk z (List.mem_cons_of_mem _ hz)) with e | e
     ·right; rw [e]; simp; omega
     ·right; simp only [List.length_cons]; omega
   rcases hb2 (x :: t) x ⟨Int.le_refl x, h.2.1, h.2.2⟩ hk with e | e
   ·cases e
   ·have := h.1; omega
  cases b with
  | zero => show x = a + 0; omega
  | succ b =>
   have := inc_range t h.2.2 (fun y hy => hk y (List.mem_cons_of_mem _ hy)) (by simp only [List.length_cons] at hl; omega) b (by simp only [List.length_cons] at hb; omega)
   have e : ix 0 (x :: t) ((b + 1 : Nat) : Int) = ix 0 t (b : Nat) := by unfold ix; simp
   rw [e, this]; omega
theorem tri_all {e : Ps K} {k : Nat} {n : Int} {V : Int → Nat → Ps K} (hk : k ≤ n) (hz : ∀ (a : Nat) (j : Int), a < k → (a : Int) < j → j < n → V j a = 0) : Dv e (prD (fun a b => V b a) k) ↔ AllD e k n V := by
 have hdet : ∀ t : List Int, t.length = k → (∀ b : Nat, b < k → ix 0 t b = b) → dL k V t = prD (fun a b => V b a) k := fun t hl ht => by
  rw [← det_tri (n := k) (A := fun a b => V b a) fun i j hi hj hij => hz i j hi (by omega) (by omega)]
  exact Lr.det_congr fun a b _ hb => by rw [ht b hb]
 rw [all_inc]
 constructor
 ·intro h t hi hl
  by_cases hb : ∃ b : Nat, b < k ∧ (k : Int) ≤ ix 0 t b
  ·obtain ⟨b, hb, hb2⟩ := hb
   have hm := inc_mem t hi _ (ix_mem 0 t (i := b) (by omega) (by omega))
   unfold dL
   rw [det_zero_col hb fun i hi => hz i _ hi (by omega) hm.2]
   exact Dv.zero e
  ·have hlt : ∀ x ∈ t, x < (k : Int) := fun x hx => by
    obtain ⟨b, hb1, hb2⟩ := List.getElem_of_mem hx
    refine Classical.byContradiction fun hc => hb ⟨b, by omega, ?_⟩
    have : ix 0 t b = x := by unfold ix; simp [List.getD, hb1, hb2]
    omega
   have := inc_range t hi hlt (by omega)
   rw [hdet t hl fun b hb => by rw [this b (by omega)]; omega]
   exact h
 ·intro h
  have hi : ∀ (m : Nat) (a : Int), 0 ≤ a → a + m = k → Cnv.Inc a (mapR (fun b => a + b) m) n := by
   intro m
   induction m with
   | zero => intro a _ _; exact trivial
   | succ m ih =>
    intro a a0 ha
    have e : mapR (fun b => a + b) ((m + 1 : Nat) : Int) = a :: mapR (fun b => a + 1 + b) m := by
     unfold mapR
     rw [show (((m + 1 : Nat) : Int)).toNat = m + 1 by omega, List.range_succ_eq_map, List.map_cons, List.map_map]
     congr 1
     ·show a + ((0 : Nat) : Int) = a; omega
     ·rw [show ((m : Int)).toNat = m by omega]
      refine List.map_congr_left fun b _ => ?_
      show a + ((b + 1 : Nat) : Int) = a + 1 + b
      omega
    rw [e]
    exact ⟨Int.le_refl a, by omega, ih (a + 1) (by omega) (by omega)⟩
  have h2 := h _ (hi k 0 (by omega) (by omega)) (by rw [length_mapR]; omega)
  rwa [hdet _ (by rw [length_mapR]; omega) fun b hb => by rw [ix_mapR 0 _ (by omega) (by omega)]; omega] at h2
end
end Go.Cw
set_option linter.unusedVariables false
set_option linter.unusedSimpArgs false
set_option linter.unusedSectionVars false
namespace Go.Cw
section
open La Ps
theorem ixG_map {α β : Type} (d : α) (d' : β) (g : α → β) (l : List α) {i : Int} (h0 : 0 ≤ i) (h1 : i < l.length) : ix d' (l.map g) i = g (ix d l i) := by
 have hi : i.toNat < l.length := by omega
 simp [ix, List.getD, hi]
theorem ixG_set {α : Type} (d : α) (l : List α) {k m : Int} (h0 : 0 ≤ k) (h1 : k < l.length) (m0 : 0 ≤ m) (v : α) : ix d (l.set k.toNat v) m = if m = k then v else ix d l m := by
 unfold ix
 simp only [List.getD, List.getElem?_set]
 by_cases e : m = k
 ·rw [if_pos e, if_pos (by omega), if_pos (by omega)]; rfl
 ·rw [if_neg e, if_neg (by omega)]
theorem ix_appL {α : Type} (d : α) (a b : List α) {i : Int} (h0 : 0 ≤ i) (h1 : i < a.length) : ix d (a ++ b) i = ix d a i := by
 unfold ix; simp only [List.getD]; rw [List.getElem?_append_left (by omega)]
theorem ix_appR {α : Type} (d : α) (a b : List α) {i : Int} (h0 : 0 ≤ i) : ix d (a ++ b) (a.length + i) = ix d b i := by
 unfold ix; simp only [List.getD]; rw [List.getElem?_append_right (by omega), show ((a.length : Int) + i).toNat - a.length = i.toNat by omega]
abbrev L3 := List (List (List Int))
def eL (Y : List (List (List Int))) (i j : Int) : List Int := ix [] (ix [] Y i) j
theorem sm_pair {R : Type} [Ri R] {F F' : Nat → R} {i j n : Nat} (hi : i < n) (hj : j < n) (hne : i ≠ j) (h : ∀ t, t < n → t ≠ i → t ≠ j → F' t = F t) (e : F' i + F' j = F i + F j) : Lr.sm F' n = Lr.sm F n := by
 have key : ∀ G : Nat → R, Lr.sm G n = Lr.sm (fun t => if t = i ∨ t = j then 0 else G t) n + (G i + G j) := fun G => by
  have h1 : Lr.sm G n = Lr.sm (fun t => (if t = i ∨ t = j then 0 else G t) + ((if t = i then G i else 0) + (if t = j then G j else 0))) n := Lr.sm_congr fun t _ => by
   by_cases a : t = i
   ·subst a; rw [if_pos (.inl rfl), if_pos rfl, if_neg hne, Ri.add_zero, Ri.zero_add]
   ·by_cases b : t = j
    ·subst b; rw [if_pos (.inr rfl), if_neg a, if_pos rfl, Ri.zero_add, Ri.zero_add]
    ·rw [if_neg (fun g => g.elim a b), if_neg a, if_neg b, Ri.add_zero, Ri.add_zero]
  rw [h1, Lr.sm_add, Lr.sm_add, Lr.sm_one (g := fun t => if t = i then G i else 0) (k := i) hi fun t _ hn => if_neg hn, Lr.sm_one (g := fun t => if t = j then G j else 0) (k := j) hj fun t _ hn => if_neg hn, if_pos rfl, if_pos rfl]
 rw [key F', key F, e]
 congr 1
 refine Lr.sm_congr fun t ht => ?_
 by_cases a : t = i ∨ t = j
 ·rw [if_pos a, if_pos a]
 ·rw [if_neg a, if_neg a, h t ht (fun g => a (.inl g)) (fun g => a (.inr g))]
noncomputable def colR {f : Fld} (h : FOk f) (i j : Int) (q : List Int) (r : List (List Int)) : List (List Int) := (r.set i.toNat (ix [] r j)).set j.toNat (subP h (ix [] r i) (mulP h q (ix [] r j)))
namespace Cnv
variable (c : Cnv) (hF : FOk c.F)
noncomputable def vG : Int → Nat → Ps (KF c.F hF) := fun j a => c.cG hF a j
noncomputable def vY (Y : List (List (List Int))) : Int → Nat → Ps (KF c.F hF) := fun j a => pS hF (eL Y a j)
theorem detD_dL (cs : List Int) : c.detD hF 0 cs = dL c.Gen.length (c.vG hF) cs := by
 unfold detD dL vG
 rw [show c.Gen.length - (0 : Int).toNat = c.Gen.length from rfl]
 exact Lr.det_congr fun a b _ _ => by rw [Int.zero_add]
structure TrI (Y : List (List (List Int))) : Prop where
 len : (Y.length : Int) = c.k + c.n
 row : ∀ i, 0 ≤ i → i < c.k + c.n → ((ix [] Y i).length : Int) = c.n
 cn : ∀ i j, 0 ≤ i → i < c.k + c.n → 0 ≤ j → j < c.n → CnL c.F (eL Y i j)
 lin : ∀ i j : Int, 0 ≤ i → i < c.k → 0 ≤ j → j < c.n → pS hF (eL Y i j) = Lr.sm (fun t => c.cG hF i t * pS hF (eL Y (c.k + t) j)) c.n.toNat
 mi : ∀ e, AllD e c.Gen.length c.n (c.vG hF) ↔ AllD e c.Gen.length c.n (c.vY hF Y)
 iv : ∃ Q : Nat → Nat → Ps (KF c.F hF), (∀ t j, Pol (Q t j)) ∧ ∀ i j : Int, 0 ≤ i → i < c.k → 0 ≤ j → j < c.n → c.cG hF i j = Lr.sm (fun t => pS hF (eL Y i t) * Q t j.toNat) c.n.toNat
variable {c hF}
theorem eL_col {Y : List (List (List Int))} (T : c.TrI hF Y) {i j : Int} (q : List Int) (i0 : 0 ≤ i) (i1 : i < c.n) (j0 : 0 ≤ j) (j1 : j < c.n) {a m : Int} (a0 : 0 ≤ a) (a1 : a < c.k + c.n) (m0 : 0 ≤ m) :
  eL (Y.map (colR hF i j q)) a m = if m = j then subP hF (eL Y a i) (mulP hF q (eL Y a j)) else if m = i then eL Y a j else eL Y a m := by
 have hl := T.len
 have hr := T.row a a0 a1
 unfold eL
 rw [ixG_map [] [] _ Y a0 (by omega)]
 unfold colR
 rw [ixG_set [] _ j0 (by rw [List.length_set]; omega) m0, ixG_set [] _ i0 (by omega) m0]
theorem TrI.step {Y : List (List (List Int))} (T : c.TrI hF Y) {i j : Int} (q : List Int) (i0 : 0 ≤ i) (i1 : i < c.n) (j0 : 0 ≤ j) (j1 : j < c.n) (hij : i ≠ j) : c.TrI hF (Y.map (colR hF i j q)) := by
 have hk0 : 0 ≤ c.k := by unfold k; omega
 have hn0 : 0 ≤ c.n := by omega
 refine ⟨by rw [List.length_map]; exact T.len, fun a a0 a1 => ?_, fun a m a0 a1 m0 m1 => ?_, fun a m a0 a1 m0 m1 => ?_, fun e => ?_, ?_⟩
 ·have hl := T.len
  rw [ixG_map [] [] _ Y a0 (by omega)]
  unfold colR
  rw [List.length_set, List.length_set]; exact T.row a a0 a1
 ·rw [eL_col T q i0 i1 j0 j1 a0 a1 m0]
  split
  ·exact lS_cn hF _
  ·split
   ·exact T.cn a j a0 a1 j0 j1
   ·exact T.cn a m a0 a1 m0 m1
 ·rw [eL_col T q i0 i1 j0 j1 a0 (by omega) m0]
  have hs : ∀ t : Nat, t < c.n.toNat → eL (Y.map (colR hF i j q)) (c.k + t) m = if m = j then subP hF (eL Y (c.k + t) i) (mulP hF q (eL Y (c.k + t) j)) else if m = i then eL Y (c.k + t) j else eL Y (c.k + t) m := fun t ht => eL_col T q i0 i1 j0 j1 (by omega) (by omega) m0
  rw [Lr.sm_congr (h := fun t => c.cG hF a t * pS hF (if m = j then subP hF (eL Y (c.k + t) i) (mulP hF q (eL Y (c.k + t) j)) else if m = i then eL Y (c.k + t) j else eL Y (c.k + t) m)) fun t ht => by rw [hs t ht]]
  by_cases e1 : m = j
  ·simp only [if_pos e1]
   rw [pS_sub, pS_mul, T.lin a i a0 a1 i0 i1, T.lin a j a0 a1 j0 j1]
   rw [← Lr.sm_mul, ← Lr.sm_neg, ← Lr.sm_add]
   refine Lr.sm_congr fun t _ => ?_
   rw [pS_sub, pS_mul, Ri.mul_add, Ri.mul_neg]
   congr 2
   ac_rfl
  ·simp only [if_neg e1]
   by_cases e2 : m = i
   ·simp only [if_pos e2]; exact T.lin a j a0 a1 j0 j1
   ·simp only [if_neg e2]; exact T.lin a m a0 a1 m0 m1
 ·rw [T.mi e]
  have hcol : ∀ (m : Int) (a : Nat), 0 ≤ m → a < c.Gen.length → c.vY hF (Y.map (colR hF i j q)) m a = if m = j then c.vY hF Y i a + -(pS hF q * c.vY hF Y j a) else if m = i then c.vY hF Y j a else c.vY hF Y m a := fun m a m0 ha => by
   unfold vY
   rw [eL_col T q i0 i1 j0 j1 (by omega) (by unfold k; omega) m0]
   split
   ·rw [pS_sub, pS_mul]
   ·split <;> rfl
  have cg : ∀ (V W : Int → Nat → Ps (KF c.F hF)), (∀ m a, 0 ≤ m → m < c.n → a < c.Gen.length → V m a = W m a) → AllD e c.Gen.length c.n V → AllD e c.Gen.length c.n W := fun V W hVW h cs hl hx => by
   have := h cs hl hx
   rwa [show dL c.Gen.length V cs = dL c.Gen.length W cs from Lr.det_congr fun a b ha hb => hVW _ _ (hx _ (ix_mem 0 cs (by omega) (by omega))).1 (hx _ (ix_mem 0 cs (by omega) (by omega))).2 ha] at this
  constructor
  ·intro h
   refine cg (fun m a => if m = j then c.vY hF Y i a + -(pS hF q * c.vY hF Y j a) else if m = i then c.vY hF Y j a else c.vY hF Y m a) _ (fun m a m0 _ ha => (hcol m a m0 ha).symm) ?_
   refine all_cols h fun m m0 m1 => ?_
   by_cases e1 : m = j
   ·exact ⟨i, j, -(pS hF q), i0, i1, j0, j1, (pS_pol hF q).neg, fun a => by rw [if_pos e1, Ri.neg_mul]⟩
   ·by_cases e2 : m = i
    ·exact ⟨j, j, 0, j0, j1, j0, j1, Pol.zero, fun a => by rw [if_neg e1, if_pos e2, Ri.zero_mul, Ri.add_zero]⟩
    ·exact ⟨m, m, 0, m0, m1, m0, m1, Pol.zero, fun a => by rw [if_neg e1, if_neg e2, Ri.zero_mul, Ri.add_zero]⟩
  ·intro h
   have h2 := cg _ (fun m a => if m = j then c.vY hF Y i a + -(pS hF q * c.vY hF Y j a) else if m = i then c.vY hF Y j a else c.vY hF Y m a) (fun m a m0 _ ha => hcol m a m0 ha) h
   refine all_cols h2 fun m m0 m1 => ?_
   by_cases e1 : m = j
   ·exact ⟨i, i, 0, i0, i1, i0, i1, Pol.zero, fun a => by rw [if_neg hij, if_pos rfl, Ri.zero_mul, Ri.add_zero, e1]⟩
   ·by_cases e2 : m = i
    ·refine ⟨j, i, pS hF q, j0, j1, i0, i1, pS_pol hF q, fun a => ?_⟩
     rw [if_pos rfl, if_neg hij, if_pos rfl, Ri.add_assoc, Ri.neg_add, Ri.add_zero, e2]
    ·exact ⟨m, m, 0, m0, m1, m0, m1, Pol.zero, fun a => by rw [if_neg e1, if_neg e2, Ri.zero_mul, Ri.add_zero]⟩
 ·obtain ⟨Q, hQ, hE⟩ := T.iv
  refine ⟨fun t m => if t = i.toNat then pS hF q * Q i.toNat m + Q j.toNat m else if t = j.toNat then Q i.toNat m else Q t m, fun t m => ?_, fun a m a0 a1 m0 m1 => ?_⟩
  ·dsimp only
   split
   ·exact ((pS_pol hF q).mul (hQ _ _)).add (hQ _ _)
   ·split <;> exact hQ _ _
  ·rw [hE a m a0 a1 m0 m1]
   have ec : ∀ z : Int, 0 ≤ z → _ := fun z z0 => eL_col T q i0 i1 j0 j1 (a := a) (m := z) a0 (by omega) z0
   refine (sm_pair (i := i.toNat) (j := j.toNat) (by omega) (by omega) (by omega) (fun t ht h1 h2 => ?_) ?_).symm
   ·dsimp only
    rw [if_neg h1, if_neg h2, ec t (by omega), if_neg (by omega), if_neg (by omega)]
   ·dsimp only
    rw [if_pos rfl, if_neg (by omega), if_pos rfl, show ((i.toNat : Nat) : Int) = i by omega, show ((j.toNat : Nat) : Int) = j by omega, ec i i0, ec j j0, if_neg hij, if_pos rfl, if_pos rfl, pS_sub, pS_mul]
    generalize pS hF (eL Y a i) = A
    generalize pS hF (eL Y a j) = B
    generalize pS hF q = X
    generalize Q i.toNat m.toNat = C
    generalize Q j.toNat m.toNat = D
    rw [Ri.mul_add, Ri.add_mul, Ri.neg_mul, show B * (X * C) = X * B * C by ac_rfl]
    have h3 : X * B * C + B * D + (A * C + -(X * B * C)) = (X * B * C + -(X * B * C)) + (A * C + B * D) := by ac_rfl
    rw [h3, Ri.add_neg, Ri.zero_add]
def LB (c : Cnv) (Y : List (List (List Int))) (B : Nat) : Prop := ∀ a m : Int, 0 ≤ a → a < c.k + c.n → 0 ≤ m → m < c.n → (eL Y a m).length ≤ B
variable (c hF)
structure ClI (X Y : List (List (List Int))) (row i j : Int) (B : Nat) : Prop where
 tr : c.TrI hF Y
 ln : ∀ a m : Int, 0 ≤ a → a < c.k + c.n → 0 ≤ m → m < c.n → (eL Y a m).length + max (eL Y row i).length (eL Y row j).length ≤ 2 * B
 kp : ∀ a m : Int, 0 ≤ a → a < c.k + c.n → 0 ≤ m → m ≠ i → m ≠ j → eL Y a m = eL X a m
 zr : ∀ a : Int, 0 ≤ a → a < c.k + c.n → eL X a i = [] → eL X a j = [] → eL Y a i = [] ∧ eL Y a j = []
variable {c hF}
theorem ClI.start {X : List (List (List Int))} {row i j : Int} {B : Nat} (T : c.TrI hF X) (hB : c.LB X B) (r0 : 0 ≤ row) (r1 : row < c.k + c.n) (i0 : 0 ≤ i) (i1 : i < c.n) (j0 : 0 ≤ j) (j1 : j < c.n) : c.ClI hF X X row i j B where
 tr := T
 ln := fun a m a0 a1 m0 m1 => by
  have h1 := hB a m a0 a1 m0 m1
  have h2 := hB row i r0 r1 i0 i1
  have h3 := hB row j r0 r1 j0 j1
  omega
 kp := fun _ _ _ _ _ _ _ => rfl
 zr := fun _ _ _ h1 h2 => ⟨h1, h2⟩
theorem sub_rem {f : Fld} (h : FOk f) {a b : List Int} (hb : CnL f b) (b0 : 0 < b.length) : subP h a (mulP h (quoP h a b) b) = remP h a b := by
 have ht := cn_top h hb b0
 unfold subP remP
 rw [pS_mul, show pS h (quoP h a b) = dq (pS h a) (pS h b) from pS_lS h (dq_pol (pS_pol h a) (pS_pol h b) ht.ne)]
 rfl
theorem quoP_len {f : Fld} (h : FOk f) {a b : List Int} (hb : CnL f b) (b0 : 0 < b.length) : (quoP h a b).length ≤ a.length - (b.length - 1) := lS_len h (dq_low (pS_low h a) (cn_top h hb b0))
theorem ClI.next {X Y : List (List (List Int))} {row i j : Int} {B : Nat} (C : c.ClI hF X Y row i j B) (r0 : 0 ≤ row) (r1 : row < c.k + c.n) (i0 : 0 ≤ i) (i1 : i < c.n) (j0 : 0 ≤ j) (j1 : j < c.n) (hij : i ≠ j) (hb : 0 < (eL Y row j).length) :
  c.ClI hF X (Y.map (colR hF i j (quoP hF (eL Y row i) (eL Y row j)))) row i j B ∧ (eL (Y.map (colR hF i j (quoP hF (eL Y row i) (eL Y row j)))) row j).length < (eL Y row j).length := by
 have T := C.tr
 have cnj := T.cn row j r0 r1 j0 j1
 have hq := quoP_len hF (a := eL Y row i) cnj hb
 have hrem := remP_len hF (P := eL Y row i) cnj hb
 have e : ∀ a m : Int, 0 ≤ a → a < c.k + c.n → 0 ≤ m → _ := fun a m a0 a1 m0 => eL_col T (quoP hF (eL Y row i) (eL Y row j)) i0 i1 j0 j1 (a := a) (m := m) a0 a1 m0
 have ej : eL (Y.map (colR hF i j (quoP hF (eL Y row i) (eL Y row j)))) row j = remP hF (eL Y row i) (eL Y row j) := by
  rw [e row j r0 r1 j0, if_pos rfl, sub_rem hF cnj hb]
 have ei : eL (Y.map (colR hF i j (quoP hF (eL Y row i) (eL Y row j)))) row i = eL Y row j := by
  rw [e row i r0 r1 i0, if_neg hij, if_pos rfl]
 refine ⟨⟨T.step _ i0 i1 j0 j1 hij, fun a m a0 a1 m0 m1 => ?_, fun a m a0 a1 m0 hmi hmj => ?_, fun a a0 a1 h1 h2 => ?_⟩, by rw [ej]; exact hrem⟩
 ·rw [ej, ei, e a m a0 a1 m0]
  have h1 := C.ln a m a0 a1 m0 m1
  have h2 := C.ln a i a0 a1 i0 i1
  have h3 := C.ln a j a0 a1 j0 j1
  split
  ·have h4 := subP_len hF (eL Y a i) (mulP hF (quoP hF (eL Y row i) (eL Y row j)) (eL Y a j))
   have h5 := mulP_len hF (quoP hF (eL Y row i) (eL Y row j)) (eL Y a j)
   omega
  ·split <;> omega
 ·rw [e a m a0 a1 m0, if_neg hmj, if_neg hmi]
  exact C.kp a m a0 a1 m0 hmi hmj
 ·obtain ⟨g1, g2⟩ := C.zr a a0 a1 h1 h2
  rw [e a i a0 a1 i0, e a j a0 a1 j0, if_neg hij, if_pos rfl, if_pos rfl, g1, g2]
  refine ⟨rfl, ?_⟩
  unfold subP
  rw [pS_mul, pS_nil, Ri.mul_zero, Ri.neg_zero, Ri.add_zero, lS_zero]
def clN (i : Int) : Nat := if i ≤ 0 then 0 else if i = 1 then 5 else if i = 2 then 9 else 12
variable (c hF)
structure TgI (Y : List (List (List Int))) (i j : Int) : Prop where
 tr : c.TrI hF Y
 lb : c.LB Y (40 * 2 ^ (clN i + (j - i - 1).toNat))
 zr : ∀ a m : Int, 0 ≤ a → a < i → a < m → m < c.n → eL Y a m = []
 zi : ∀ m : Int, i < m → m < j → eL Y i m = []
variable {c hF}
theorem TgI.step {X Y : List (List (List Int))} {i j : Int} (T : c.TgI hF X i j) (hkn : c.k ≤ c.n) (i0 : 0 ≤ i) (i1 : i < c.k) (hij : i < j) (j1 : j < c.n) (C : c.ClI hF X Y i i j (40 * 2 ^ (clN i + (j - i - 1).toNat))) (hz : eL Y i j = []) : c.TgI hF Y i (j + 1) where
 tr := C.tr
 lb := fun a m a0 a1 m0 m1 => by
  have := C.ln a m a0 a1 m0 m1
  rw [show (j + 1 - i - 1).toNat = (j - i - 1).toNat + 1 by omega, ← Nat.add_assoc, Nat.pow_succ]
  omega
 zr := fun a m a0 a1 h1 h2 => by
  by_cases e1 : m = i
  ·rw [e1]; exact (C.zr a a0 (by omega) (T.zr a i a0 a1 a1 (by omega)) (T.zr a j a0 a1 (by omega) j1)).1
  ·by_cases e2 : m = j
   ·rw [e2]; exact (C.zr a a0 (by omega) (T.zr a i a0 a1 a1 (by omega)) (T.zr a j a0 a1 (by omega) j1)).2
   ·rw [C.kp a m a0 (by omega) (by omega) e1 e2]; exact T.zr a m a0 a1 h1 h2
 zi := fun m h1 h2 => by
  by_cases e : m = j
  ·rw [e]; exact hz
  ·rw [C.kp i m i0 (by omega) (by omega) (by omega) e]; exact T.zi m h1 (by omega)
theorem TgI.row {Y : List (List (List Int))} {i j : Int} (T : c.TgI hF Y i j) (hn6 : c.n ≤ 6) (i0 : 0 ≤ i) (i2 : i ≤ 2) (hin : i < c.n) (hj : c.n ≤ j) (hj2 : j ≤ c.n) : c.TgI hF Y (i + 1) (i + 1 + 1) where
 tr := T.tr
 lb := fun a m a0 a1 m0 m1 => by
  refine Nat.le_trans (T.lb a m a0 a1 m0 m1) (Nat.mul_le_mul_left _ (Nat.pow_le_pow_right (by omega) ?_))
  unfold clN
  rcases (show i = 0 ∨ i = 1 ∨ i = 2 by omega) with e | e | e <;> subst e <;> simp <;> omega
 zr := fun a m a0 a1 h1 h2 => by
  by_cases e : a = i
  ·rw [e]; exact T.zi m (by omega) (by omega)
  ·exact T.zr a m a0 (by omega) h1 h2
 zi := fun m h1 h2 => by omega
theorem clN_le (i : Int) : clN i ≤ 12 := by unfold clN; split <;> (try split) <;> (try split) <;> omega
theorem clN_pow {i j n : Int} (hn6 : n ≤ 6) (i0 : 0 ≤ i) (i2 : i ≤ 2) (hij : i < j) (hj : j ≤ n) : 40 * 2 ^ (clN i + (j - i - 1).toNat) ≤ 163840 := by
 have : 40 * 2 ^ (clN i + (j - i - 1).toNat) ≤ 40 * 2 ^ 12 := Nat.mul_le_mul_left _ (Nat.pow_le_pow_right (by omega) (by
  unfold clN
  rcases (show i = 0 ∨ i = 1 ∨ i = 2 by omega) with e | e | e <;> subst e <;> simp <;> omega))
 exact this
theorem TgI.short {Y : List (List (List Int))} {i j : Int} (T : c.TgI hF Y i j) (hn6 : c.n ≤ 6) (i0 : 0 ≤ i) (i2 : i ≤ 2) (hij : i < j) (hj : j ≤ c.n) : c.LB Y 163840 := fun a m a0 a1 m0 m1 => by
 refine Nat.le_trans (T.lb a m a0 a1 m0 m1) ?_
 have : 40 * 2 ^ (clN i + (j - i - 1).toNat) ≤ 40 * 2 ^ 12 := Nat.mul_le_mul_left _ (Nat.pow_le_pow_right (by omega) (by
  unfold clN
  rcases (show i = 0 ∨ i = 1 ∨ i = 2 by omega) with e | e | e <;> subst e <;> simp <;> omega))
 exact this
theorem TgI.shortE {Y : List (List (List Int))} {i : Int} (T : c.TgI hF Y i (i + 1)) : c.LB Y 163840 := fun a m a0 a1 m0 m1 => by
 refine Nat.le_trans (T.lb a m a0 a1 m0 m1) ?_
 have : 40 * 2 ^ (clN i + (i + 1 - i - 1).toNat) ≤ 40 * 2 ^ 12 := Nat.mul_le_mul_left _ (Nat.pow_le_pow_right (by omega) (by have := clN_le i; omega))
 exact this
def idR (n i : Int) : List (List Int) := (List.replicate n.toNat []).set i.toNat [1]
def triS (c : Cnv) : List (List (List Int)) := c.canon ++ mapR (idR c.n) c.n
theorem eL_idR {n i m : Int} (i0 : 0 ≤ i) (i1 : i < n) (m0 : 0 ≤ m) : ix [] (idR n i) m = if m = i then [1] else [] := by
 unfold idR
 rw [ixG_set [] _ i0 (by rw [List.length_replicate]; omega) m0]
 split
 ·rfl
 ·unfold ix
  simp only [List.getD, List.getElem?_replicate]
  split <;> rfl
theorem triS_lo (hOk : c.Ok) {i j : Int} (i0 : 0 ≤ i) (i1 : i < c.k) (j0 : 0 ≤ j) (j1 : j < c.n) : eL c.triS i j = trimL (ix [] (ix [] c.Gen i) j) := by
 have hik : c.k = (c.Gen.length : Int) := rfl
 have hrow := hOk.row i0 (by omega)
 unfold eL triS
 have hl : (c.canon.length : Int) = c.k := by unfold canon; rw [List.length_map]; rfl
 rw [ix_appL [] _ _ i0 (by omega)]
 unfold canon
 rw [ixG_map [] [] _ c.Gen i0 (by omega), ixG_map [] [] _ _ j0 (by omega)]
theorem triS_hi {t j : Int} (t0 : 0 ≤ t) (t1 : t < c.n) (j0 : 0 ≤ j) : eL c.triS (c.k + t) j = if j = t then [1] else [] := by
 unfold eL triS
 have hl : (c.canon.length : Int) = c.k := by unfold canon; rw [List.length_map]; rfl
 rw [← hl, ix_appR [] _ _ t0, ix_mapR [] _ t0 t1, eL_idR t0 t1 j0]
theorem TrI.start (hOk : c.Ok) : c.TrI hF c.triS := by
 have hik : c.k = (c.Gen.length : Int) := rfl
 have hkn := hOk.kn
 have hcl : (c.canon.length : Int) = c.k := by unfold canon; rw [List.length_map]; rfl
 have hpl : ∀ i j : Int, 0 ≤ i → i < c.k → 0 ≤ j → j < c.n → pS hF (eL c.triS i j) = c.cG hF i j := fun i j i0 i1 j0 j1 => by rw [triS_lo hOk i0 i1 j0 j1, pS_trim]; rfl
 refine ⟨?_, fun i i0 i1 => ?_, fun i j i0 i1 j0 j1 => ?_, fun i j i0 i1 j0 j1 => ?_, fun e => ?_, ⟨fun t j => if t = j then 1 else 0, fun t j => by dsimp only; split; exact Pol.one; exact Pol.zero, fun i j i0 i1 j0 j1 => ?_⟩⟩
 ·unfold triS; rw [List.length_append, length_mapR]; omega
 ·unfold triS
  by_cases h : i < c.k
  ·rw [ix_appL [] _ _ i0 (by omega)]
   unfold canon
   rw [ixG_map [] [] _ c.Gen i0 (by omega), List.length_map]
   exact hOk.row i0 (by omega)
  ·rw [show i = c.canon.length + (i - c.k) by omega, ix_appR [] _ _ (by omega), ix_mapR [] _ (by omega) (by omega)]
   unfold idR
   rw [List.length_set, List.length_replicate]; omega
 ·by_cases h : i < c.k
  ·have hrow := hOk.row i0 (by omega)
   rw [triS_lo hOk i0 h j0 j1]
   exact cn_trim (hOk.poly i0 (by omega) j0 (by omega))
  ·rw [show i = c.k + (i - c.k) by omega, triS_hi (by omega) (by omega) j0]
   split
   ·exact cn_one hF.1
   ·exact cn_nil
 ·rw [hpl i j i0 i1 j0 j1, Lr.sm_one (k := j.toNat) (by omega) fun t ht hne => ?_]
  ·rw [triS_hi (by omega) (by omega) j0, if_pos (by omega), pS_one, Ri.mul_one, show ((j.toNat : Nat) : Int) = j by omega]
  ·rw [triS_hi (by omega) (by omega) j0, if_neg (by omega), pS_nil, Ri.mul_zero]
 ·have : ∀ cs : List Int, cs.length = c.Gen.length → (∀ x ∈ cs, 0 ≤ x ∧ x < c.n) → dL c.Gen.length (c.vG hF) cs = dL c.Gen.length (c.vY hF c.triS) cs := fun cs hl hx => Lr.det_congr fun a b ha hb => by
   have hm := hx _ (ix_mem 0 cs (i := b) (by omega) (by omega))
   exact (hpl a (ix 0 cs b) (by omega) (by omega) hm.1 hm.2).symm
  exact ⟨fun h cs hl hx => by rw [← this cs hl hx]; exact h cs hl hx, fun h cs hl hx => by rw [this cs hl hx]; exact h cs hl hx⟩
 ·rw [Lr.sm_one (k := j.toNat) (by omega) fun t ht hne => by
   show _ * (if t = j.toNat then (1 : Ps (KF c.F hF)) else 0) = 0
   rw [if_neg hne, Ri.mul_zero]]
  show c.cG hF i j = pS hF (eL c.triS i ((j.toNat : Nat) : Int)) * (if j.toNat = j.toNat then (1 : Ps (KF c.F hF)) else 0)
  rw [if_pos rfl, Ri.mul_one, show ((j.toNat : Nat) : Int) = j by omega, hpl i j i0 i1 j0 j1]
theorem TgI.start (hFew : c.Few) (hOk : c.Ok) : c.TgI hF c.triS 0 1 where
 tr := TrI.start hOk
 lb := fun a m a0 a1 m0 m1 => by
  have hik : c.k = (c.Gen.length : Int) := rfl
  show _ ≤ 40
  by_cases h : a < c.k
  ·have hrow := hOk.row a0 (by omega)
   rw [triS_lo hOk a0 h m0 m1, length_trimL]
   have h1 := trimN_le (ix [] (ix [] c.Gen a) m)
   have h2 := (hFew.2 _ (ix_mem [] c.Gen a0 (by omega))).2 _ (ix_mem [] (ix [] c.Gen a) m0 (by omega))
   omega
  ·rw [show a = c.k + (a - c.k) by omega, triS_hi (by omega) (by omega) m0]
   split <;> simp
 zr := fun a m a0 a1 _ _ => by omega
 zi := fun m h1 h2 => by omega
theorem tri_min (hFew : c.Few) {Y : List (List (List Int))} (T : c.TrI hF Y) (hkn : c.k ≤ c.n) (hz : ∀ a m : Int, 0 ≤ a → a < c.k → a < m → m < c.n → eL Y a m = []) : mon (prD (fun a b => pS hF (eL Y a b)) c.Gen.length) = c.mP hF 0 [] := by
 have hik : c.k = (c.Gen.length : Int) := rfl
 have hpol : ∀ n, Pol (prD (fun a b => pS hF (eL Y (a : Int) (b : Int))) n) := by
  intro n
  induction n with
  | zero => exact Pol.one
  | succ n ih => exact ih.mul (pS_pol hF _)
 refine (mP_eq ⟨mon_pol (hpol _), mon_mon (hpol _), fun e _ => ?_⟩).symm
 rw [dv_mon (hpol _)]
 have h1 := tri_all (e := e) (k := c.Gen.length) (n := c.n) (V := c.vY hF Y) (by omega) fun a j ha h1 h2 => by
  unfold vY
  rw [hz a j (by omega) (by omega) h1 h2, pS_nil]
 have h2 := all_inc (e := e) (k := c.Gen.length) (n := c.n) (V := c.vG hF)
 rw [T.mi e] at h2
 constructor
 ·intro h t hi hl
  rw [List.nil_append, c.detD_dL hF]
  exact h2.1 (h1.1 h) t hi (by simpa using hl)
 ·intro h
  refine h1.2 (h2.2 fun t hi hl => ?_)
  have := h t hi (by simpa using hl)
  rwa [List.nil_append, c.detD_dL hF] at this
end Cnv
end
end Go.Cw
set_option linter.unusedVariables false
set_option linter.unusedSimpArgs false
set_option linter.unusedSectionVars false
namespace Go.Cw
section
open La Ps
namespace Cnv
variable {c : Cnv} {hF : FOk c.F}
open Classical in
noncomputable def minL (c : Cnv) : List Int := if h : c.Ok then lS h.fld (c.mP h.fld 0 []) else []
theorem minL_ok (hOk : c.Ok) : c.minL = lS hF (c.mP hF 0 []) := by unfold minL; rw [dif_pos hOk]
theorem minL_no (hOk : ¬ c.Ok) : c.minL = [] := by unfold minL; rw [dif_neg hOk]
theorem minL_len (hFew : c.Few) : c.minL.length ≤ 2801 := by
 by_cases hOk : c.Ok
 ·have hkn := hOk.kn
  rw [minL_ok hOk (hF := hOk.fld)]
  exact mP_len hFew (by simp) (by omega)
 ·rw [minL_no hOk]; simp
noncomputable def pdL (hF : FOk c.F) (Y : L3) (i : Int) : List Int := lS hF (prD (fun a b => pS hF (eL Y a b)) i.toNat)
theorem prD_pol (Y : L3) : ∀ n, Pol (prD (fun a b => pS hF (eL Y (a : Int) (b : Int))) n)
 | 0 => Pol.one
 | n + 1 => (prD_pol Y n).mul (pS_pol hF _)
theorem pd_zero (Y : L3) : pdL hF Y 0 = [1] := lS_one hF
theorem pd_succ (Y : L3) {i : Int} (i0 : 0 ≤ i) : mulP hF (pdL hF Y i) (ix [] (ix [] Y i) i) = pdL hF Y (i + 1) := by
 unfold pdL mulP
 rw [pS_lS hF (prD_pol Y _), show (i + 1).toNat = i.toNat + 1 by omega]
 show lS hF (_ * pS hF (eL Y i i)) = lS hF (_ * pS hF (eL Y (i.toNat : Int) (i.toNat : Int)))
 rw [show ((i.toNat : Nat) : Int) = i by omega]
theorem pd_low {Y : L3} (hB : c.LB Y 163840) (hkn : c.k ≤ c.n) : ∀ n : Nat, (n : Int) ≤ c.k → Low (prD (fun a b => pS hF (eL Y (a : Int) (b : Int))) n) (163840 * n + 1)
 | 0, _ => Low.one
 | n + 1, h => by
  have h1 := pd_low hB hkn n (by omega)
  have h2 := h1.mul (pS_low' hF (eL Y n n) 163840 (hB n n (by omega) (by omega) (by omega) (by omega)))
  exact h2.mono (by rw [Nat.mul_add]; omega)
theorem pd_len {Y : L3} (hB : c.LB Y 163840) (hkn : c.k ≤ c.n) {i : Int} (i0 : 0 ≤ i) (i1 : i ≤ c.k) : (pdL hF Y i).length ≤ 163840 * i.toNat + 1 := lS_len hF (pd_low hB hkn i.toNat (by omega))
theorem pd_end (hFew : c.Few) {Y : L3} (T : c.TgI hF Y c.k (c.k + 1)) (hkn : c.k ≤ c.n) {i : Int} (hi : i = c.k) : monP hF (pdL hF Y i) = lS hF (c.mP hF 0 []) := by
 unfold monP pdL
 rw [pS_lS hF (prD_pol Y _), hi]
 have := tri_min hFew T.tr hkn T.zr
 rw [← this]; rfl
theorem ix_takeL {α : Type} (d : α) (l : List α) {k : Nat} {i : Int} (i0 : 0 ≤ i) (i1 : i < k) : ix d (List.take k l) i = ix d l i := by
 unfold ix
 simp only [List.getD]
 rw [List.getElem?_take, if_pos (by omega)]
def catP (p : List Int) : Prop := p.length = 0 ∨ ∃ i : Int, 0 ≤ i ∧ i < (p.length : Int) - 1 ∧ ix 0 p i ≠ 0
open Classical in
noncomputable instance (p : List Int) : Decidable (catP p) := Classical.propDecidable _
theorem catP_yes {p : List Int} {i : Int} (i0 : 0 ≤ i) (h1 : ix 0 p i ≠ 0) (h2 : i < (p.length : Int) - 1) : decide (catP p) = true := decide_eq_true (.inr ⟨i, i0, h2, h1⟩)
def CatI (p : List Int) (i : Int) : Prop := ∀ z : Int, 0 ≤ z → z < i → z < (p.length : Int) - 1 → ix 0 p z = 0
theorem CatI.zero (p : List Int) : CatI p 0 := fun z z0 z1 => by omega
theorem CatI.next {p : List Int} {i : Int} (h : CatI p i) (hn : ¬ (ix 0 p i ≠ 0 ∧ i < (p.length : Int) - 1)) : CatI p (i + 1) := fun z z0 z1 z2 => by
 by_cases e : z = i
 ·subst e; exact Classical.byContradiction fun h2 => hn ⟨h2, z2⟩
 ·exact h z z0 (by omega) z2
theorem CatI.done {p : List Int} {i : Int} (h : CatI p i) (hi : (p.length : Int) ≤ i) : decide (catP p) = decide (p.length = 0) := decide_eq_decide.2 ⟨fun hc => hc.elim id fun ⟨z, z0, z1, z2⟩ => absurd (h z z0 (by omega) z1) z2, .inl⟩
end Cnv
end
end Go.Cw
set_option linter.unusedVariables false
set_option linter.unusedSimpArgs false
set_option linter.unusedSectionVars false
namespace Go.Cw
section
open La Ps
namespace Cnv
variable (c : Cnv) (hF : FOk c.F)
structure LnI (Y : L3) : Prop where
 len : (Y.length : Int) = c.k + c.n
 row : ∀ i, 0 ≤ i → i < c.k + c.n → ((ix [] Y i).length : Int) = c.n
 cn : ∀ i j, 0 ≤ i → i < c.k + c.n → 0 ≤ j → j < c.n → CnL c.F (eL Y i j)
 lin : ∀ i j : Int, 0 ≤ i → i < c.k → 0 ≤ j → j < c.n → pS hF (eL Y i j) = Lr.sm (fun t => c.cG hF i t * pS hF (eL Y (c.k + t) j)) c.n.toNat
variable {c hF}
theorem TrI.ln {Y : L3} (T : c.TrI hF Y) : c.LnI hF Y := ⟨T.len, T.row, T.cn, T.lin⟩
theorem eL_set {Y : L3} (T : c.LnI hF Y) {j : Int} (g : List (List Int) → List Int) (j0 : 0 ≤ j) (j1 : j < c.n) {a m : Int} (a0 : 0 ≤ a) (a1 : a < c.k + c.n) (m0 : 0 ≤ m) :
  eL (Y.map fun r => r.set j.toNat (g r)) a m = if m = j then g (ix [] Y a) else eL Y a m := by
 have hl := T.len
 have hr := T.row a a0 a1
 unfold eL
 rw [ixG_map [] [] _ Y a0 (by omega), ixG_set [] _ j0 (by omega) m0]
theorem LnI.col {Y : L3} (T : c.LnI hF Y) {i j : Int} (g : List (List Int) → List Int) (x y : Ps (KF c.F hF)) (i0 : 0 ≤ i) (i1 : i < c.n) (j0 : 0 ≤ j) (j1 : j < c.n)
  (hg : ∀ a : Int, 0 ≤ a → a < c.k + c.n → CnL c.F (g (ix [] Y a)) ∧ pS hF (g (ix [] Y a)) = x * pS hF (eL Y a j) + y * pS hF (eL Y a i)) : c.LnI hF (Y.map fun r => r.set j.toNat (g r)) := by
 have hk0 : 0 ≤ c.k := by unfold k; omega
 have hl := T.len
 refine ⟨by rw [List.length_map]; exact T.len, fun a a0 a1 => ?_, fun a m a0 a1 m0 m1 => ?_, fun a m a0 a1 m0 m1 => ?_⟩
 ·rw [ixG_map [] [] _ Y a0 (by omega), List.length_set]; exact T.row a a0 a1
 ·rw [eL_set T g j0 j1 a0 a1 m0]
  split
  ·exact (hg a a0 a1).1
  ·exact T.cn a m a0 a1 m0 m1
 ·rw [eL_set T g j0 j1 a0 (by omega) m0]
  rw [Lr.sm_congr (h := fun t => c.cG hF a t * pS hF (if m = j then g (ix [] Y (c.k + t)) else eL Y (c.k + t) m)) fun t ht => by rw [eL_set T g j0 j1 (by omega) (by omega) m0]]
  by_cases e1 : m = j
  ·simp only [if_pos e1]
   rw [(hg a a0 (by omega)).2, T.lin a i a0 a1 i0 i1, T.lin a j a0 a1 j0 j1, ← Lr.sm_mul, ← Lr.sm_mul, ← Lr.sm_add]
   refine Lr.sm_congr fun t ht => ?_
   rw [(hg (c.k + t) (by omega) (by omega)).2, Ri.mul_add]
   congr 1 <;> ac_rfl
  ·simp only [if_neg e1]; exact T.lin a m a0 a1 m0 m1
variable (c hF)
structure InvI (X Y : L3) (i : Int) : Prop where
 ln : c.LnI hF Y
 lo : ∀ a m : Int, 0 ≤ a → a < i → 0 ≤ m → m < c.n → eL Y a m = if m = a then [1] else []
 kp : ∀ a m : Int, 0 ≤ a → a < c.k + c.n → i ≤ m → m < c.n → eL Y a m = eL X a m
 lb : ∀ a m : Int, 0 ≤ a → a < c.k + c.n → 0 ≤ m → m < i → (eL Y a m).length ≤ 163840 * (i - m).toNat
structure InvJ (X Y : L3) (i j : Int) : Prop where
 ln : c.LnI hF Y
 lo : ∀ a m : Int, 0 ≤ a → a < i → 0 ≤ m → m < c.n → eL Y a m = if m = a then [1] else []
 di : eL Y i i = [1]
 dn : ∀ m : Int, 0 ≤ m → m < j → eL Y i m = []
 kp : ∀ a m : Int, 0 ≤ a → a < c.k + c.n → i < m → m < c.n → eL Y a m = eL X a m
 li : ∀ a : Int, 0 ≤ a → a < c.k + c.n → (eL Y a i).length ≤ 163840
 lb : ∀ a m : Int, 0 ≤ a → a < c.k + c.n → 0 ≤ m → m < i → (eL Y a m).length ≤ 163840 * (if m < j then (i + 1 - m).toNat else (i - m).toNat)
variable {c hF}
theorem InvI.start {X : L3} (T : c.TrI hF X) : c.InvI hF X X 0 := ⟨T.ln, fun a m a0 a1 => by omega, fun _ _ _ _ _ _ => rfl, fun a m a0 a1 m0 m1 => by omega⟩
theorem sclP_nil {f : Fld} (h : FOk f) (a : Int) : sclP h a [] = [] := by unfold sclP; rw [pS_nil, Ri.mul_zero, lS_zero]
theorem subP_nil {f : Fld} (h : FOk f) {p : List Int} (q : List Int) (hp : CnL f p) : subP h p (mulP h q []) = p := by
 unfold subP
 rw [pS_mul, pS_nil, Ri.mul_zero, Ri.neg_zero, Ri.add_zero, lS_pS h hp]
theorem subP_self {f : Fld} (h : FOk f) (p : List Int) : subP h p (mulP h p [1]) = [] := by
 unfold subP
 rw [pS_mul, pS_one, Ri.mul_one, Ri.add_neg, lS_zero]
theorem sclP_inv {f : Fld} (h : FOk f) {p : List Int} (hl : p.length = 1) (hx : inF f (ix 0 p 0) ≠ 0) : sclP h (invF f (ix 0 p 0)) p = [1] := by
 have hs := invF_spec h hx
 unfold sclP
 rw [← lS_one h]
 congr 1
 apply Ps.ext; funext n
 rw [con_mul, co_one, co_pS]
 by_cases e : n = 0
 ·rw [if_pos e, e]
  show ke h _ * ke h (ix 0 p 0) = 1
  rw [← ke_mul, show mulF f (invF f (ix 0 p 0)) (ix 0 p 0) = 1 from ?_, ke_one]
  have r1 := h.1.mulF_lt (invF f (ix 0 p 0)) (ix 0 p 0)
  have hq := h.1.bd
  refine ke_inj h r1.1 r1.2 (by omega) (by omega) ?_
  rw [ke_mul, Fi.mul_comm, ← ke_mul, hs.1]
 ·rw [if_neg e, ix_out p (by omega), ke_zero, Fi.mul_zero]
theorem InvI.scale {X Y : L3} {i : Int} (C : c.InvI hF X Y i) (hkn : c.k ≤ c.n) (hB : c.LB X 163840) (hX : ∀ a m : Int, 0 ≤ a → a < c.k → a < m → m < c.n → eL X a m = []) (i0 : 0 ≤ i) (i1 : i < c.k) (hl : (eL X i i).length = 1) (hx : inF c.F (ix 0 (eL X i i) 0) ≠ 0) :
  c.InvJ hF X (Y.map fun r => r.set i.toNat (sclP hF (invF c.F (ix 0 (eL Y i i) 0)) (ix [] r i))) i 0 := by
 have hin : i < c.n := by omega
 have hii := C.kp i i i0 (by omega) (Int.le_refl i) hin
 have e : ∀ a m : Int, 0 ≤ a → a < c.k + c.n → 0 ≤ m → _ := fun a m a0 a1 m0 => eL_set C.ln (fun r => sclP hF (invF c.F (ix 0 (eL Y i i) 0)) (ix [] r i)) i0 hin (a := a) (m := m) a0 a1 m0
 refine ⟨?_, fun a m a0 a1 m0 m1 => ?_, ?_, fun m m0 m1 => by omega, fun a m a0 a1 h1 h2 => ?_, fun a a0 a1 => ?_, fun a m a0 a1 m0 m1 => ?_⟩
 ·refine C.ln.col (i := i) (fun r => sclP hF (invF c.F (ix 0 (eL Y i i) 0)) (ix [] r i)) (con (ke hF (invF c.F (ix 0 (eL Y i i) 0)))) 0 i0 hin i0 hin fun a a0 a1 => ⟨lS_cn hF _, ?_⟩
  rw [pS_scl, Ri.zero_mul, Ri.add_zero]; rfl
 ·rw [e a m a0 (by omega) m0]
  split
  ·rename_i h
   have := C.lo a i a0 a1 i0 hin
   rw [if_neg (by omega)] at this
   show sclP hF _ (eL Y a i) = _
   rw [this, sclP_nil, if_neg (by omega)]
  ·exact C.lo a m a0 a1 m0 m1
 ·rw [e i i i0 (by omega) i0, if_pos rfl]
  show sclP hF (invF c.F (ix 0 (eL Y i i) 0)) (eL Y i i) = [1]
  rw [hii]; exact sclP_inv hF hl hx
 ·rw [e a m a0 a1 (by omega), if_neg (by omega)]
  exact C.kp a m a0 a1 (by omega) h2
 ·rw [e a i a0 a1 i0, if_pos rfl]
  have h1 := sclP_len hF (invF c.F (ix 0 (eL Y i i) 0)) (eL Y a i)
  have h2 := C.kp a i a0 a1 (Int.le_refl i) hin
  have h3 := hB a i a0 a1 i0 hin
  rw [← h2] at h3
  show (sclP hF _ (eL Y a i)).length ≤ _
  omega
 ·rw [e a m a0 a1 m0, if_neg (by omega), if_neg (by omega)]
  exact C.lb a m a0 a1 m0 m1
theorem InvJ.next {X Y : L3} {i j : Int} (C : c.InvJ hF X Y i j) (hkn : c.k ≤ c.n) (i1 : i < c.k) (j0 : 0 ≤ j) (j1 : j < i) :
  c.InvJ hF X (Y.map fun r => r.set j.toNat (subP hF (ix [] r j) (mulP hF (eL Y i j) (ix [] r i)))) i (j + 1) := by
 have i0 : 0 ≤ i := by omega
 have hin : i < c.n := by omega
 have e : ∀ a m : Int, 0 ≤ a → a < c.k + c.n → 0 ≤ m → _ := fun a m a0 a1 m0 => eL_set C.ln (fun r => subP hF (ix [] r j) (mulP hF (eL Y i j) (ix [] r i))) j0 (by omega) (a := a) (m := m) a0 a1 m0
 refine ⟨?_, fun a m a0 a1 m0 m1 => ?_, ?_, fun m m0 m1 => ?_, fun a m a0 a1 h1 h2 => ?_, fun a a0 a1 => ?_, fun a m a0 a1 m0 m1 => ?_⟩
 ·refine C.ln.col (i := i) (fun r => subP hF (ix [] r j) (mulP hF (eL Y i j) (ix [] r i))) 1 (-(pS hF (eL Y i j))) i0 hin j0 (by omega) fun a a0 a1 => ⟨lS_cn hF _, ?_⟩
  rw [pS_sub, pS_mul, Ri.one_mul, Ri.neg_mul]; rfl
 ·rw [e a m a0 (by omega) m0]
  split
  ·rename_i h
   have := C.lo a i a0 a1 i0 hin
   rw [if_neg (by omega)] at this
   show subP hF (eL Y a j) (mulP hF (eL Y i j) (eL Y a i)) = _
   rw [this, subP_nil hF _ (C.ln.cn a j a0 (by omega) j0 (by omega)), h]
   exact C.lo a j a0 a1 j0 (by omega)
  ·exact C.lo a m a0 a1 m0 m1
 ·rw [e i i i0 (by omega) i0, if_neg (by omega)]; exact C.di
 ·rw [e i m i0 (by omega) m0]
  split
  ·show subP hF (eL Y i j) (mulP hF (eL Y i j) (eL Y i i)) = []
   rw [C.di]; exact subP_self hF _
  ·exact C.dn m m0 (by omega)
 ·rw [e a m a0 a1 (by omega), if_neg (by omega)]
  exact C.kp a m a0 a1 h1 h2
 ·rw [e a i a0 a1 i0, if_neg (by omega)]; exact C.li a a0 a1
 ·rw [e a m a0 a1 m0]
  have h1 := C.lb a m a0 a1 m0 m1
  split
  ·rename_i h
   subst h
   rw [if_pos (by omega)]
   rw [if_neg (by omega)] at h1
   have h2 := C.lb i m i0 (by omega) m0 m1
   rw [if_neg (by omega)] at h2
   have h3 := C.li a a0 a1
   have h4 := subP_len hF (eL Y a m) (mulP hF (eL Y i m) (eL Y a i))
   have h5 := mulP_len hF (eL Y i m) (eL Y a i)
   show (subP hF (eL Y a m) (mulP hF (eL Y i m) (eL Y a i))).length ≤ _
   have h6 : (i + 1 - m).toNat = (i - m).toNat + 1 := by omega
   rw [h6, Nat.mul_add]
   omega
  ·rename_i h
   by_cases h2 : m < j
   ·rw [if_pos h2] at h1; rw [if_pos (by omega)]; exact h1
   ·rw [if_neg h2] at h1; rw [if_neg (by omega)]; exact h1
theorem InvJ.done {X Y : L3} {i j : Int} (C : c.InvJ hF X Y i j) (hkn : c.k ≤ c.n) (hX : ∀ a m : Int, 0 ≤ a → a < c.k → a < m → m < c.n → eL X a m = []) (i0 : 0 ≤ i) (i1 : i < c.k) (hj : j = i) : c.InvI hF X Y (i + 1) where
 ln := C.ln
 lo := fun a m a0 a1 m0 m1 => by
  by_cases h : a = i
  ·rw [h]
   by_cases h2 : m = i
   ·rw [if_pos h2, h2]; exact C.di
   ·rw [if_neg h2]
    by_cases h3 : m < i
    ·exact C.dn m m0 (by omega)
    ·rw [C.kp i m i0 (by omega) (by omega) m1]; exact hX i m i0 i1 (by omega) m1
  ·exact C.lo a m a0 (by omega) m0 m1
 kp := fun a m a0 a1 h1 h2 => C.kp a m a0 a1 (by omega) h2
 lb := fun a m a0 a1 m0 m1 => by
  by_cases h : m = i
  ·rw [h, show (i + 1 - i).toNat = 1 by omega]; exact C.li a a0 a1
  ·have := C.lb a m a0 a1 m0 (by omega)
   rwa [if_pos (by omega)] at this
variable (c hF)
structure RtI (R : L3) : Prop where
 len : (R.length : Int) = c.n
 row : ∀ t, 0 ≤ t → t < c.n → ((ix [] R t).length : Int) = c.k
 cn : ∀ t j, 0 ≤ t → t < c.n → 0 ≤ j → j < c.k → CnL c.F (eL R t j)
 lb : ∀ t j : Int, 0 ≤ t → t < c.n → 0 ≤ j → j < c.k → (eL R t j).length ≤ 491520
 pr : ∀ i j : Int, 0 ≤ i → i < c.k → 0 ≤ j → j < c.k → Lr.sm (fun t => c.cG hF i t * pS hF (eL R t j)) c.n.toNat = if j = i then 1 else 0
variable {c hF}
theorem ix_dropL {α : Type} (d : α) (l : List α) {k : Nat} {i : Int} (i0 : 0 ≤ i) : ix d (List.drop k l) i = ix d l (k + i) := by
 unfold ix
 simp only [List.getD]
 rw [List.getElem?_drop, show ((k : Int) + i).toNat = k + i.toNat by omega]
theorem InvI.done {X Y : L3} (C : c.InvI hF X Y c.k) (hk3 : c.k ≤ 3) (hkn : c.k ≤ c.n) : c.RtI hF ((List.drop c.Gen.length Y).map (List.take c.k.toNat)) := by
 have hik : c.k = (c.Gen.length : Int) := rfl
 have hl := C.ln.len
 have hdl : ((List.drop c.Gen.length Y).length : Int) = c.n := by rw [List.length_drop]; omega
 have e : ∀ t j : Int, 0 ≤ t → t < c.n → 0 ≤ j → j < c.k → eL ((List.drop c.Gen.length Y).map (List.take c.k.toNat)) t j = eL Y (c.k + t) j := fun t j t0 t1 j0 j1 => by
  unfold eL
  rw [ixG_map [] [] _ _ t0 (by omega), ix_dropL [] Y t0, ix_takeL [] _ j0 (by omega), ← hik]
 refine ⟨by rw [List.length_map]; exact hdl, fun t t0 t1 => ?_, fun t j t0 t1 j0 j1 => ?_, fun t j t0 t1 j0 j1 => ?_, fun i j i0 i1 j0 j1 => ?_⟩
 ·have := C.ln.row (c.k + t) (by omega) (by omega)
  rw [ixG_map [] [] _ _ t0 (by omega), ix_dropL [] Y t0, List.length_take, ← hik]; omega
 ·rw [e t j t0 t1 j0 j1]; exact C.ln.cn _ _ (by omega) (by omega) j0 (by omega)
 ·rw [e t j t0 t1 j0 j1]
  have := C.lb (c.k + t) j (by omega) (by omega) j0 j1
  refine Nat.le_trans this ?_
  have : (c.k - j).toNat ≤ 3 := by omega
  calc 163840 * (c.k - j).toNat ≤ 163840 * 3 := Nat.mul_le_mul_left _ this
   _ = 491520 := rfl
 ·rw [Lr.sm_congr (h := fun t => c.cG hF i t * pS hF (eL Y (c.k + t) j)) fun t ht => by rw [e t j (by omega) (by omega) j0 j1], ← C.ln.lin i j i0 i1 j0 (by omega), C.lo i j i0 i1 j0 (by omega)]
  split
  ·exact pS_one hF
  ·exact pS_nil hF
end Cnv
end
end Go.Cw
set_option linter.unusedVariables false
set_option linter.unusedSimpArgs false
set_option linter.unusedSectionVars false
namespace Go.Cw
namespace Cnv
variable (c : Cnv) (s : Int) (inn : List Int)
def line (i : Int) : List Int := ix 0 inn i :: digS c.F.q (c.deg i).toNat (s / c.fst i)
def nxE (i : Int) : Nat → Int
 | 0 => 0
 | d + 1 => nxE i d + ix 0 (c.line s inn i) d * (c.fst i * c.F.q ^ d)
def nxt : Nat → Int
 | 0 => 0
 | i + 1 => nxt i + c.nxE s inn i (c.deg i).toNat
def outTo (j : Int) : Nat → Int
 | 0 => 0
 | i + 1 => accF c.F (outTo j i) (c.line s inn i) (ix [] (ix [] c.Gen i) j) ((c.deg i).toNat + 1)
def outL : List Int := mapR (fun j => c.outTo s inn j c.Gen.length) c.n
theorem ix_digS (q : Int) (hq : 0 ≤ q) : ∀ (n : Nat) (v : Int) (i : Nat), i < n → ix 0 (digS q n v) i = v / q ^ i % q
 | 0, _, _, h => by omega
 | n + 1, v, 0, _ => by simp [digS, ix]
 | n + 1, v, i + 1, h => by
  have := ix_digS q hq n (v / q) i (by omega)
  have e : ix 0 (digS q (n + 1) v) ((i + 1 : Nat) : Int) = ix 0 (digS q n (v / q)) (i : Int) := by
   show (v % q :: digS q n (v / q)).getD (((i + 1 : Nat) : Int)).toNat 0 = (digS q n (v / q)).getD ((i : Nat) : Int).toNat 0
   rw [show (((i + 1 : Nat) : Int)).toNat = i + 1 by omega, show ((i : Nat) : Int).toNat = i by omega]; rfl
  rw [e, this, Int.pow_succ, Int.mul_comm (q ^ i) q, Int.ediv_ediv_of_nonneg hq]
theorem ix_line_zero (i : Int) : ix 0 (c.line s inn i) 0 = ix 0 inn i := rfl
theorem ix_line_succ (hq : 2 ≤ c.F.q) {i d : Int} (h0 : 0 ≤ d) (h1 : d < c.deg i) : ix 0 (c.line s inn i) (d + 1) = s / c.fst i / c.F.q ^ d.toNat % c.F.q := by
 have e := ix_digS c.F.q (by omega) (c.deg i).toNat (s / c.fst i) d.toNat (by omega)
 rw [← e]
 unfold line ix
 rw [show (d + 1).toNat = d.toNat + 1 by omega, show ((d.toNat : Nat) : Int).toNat = d.toNat by omega]; rfl
theorem length_line (i : Int) : ((c.line s inn i).length : Int) = c.deg i + 1 := by
 have := c.deg_nonneg i
 unfold line; rw [List.length_cons, length_digS]; omega
theorem nxE_succ {i d : Int} (h : 0 ≤ d) : c.nxE s inn i (d + 1).toNat = c.nxE s inn i d.toNat + ix 0 (c.line s inn i) d * (c.fst i * c.F.q ^ d.toNat) := by
 rw [show (d + 1).toNat = d.toNat + 1 by omega]
 simp only [nxE]
 rw [show ((d.toNat : Nat) : Int) = d by omega]
theorem nxt_succ {i : Int} (h : 0 ≤ i) : c.nxt s inn (i + 1).toNat = c.nxt s inn i.toNat + c.nxE s inn i (c.deg i).toNat := by
 rw [show (i + 1).toNat = i.toNat + 1 by omega]
 simp only [nxt]
 rw [show ((i.toNat : Nat) : Int) = i by omega]
theorem outTo_succ (j : Int) {i : Int} (h : 0 ≤ i) : c.outTo s inn j (i + 1).toNat = accF c.F (c.outTo s inn j i.toNat) (c.line s inn i) (ix [] (ix [] c.Gen i) j) ((c.deg i).toNat + 1) := by
 rw [show (i + 1).toNat = i.toNat + 1 by omega]
 simp only [outTo]
 rw [show ((i.toNat : Nat) : Int) = i by omega]
theorem fst_pos (hq : 2 ≤ c.F.q) (i : Int) : 1 ≤ c.fst i := pow_pos_of c.F.q hq _
def GoodIn (c : Cnv) (inn : List Int) : Prop := (inn.length : Int) = c.k ∧ ¬ outF c.F inn
theorem line_lt {c : Cnv} {s : Int} {inn : List Int} (hq : 2 ≤ c.F.q) (hg : c.GoodIn inn) {i d : Int} (i0 : 0 ≤ i) (i1 : i < c.Gen.length) (d0 : 0 ≤ d) (d1 : d ≤ c.deg i) : 0 ≤ ix 0 (c.line s inn i) d ∧ ix 0 (c.line s inn i) d < c.F.q := by
 by_cases hd : d = 0
 ·subst hd
  rw [ix_line_zero]
  exact outF_no hg.2 (ix_mem 0 inn i0 (by have := hg.1; unfold k at this; omega))
 ·obtain ⟨g, rfl⟩ : ∃ g, d = g + 1 := ⟨d - 1, by omega⟩
  rw [ix_line_succ c s inn hq (by omega) (by omega)]
  exact ⟨Int.emod_nonneg _ (by omega), Int.emod_lt_of_pos _ (by omega)⟩
theorem nxE_lt {c : Cnv} {s : Int} {inn : List Int} (hq : 2 ≤ c.F.q) (hg : c.GoodIn inn) {i b : Int} (i0 : 0 ≤ i) (i1 : i < c.Gen.length) (hb0 : 0 ≤ b) (hb : b < c.fst i) : ∀ d : Nat, (d : Int) ≤ c.deg i → 0 ≤ c.nxE s inn i d ∧ b + c.nxE s inn i d < c.fst i * c.F.q ^ d
 | 0, _ => by simp [nxE]; omega
 | d + 1, h => by
  have ih := nxE_lt (s := s) hq hg i0 i1 hb0 hb d (by omega)
  have hl := line_lt (s := s) hq hg i0 i1 (d := (d : Int)) (by omega) (by omega)
  have hp := pow_pos_of c.F.q hq d
  have hf := c.fst_pos hq i
  have hm := Int.mul_nonneg (show 0 ≤ c.fst i by omega) (show 0 ≤ c.F.q ^ d by omega)
  have h1 := Int.mul_nonneg hl.1 hm
  have h2 := Int.mul_le_mul_of_nonneg_right (show ix 0 (c.line s inn i) d ≤ c.F.q - 1 by omega) hm
  simp only [nxE]
  rw [Int.pow_succ, show c.fst i * (c.F.q ^ d * c.F.q) = c.F.q * (c.fst i * c.F.q ^ d) by rw [← Int.mul_assoc, Int.mul_comm]]
  rw [Int.sub_mul, Int.one_mul] at h2
  omega
theorem nxt_lt {c : Cnv} {s : Int} {inn : List Int} (hq : 2 ≤ c.F.q) (hg : c.GoodIn inn) : ∀ i : Nat, i ≤ c.Gen.length → 0 ≤ c.nxt s inn i ∧ c.nxt s inn i < c.fst i
 | 0, _ => by simp [nxt, fst, sumD]
 | i + 1, h => by
  have ih := nxt_lt (s := s) hq hg i (by omega)
  have h1 := nxE_lt (s := s) hq hg (i := (i : Int)) (by omega) (by omega) ih.1 ih.2 (c.deg i).toNat (by have := c.deg_nonneg (i : Int); omega)
  have h2 := c.fst_succ (i := (i : Int)) (by omega)
  simp only [nxt]
  rw [show ((i + 1 : Nat) : Int) = (i : Int) + 1 by omega, h2]
  omega
theorem ix_trimL (l : List Int) {d : Int} : ix 0 (trimL l) d = ix 0 l d := by
 unfold trimL ix
 simp only [List.getD]
 rw [List.getElem?_take]
 split
 ·rfl
 ·have := trimN_after l d.toNat (by omega)
  simpa [List.getD] using this.symm
open Classical in
noncomputable def inErr (c : Cnv) (l : List Int) : Int := if (l.length : Int) ≠ c.k then 4 else entErr c.F l
theorem inErr_zero {c : Cnv} {l : List Int} : c.inErr l = 0 ↔ c.GoodIn l := by
 unfold inErr GoodIn
 by_cases h : (l.length : Int) = c.k
 ·rw [if_neg (fun g => g h), entErr_zero]; exact ⟨fun g => ⟨h, g⟩, fun g => g.2⟩
 ·rw [if_pos h]; exact ⟨fun g => by omega, fun g => absurd g.1 h⟩
def acc (c : Cnv) (s : Int) (inn : List Int) (i d j : Int) : Int := accF c.F (c.outTo s inn j i.toNat) (c.line s inn i) (ix [] (ix [] c.Gen i) j) d.toNat
theorem outTo_lt {c : Cnv} (h : Shape c.F) (s : Int) (inn : List Int) (j : Int) : ∀ i, 0 ≤ c.outTo s inn j i ∧ c.outTo s inn j i < c.F.q
 | 0 => by have := h.bd; simp only [outTo]; omega
 | i + 1 => h.addF_lt _ _
theorem fst_part {c : Cnv} (hq : 2 ≤ c.F.q) (hb : ¬ c.big) {i d : Int} (h0 : 0 ≤ i) (h1 : i < c.Gen.length) (d0 : 0 ≤ d) (d1 : d ≤ c.deg i) : 1 ≤ c.fst i * c.F.q ^ d.toNat ∧ c.fst i * c.F.q ^ d.toNat ≤ 65536 := by
 have h2 := c.deg_part h0 h1
 have h3 := c.sumD_nonneg i.toNat
 rw [c.fst_add i d d0]
 have h4 := pow_part (c := c) hq (e := c.sumD i.toNat + d) (by unfold total k; omega)
 have h5 := pow_pos_of c.F.q hq (c.sumD i.toNat + d).toNat
 unfold big at hb
 omega
end Cnv
end Go.Cw
set_option linter.unusedVariables false
set_option linter.unusedSimpArgs false
set_option linter.unusedSectionVars false
namespace Go.Cw
theorem digS_snoc (q : Int) (hq : 0 ≤ q) : ∀ (n : Nat) (v : Int), digS q (n + 1) v = digS q n v ++ [v / q ^ n % q]
 | 0, v => by simp [digS]
 | n + 1, v => by
  have ih := digS_snoc q hq n (v / q)
  rw [show digS q (n + 1 + 1) v = v % q :: digS q (n + 1) (v / q) from rfl, ih]
  rw [show digS q (n + 1) v = v % q :: digS q n (v / q) from rfl, List.cons_append, Int.pow_succ, Int.mul_comm (q ^ n) q, Int.ediv_ediv_of_nonneg hq]
namespace Cnv
def lineTo (c : Cnv) (s : Int) (inn : List Int) (i d : Int) : List Int := ix 0 inn i :: digS c.F.q d.toNat (s / c.fst i)
theorem lineTo_succ (c : Cnv) (s : Int) (inn : List Int) {i d : Int} (hq : 2 ≤ c.F.q) (d0 : 0 ≤ d) : c.lineTo s inn i (d + 1) = c.lineTo s inn i d ++ [s / c.fst i / c.F.q ^ d.toNat % c.F.q] := by
 unfold lineTo
 rw [show (d + 1).toNat = d.toNat + 1 by omega, digS_snoc c.F.q (by omega)]; rfl
theorem lineTo_all (c : Cnv) (s : Int) (inn : List Int) {i d : Int} (h : d = c.deg i) : c.lineTo s inn i d = c.line s inn i := by subst h; rfl
theorem rowDeg_of_mem (row : List (List Int)) {j : Int} (h0 : 0 ≤ j) (h1 : j < row.length) : (trimN (ix [] row j) : Int) - 1 ≤ degOf row := by
 have key : ∀ n : Nat, j < n → (trimN (ix [] row j) : Int) - 1 ≤ rowDeg row n := by
  intro n
  induction n with
  | zero => intro h; omega
  | succ n ih =>
   intro h
   simp only [rowDeg]
   by_cases hj : j = (n : Int)
   ·rw [← hj]; omega
   ·have := ih (by omega); omega
 exact key row.length (by omega)
theorem gen_zero (c : Cnv) {i j : Int} (j0 : 0 ≤ j) (j1 : j < (ix [] c.Gen i).length) {d : Int} (hd : c.deg i < d) : ix 0 (ix [] (ix [] c.Gen i) j) d = 0 := by
 have h := rowDeg_of_mem (ix [] c.Gen i) j0 j1
 have := c.deg_nonneg i
 exact trimN_after _ _ (by unfold deg at hd; omega)
theorem dotF_line {c : Cnv} (hS : Shape c.F) (s : Int) (inn : List Int) {i j : Int} (j0 : 0 ≤ j) (j1 : j < (ix [] c.Gen i).length) :
  dotF c.F (c.line s inn i) (ix [] (ix [] c.Gen i) j) = dotTo c.F (c.line s inn i) (ix [] (ix [] c.Gen i) j) ((c.deg i).toNat + 1) := by
 have hl := c.length_line s inn i
 have hd := c.deg_nonneg i
 have hz : inF c.F 0 = 0 := by have := hS.bd; exact inF_id (by omega) (by omega)
 unfold dotF
 by_cases hg : ((ix [] (ix [] c.Gen i) j).length : Int) ≤ c.deg i
 ·have e := dotTo_end hS (l := c.line s inn i) (p := ix [] (ix [] c.Gen i) j) (n := (ix [] (ix [] c.Gen i) j).length) (fun k hk => .inr (by
   have : ix 0 (ix [] (ix [] c.Gen i) j) (k : Int) = 0 := by
    unfold ix; simp [List.getD]; rw [List.getElem?_eq_none (by simpa [ix] using hk)]; rfl
   rw [this, hz])) ((c.deg i).toNat + 1 - (ix [] (ix [] c.Gen i) j).length)
  rw [← show (ix [] (ix [] c.Gen i) j).length + ((c.deg i).toNat + 1 - (ix [] (ix [] c.Gen i) j).length) = (c.deg i).toNat + 1 by omega, e]
  congr 1; omega
 ·congr 1; omega
theorem outTo_dot {c : Cnv} (hS : Shape c.F) (s : Int) (inn : List Int) {i j : Int} (i0 : 0 ≤ i) (j0 : 0 ≤ j) (j1 : j < (ix [] c.Gen i).length) :
  addF c.F (c.outTo s inn j i.toNat) (dotF c.F (c.line s inn i) (ix [] (ix [] c.Gen i) j)) = c.outTo s inn j (i + 1).toNat := by
 rw [dotF_line hS s inn j0 j1, outTo_succ c s inn j i0, accF_dot hS (outTo_lt hS s inn j _).1 (outTo_lt hS s inn j _).2]
theorem nn_pos (c : Cnv) : 0 ≤ c.n := by unfold n; omega
theorem states_le {c : Cnv} (hq : 2 ≤ c.F.q) (hb : ¬ c.big) : 1 ≤ c.states ∧ c.states ≤ 65536 := by
 have h0 := c.sumD_nonneg c.Gen.length
 have h4 := pow_part (c := c) hq (e := c.sumD c.Gen.length) (by unfold total k; omega)
 have h5 := pow_pos_of c.F.q hq (c.sumD c.Gen.length).toNat
 unfold states
 unfold big at hb
 omega
end Cnv
end Go.Cw
set_option linter.unusedVariables false
set_option linter.unusedSimpArgs false
set_option linter.unusedSectionVars false
namespace Go.Cw
namespace Cnv
variable {c : Cnv} {s : Int} {inn : List Int}
def dg (c : Cnv) (s i d : Int) : Int := s / c.fst i / c.F.q ^ d.toNat % c.F.q
theorem take_line (c : Cnv) (s : Int) (inn : List Int) (i : Int) (n : Nat) (h : (n : Int) ≤ c.deg i) : ((c.line s inn i).take (n + 1)) = (c.line s inn i).take n ++ [ix 0 (c.line s inn i) n] := by
 have := take_succ_ix 0 (c.line s inn i) (i := (n : Int)) (by omega) (by have := c.length_line s inn i; omega)
 simpa [show ((n : Int) + 1).toNat = n + 1 by omega] using this
theorem valS_snoc (q : Int) : ∀ (l : List Int) (a : Int), valS q (l ++ [a]) = valS q l + a * q ^ l.length
 | [], a => by simp [valS]
 | b :: l, a => by
  rw [List.cons_append, valS, valS_snoc q l a, List.length_cons, Int.pow_succ, valS]
  rw [Int.add_mul, Int.mul_assoc]; omega
theorem nxE_val (c : Cnv) (s : Int) (inn : List Int) (i : Int) : ∀ n : Nat, (n : Int) ≤ c.deg i → c.nxE s inn i n = c.fst i * valS c.F.q ((c.line s inn i).take n)
 | 0, _ => by simp [nxE, valS]
 | n + 1, h => by
  have ih := nxE_val c s inn i n (by omega)
  have hl := c.length_line s inn i
  rw [nxE, ih, take_line c s inn i n (by omega), valS_snoc, List.length_take, Nat.min_eq_left (by omega), Int.mul_add]
  rw [← Int.mul_assoc, ← Int.mul_assoc, Int.mul_comm (ix 0 _ _) (c.fst i)]
theorem fst_mul (c : Cnv) {i m : Int} (h0 : 0 ≤ i) (h1 : i < m) (d : Int) (d0 : 0 ≤ d) (d1 : d < c.deg i) : ∃ y, c.fst m = c.fst i * c.F.q ^ d.toNat * (c.F.q * y) := by
 obtain ⟨k, hk⟩ : ∃ k : Nat, m.toNat = (i.toNat + 1) + k := ⟨m.toNat - (i.toNat + 1), by omega⟩
 have hs := c.sumD_mono (i.toNat + 1) k
 have h2 : c.sumD (i.toNat + 1) = c.sumD i.toNat + c.deg i := by have := c.sumD_succ h0; rwa [show (i + 1).toNat = i.toNat + 1 by omega] at this
 have hn := c.sumD_nonneg i.toNat
 refine ⟨c.F.q ^ ((c.sumD m.toNat).toNat - ((c.sumD i.toNat).toNat + d.toNat + 1)), ?_⟩
 unfold fst
 rw [← Int.pow_succ', ← Int.pow_add, ← Int.pow_add]
 congr 1
 rw [hk]; omega
theorem div_drop {a X q : Int} (hX : 0 < X) (hq : 0 < q) (y : Int) : (a + X * (q * y)) / X % q = a / X % q := by
 rw [Int.add_mul_ediv_left _ _ (by omega), Int.add_mul_emod_self_left]
theorem nxE_dvd (c : Cnv) (s : Int) (inn : List Int) (i : Int) : ∀ n : Nat, ∃ z, c.nxE s inn i n = c.fst i * z
 | 0 => ⟨0, by simp [nxE]⟩
 | n + 1 => by
  obtain ⟨z, hz⟩ := nxE_dvd c s inn i n
  refine ⟨z + ix 0 (c.line s inn i) n * c.F.q ^ n, ?_⟩
  rw [nxE, hz, Int.mul_add]
  congr 1
  rw [← Int.mul_assoc, ← Int.mul_assoc, Int.mul_comm (ix 0 _ _) (c.fst i)]
theorem dg_nxt {c : Cnv} {s : Int} {inn : List Int} (hq : 2 ≤ c.F.q) (hg : c.GoodIn inn) {i d : Int} (h0 : 0 ≤ i) (d0 : 0 ≤ d) (d1 : d < c.deg i) : ∀ m : Nat, i < m → m ≤ c.Gen.length → c.dg (c.nxt s inn m) i d = ix 0 (c.line s inn i) d := by
 have hfp := c.fst_pos hq i
 have hpq := pow_pos_of c.F.q hq d.toNat
 have hX : 0 < c.fst i * c.F.q ^ d.toNat := by have := Int.mul_pos (show 0 < c.fst i by omega) (show 0 < c.F.q ^ d.toNat by omega); omega
 intro m
 induction m with
 | zero => intro h; omega
 | succ m ih =>
  intro him hm
  by_cases hlt : i < m
  ·have hi := ih hlt (by omega)
   unfold dg at hi ⊢
   rw [Int.ediv_ediv_of_nonneg (by omega)] at hi ⊢
   obtain ⟨z, hz⟩ := nxE_dvd c s inn m (c.deg m).toNat
   obtain ⟨y, hy⟩ := fst_mul c h0 hlt d d0 d1
   rw [nxt, hz, hy, show c.fst i * c.F.q ^ d.toNat * (c.F.q * y) * z = c.fst i * c.F.q ^ d.toNat * (c.F.q * (y * z)) by rw [Int.mul_assoc, Int.mul_assoc c.F.q y z], div_drop hX (by omega)]
   exact hi
  ·have him' : i = (m : Int) := by omega
   have hlow := nxt_lt (s := s) hq hg m (by omega)
   rw [← him'] at hlow
   have hl := c.length_line s inn i
   have hdn := c.deg_nonneg i
   unfold dg
   rw [nxt, ← him', nxE_val c s inn i _ (by omega)]
   rw [Int.add_mul_ediv_left _ _ (by omega), Int.ediv_eq_zero_of_lt hlow.1 hlow.2, Int.zero_add]
   have hlen : ((c.line s inn i).take (c.deg i).toNat).length = (c.deg i).toNat := by rw [List.length_take]; omega
   have hv := digS_valS c.F.q hq ((c.line s inn i).take (c.deg i).toNat) (fun x hx => by
    obtain ⟨j, hj1, hj2, hj3⟩ := mem_take_getD 0 _ _ _ hx
    rw [← hj3]
    exact line_lt (s := s) hq hg h0 (by omega) (by omega) (by omega))
   rw [hlen] at hv
   have hd := ix_digS c.F.q (by omega) (c.deg i).toNat (valS c.F.q ((c.line s inn i).take (c.deg i).toNat)) d.toNat (by omega)
   rw [← hd, hv, show ((d.toNat : Nat) : Int) = d by omega]
   exact ix_take _ d0 (by omega)
theorem dg_line (hq : 2 ≤ c.F.q) {i d : Int} (d0 : 0 ≤ d) (d1 : d < c.deg i) : ix 0 (c.line s inn i) (d + 1) = c.dg s i d := c.ix_line_succ s inn hq d0 d1
def GoodU (c : Cnv) (us : List (List Int)) : Prop := ∀ u ∈ us, c.GoodIn u
noncomputable def stepsErr (c : Cnv) : List (List Int) → Int
 | [] => 0
 | u :: us => if c.inErr u = 0 then stepsErr c us else c.inErr u
theorem stepsErr_zero {c : Cnv} : ∀ {us : List (List Int)}, c.stepsErr us = 0 ↔ c.GoodU us
 | [] => ⟨fun _ u h => absurd h (by simp), fun _ => rfl⟩
 | u :: us => by
  unfold stepsErr
  by_cases h : c.inErr u = 0
  ·rw [if_pos h, stepsErr_zero]
   constructor
   ·intro g v hv
    rcases List.mem_cons.1 hv with rfl | hv
    ·exact inErr_zero.1 h
    ·exact g v hv
   ·exact fun g v hv => g v (List.mem_cons_of_mem _ hv)
  ·rw [if_neg h]
   exact ⟨fun g => absurd g h, fun g => absurd (inErr_zero.2 (g u (by simp))) h⟩
theorem stepsErr_at : ∀ (us : List (List Int)) (t : Nat), (∀ u ∈ us.take t, c.inErr u = 0) → t < us.length → c.inErr (us.getD t []) ≠ 0 → c.stepsErr us = c.inErr (us.getD t [])
 | [], t, _, h, _ => by simp at h
 | u :: us, 0, _, _, h => by
  unfold stepsErr
  simp at h ⊢
  exact fun g => absurd g h
 | u :: us, t + 1, hg, h, hn => by
  unfold stepsErr
  rw [if_pos (hg u (by simp))]
  simpa using stepsErr_at us t (fun v hv => hg v (by simp [hv])) (by simpa using h) (by simpa using hn)
def OkTo (c : Cnv) (us : List (List Int)) (t : Int) : Prop := ∀ u ∈ us.take t.toNat, c.inErr u = 0
theorem OkTo.zero (c : Cnv) (us : List (List Int)) : c.OkTo us 0 := by intro u h; simp at h
theorem OkTo.succ {us : List (List Int)} {t : Int} (h : c.OkTo us t) (h0 : 0 ≤ t) (h1 : t < us.length) (h2 : c.inErr (ix [] us t) = 0) : c.OkTo us (t + 1) := by
 intro u hu
 rw [take_succ_ix [] us h0 h1] at hu
 rcases List.mem_append.1 hu with hu | hu
 ·exact h u hu
 ·rw [List.mem_singleton] at hu; rw [hu]; exact h2
theorem OkTo.all {us : List (List Int)} {t : Int} (h : c.OkTo us t) (h1 : us.length ≤ t) : c.stepsErr us = 0 := by
 refine stepsErr_zero.2 fun u hu => inErr_zero.1 (h u ?_)
 rw [List.take_of_length_le (by omega)]; exact hu
theorem OkTo.bad {us : List (List Int)} {t : Int} (h : c.OkTo us t) (h0 : 0 ≤ t) (h1 : t < us.length) (h2 : c.inErr (ix [] us t) ≠ 0) : c.stepsErr us = c.inErr (ix [] us t) :=
 stepsErr_at us t.toNat h (by omega) h2
def encS (c : Cnv) (us : List (List Int)) : Nat → Int
 | 0 => 0
 | t + 1 => c.nxt (encS c us t) (ix [] us t) c.Gen.length
def encO (c : Cnv) (us : List (List Int)) (t : Int) : List Int := c.outL (c.encS us t.toNat) (ix [] us t)
def encL (c : Cnv) (us : List (List Int)) : List (List Int) := mapR (c.encO us) us.length
theorem GoodU.at {us : List (List Int)} (h : c.GoodU us) {t : Int} (h0 : 0 ≤ t) (h1 : t < us.length) : c.GoodIn (ix [] us t) := h _ (ix_mem [] us h0 h1)
def back (us : List (List Int)) (i t : Int) : List Int := mapR (fun d => ix 0 (ix [] us (t - d)) i) (t + 1)
theorem ix_ge (l : List Int) {i : Int} (h : (l.length : Int) ≤ i) : ix 0 l i = 0 := by unfold ix; simp [List.getD]; rw [List.getElem?_eq_none (by omega)]; rfl
noncomputable def encErr (c : Cnv) (us : List (List Int)) : Int := if c.err = 0 then c.stepsErr us else c.err
noncomputable def encE (c : Cnv) (us : List (List Int)) : List (List Int) := if c.encErr us = 0 then c.encL us else []
end Cnv
end Go.Cw
namespace Go.Cw
theorem ix_set_self (l : List Int) {i : Int} (v : Int) (h0 : 0 ≤ i) (h1 : i < l.length) : ix 0 (l.set i.toNat v) i = v := by
 have hi : i.toNat < l.length := by omega
 unfold ix; simp [List.getD, hi]
namespace Cnv
end Cnv
end Go.Cw
set_option linter.unusedVariables false
set_option linter.unusedSimpArgs false
set_option linter.unusedSectionVars false
namespace Go.Cw
namespace Cnv
variable {c : Cnv}
def zrow (c : Cnv) : List Int := List.replicate c.Gen.length 0
def termTo (c : Cnv) (us : List (List Int)) (d : Int) : List (List Int) := us ++ List.replicate d.toNat c.zrow
def term (c : Cnv) (us : List (List Int)) : List (List Int) := c.termTo us c.mem
theorem maxD_ge (c : Cnv) : ∀ (n : Nat) (i : Int), 0 ≤ i → i < n → c.deg i ≤ c.maxD n
 | 0, i, h0, h1 => by omega
 | n + 1, i, h0, h1 => by
  simp only [maxD]
  by_cases h : i = n
  ·rw [h]; omega
  ·have := maxD_ge c n i h0 (by omega); omega
theorem deg_le_mem {i : Int} (h0 : 0 ≤ i) (h1 : i < c.Gen.length) : c.deg i ≤ c.mem := maxD_ge c _ i h0 h1
theorem Few.mem_le (h : c.Few) : c.mem ≤ 40 := by
 have key : ∀ n : Nat, n ≤ c.Gen.length → c.maxD n ≤ 40 := by
  intro n
  induction n with
  | zero => intro _; simp [maxD]
  | succ n ih =>
   intro hn
   have := ih (by omega)
   have := h.deg_le n (by omega) (by unfold k; omega)
   simp only [maxD]; omega
 exact key _ (Nat.le_refl _)
theorem zrow_good (hq : 2 ≤ c.F.q) : c.GoodIn c.zrow := by
 refine ⟨by unfold zrow k; simp, ?_⟩
 rintro ⟨x, hx, hb⟩
 have := List.eq_of_mem_replicate hx
 omega
theorem GoodU.term {us : List (List Int)} (hq : 2 ≤ c.F.q) (h : c.GoodU us) (d : Int) : c.GoodU (c.termTo us d) := by
 intro u hu
 rcases List.mem_append.1 hu with hu | hu
 ·exact h u hu
 ·rw [List.eq_of_mem_replicate hu]; exact zrow_good hq
theorem nxt_zero {s : Int} {inn : List Int} : ∀ n : Nat, (∀ i d : Int, 0 ≤ i → i < n → 0 ≤ d → d < c.deg i → ix 0 (c.line s inn i) d = 0) → c.nxt s inn n = 0
 | 0, _ => rfl
 | n + 1, h => by
  have key : ∀ m : Nat, (m : Int) ≤ c.deg n → c.nxE s inn n m = 0 := by
   intro m
   induction m with
   | zero => intro _; rfl
   | succ m ih =>
    intro hm
    rw [nxE, ih (by omega), h n m (by omega) (by omega) (by omega) (by omega)]; simp
  rw [nxt, nxt_zero n (fun i d i0 i1 d0 d1 => h i d i0 (by omega) d0 d1), key _ (by have := c.deg_nonneg n; omega)]; rfl
theorem line_zero (hq : 2 ≤ c.F.q) {i d : Int} (h0 : 0 ≤ i) (h1 : i < c.Gen.length) (d0 : 0 ≤ d) (d1 : d ≤ c.deg i) : ix 0 (c.line 0 c.zrow i) d = 0 := by
 by_cases hd : d = 0
 ·subst hd
  rw [ix_line_zero]; unfold zrow; exact ix_replicate0 _ _
 ·obtain ⟨g, rfl⟩ : ∃ g, d = g + 1 := ⟨d - 1, by omega⟩
  rw [dg_line hq (by omega) (by omega)]
  unfold dg; simp
end Cnv
end Go.Cw
namespace Go.Cw
end Go.Cw
set_option linter.unusedVariables false
set_option linter.unusedSimpArgs false
set_option linter.unusedSectionVars false
namespace Go.Cw
def wt1To (l : List Int) : Nat → Int
 | 0 => 0
 | n + 1 => wt1To l n + if ix 0 l n = 0 then 0 else 1
def wt1 (l : List Int) : Int := wt1To l l.length
def wtTo (rows : List (List Int)) : Nat → Int
 | 0 => 0
 | n + 1 => wtTo rows n + wt1 (ix [] rows n)
def wtL (rows : List (List Int)) : Int := wtTo rows rows.length
theorem wt1To_succ (l : List Int) {j : Int} (h : 0 ≤ j) : wt1To l (j + 1).toNat = wt1To l j.toNat + if ix 0 l j = 0 then 0 else 1 := by
 rw [show (j + 1).toNat = j.toNat + 1 by omega, wt1To, show ((j.toNat : Nat) : Int) = j by omega]
theorem wtTo_succ (rows : List (List Int)) {i : Int} (h : 0 ≤ i) : wtTo rows (i + 1).toNat = wtTo rows i.toNat + wt1 (ix [] rows i) := by
 rw [show (i + 1).toNat = i.toNat + 1 by omega, wtTo, show ((i.toNat : Nat) : Int) = i by omega]
theorem wt1To_le (l : List Int) : ∀ n : Nat, 0 ≤ wt1To l n ∧ wt1To l n ≤ n
 | 0 => by simp [wt1To]
 | n + 1 => by have := wt1To_le l n; simp only [wt1To]; split <;> omega
theorem wtTo_nonneg (rows : List (List Int)) : ∀ n, 0 ≤ wtTo rows n
 | 0 => Int.le_refl _
 | n + 1 => by have := wtTo_nonneg rows n; have := (wt1To_le (ix [] rows n) (ix [] rows n).length).1; simp only [wtTo, wt1]; omega
theorem wtTo_le (rows : List (List Int)) {b : Int} (hb : 0 ≤ b) (h : ∀ r ∈ rows, (r.length : Int) ≤ b) : ∀ n : Nat, n ≤ rows.length → wtTo rows n ≤ b * n
 | 0, _ => by simp [wtTo]
 | n + 1, hn => by
  have ih := wtTo_le rows hb h n (by omega)
  have h1 := (wt1To_le (ix [] rows n) (ix [] rows n).length).2
  have h2 := h _ (ix_mem [] rows (i := (n : Int)) (by omega) (by omega))
  simp only [wtTo, wt1]
  rw [show ((n + 1 : Nat) : Int) = (n : Int) + 1 by omega, Int.mul_add, Int.mul_one]; omega
theorem wt1_zero_iff (l : List Int) : wt1 l = 0 ↔ ∀ x ∈ l, x = 0 := by
 have key : ∀ n : Nat, n ≤ l.length → (wt1To l n = 0 ↔ ∀ x ∈ l.take n, x = 0) := by
  intro n
  induction n with
  | zero => intro _; simp [wt1To]
  | succ n ih =>
   intro hn
   have ih := ih (by omega)
   have h1 := wt1To_le l n
   have h2 := take_succ_ix 0 l (i := (n : Int)) (by omega) (by omega)
   rw [show ((n : Int) + 1).toNat = n + 1 by omega, show (n : Int).toNat = n by omega] at h2
   rw [h2, wt1To]
   constructor
   ·intro h x hx
    have h3 : wt1To l n = 0 ∧ ix 0 l (n : Int) = 0 := by split at h <;> rename_i g; exact ⟨by omega, g⟩; omega
    rcases List.mem_append.1 hx with hx | hx
    ·exact ih.1 h3.1 x hx
    ·rw [List.mem_singleton] at hx; rw [hx]; exact h3.2
   ·intro h
    rw [ih.2 (fun x hx => h x (List.mem_append_left _ hx)), if_pos (h _ (by simp))]; rfl
 have := key l.length (Nat.le_refl _)
 rw [List.take_length] at this
 exact this
theorem wtL_single (l : List Int) : wtL [l] = wt1 l := by show (0 : Int) + wt1 (ix [] [l] ((0 : Nat) : Int)) = _; rw [Int.zero_add]; rfl
end Go.Cw
set_option linter.unusedVariables false
set_option linter.unusedSimpArgs false
set_option linter.unusedSectionVars false
namespace Go.Cw
namespace Cnv
variable {c : Cnv}
def ins (c : Cnv) : Int := c.F.q ^ c.Gen.length
def inp (c : Cnv) (x : Int) : List Int := digS c.F.q c.Gen.length x
theorem length_inp (x : Int) : (c.inp x).length = c.Gen.length := length_digS _ _ _
theorem inp_good (hq : 2 ≤ c.F.q) (x : Int) : c.GoodIn (c.inp x) := by
 refine ⟨by unfold k; rw [length_inp], ?_⟩
 rintro ⟨y, hy, hb⟩
 exact hb (digS_mem c.F.q hq _ _ y hy)
theorem ins_pos (hq : 2 ≤ c.F.q) : 1 ≤ c.ins := pow_pos_of c.F.q hq _
theorem states_ins (hq : 2 ≤ c.F.q) (hb : ¬ c.big) : c.states * c.ins ≤ 65536 := by
 have h0 := c.sumD_nonneg c.Gen.length
 have : c.states * c.ins = c.F.q ^ c.total.toNat := by
  unfold states ins total k
  rw [← Int.pow_add]; congr 1; omega
 rw [this]; unfold big at hb; omega
theorem states_ge (hq : 2 ≤ c.F.q) : 1 ≤ c.states := pow_pos_of c.F.q hq _
theorem ins_le (hq : 2 ≤ c.F.q) (hb : ¬ c.big) : c.ins ≤ 65536 := by
 have h1 := states_ins hq hb
 have h2 := states_ge (c := c) hq
 have h3 := ins_pos (c := c) hq
 have := Int.mul_le_mul_of_nonneg_right h2 (show 0 ≤ c.ins by omega)
 omega
theorem length_outL (s : Int) (inn : List Int) : ((c.outL s inn).length : Int) = c.n := by have := c.nn_pos; unfold outL; rw [length_mapR]; omega
theorem at_div (hi : 1 ≤ c.ins) {s x : Int} (h0 : 0 ≤ x) (h1 : x < c.ins) : (s * c.ins + x) / c.ins = s ∧ (s * c.ins + x) % c.ins = x := by
 have hx : x / c.ins = 0 := Int.ediv_eq_zero_of_lt h0 h1
 have hy : x % c.ins = x := Int.emod_eq_of_lt h0 h1
 constructor
 ·rw [Int.add_comm, Int.add_mul_ediv_right _ _ (by omega), hx, Int.zero_add]
 ·rw [Int.add_comm, Int.add_mul_emod_self_right, hy]
theorem nxt_states {s : Int} {inn : List Int} (hq : 2 ≤ c.F.q) (hg : c.GoodIn inn) : 0 ≤ c.nxt s inn c.Gen.length ∧ c.nxt s inn c.Gen.length < c.states := by
 have := nxt_lt (s := s) hq hg c.Gen.length (Nat.le_refl _)
 simpa [fst, states] using this
theorem eWt_le {s : Int} {inn : List Int} : 0 ≤ wt1 (c.outL s inn) ∧ wt1 (c.outL s inn) ≤ c.n := by
 have h1 := wt1To_le (c.outL s inn) (c.outL s inn).length
 have h2 := length_outL (c := c) s inn
 unfold wt1; omega
structure Fp where
 D : Int
 Msg : List (List Int)
 Pot : List Int
def bad (c : Cnv) (p : Fp) (s x : Int) : Prop :=
 (0 < s ∧ wt1 (c.outL s (c.inp x)) + ix 0 p.Pot (c.nxt s (c.inp x) c.Gen.length) < ix 0 p.Pot s) ∨ ((s = 0 ∧ 0 < x) ∧ wt1 (c.outL s (c.inp x)) + ix 0 p.Pot (c.nxt s (c.inp x) c.Gen.length) < p.D)
instance (c : Cnv) (p : Fp) (s x : Int) : Decidable (c.bad p s x) := by unfold bad; infer_instance
def potBad (p : Fp) : Prop := ∃ v ∈ p.Pot, v < 0 ∨ 2147483648 < v
def Rch (c : Cnv) (p : Fp) : Prop := c.GoodU p.Msg ∧ wtL p.Msg ≠ 0 ∧ wtL (c.encL (c.term p.Msg)) = p.D
def Acc (c : Cnv) (p : Fp) : Prop := c.Rch p ∧ ((p.Pot.length : Int) = c.states ∧ ix 0 p.Pot 0 = 0) ∧ ¬ potBad p ∧ ∀ s x : Int, 0 ≤ s → s < c.states → 0 ≤ x → x < c.ins → ¬ c.bad p s x
open Classical in
noncomputable instance (c : Cnv) (p : Fp) : Decidable (c.Rch p) := Classical.propDecidable _
open Classical in
noncomputable instance (c : Cnv) (p : Fp) : Decidable (c.Acc p) := Classical.propDecidable _
def potTo (p : Fp) (i : Int) : Prop := ∀ v ∈ p.Pot.take i.toNat, ¬ (v < 0 ∨ 2147483648 < v)
theorem potTo.zero (p : Fp) : potTo p 0 := by intro v h; simp at h
theorem potTo.succ {p : Fp} {i : Int} (h : potTo p i) (h0 : 0 ≤ i) (h1 : i < p.Pot.length) (h2 : ¬ (ix 0 p.Pot i < 0 ∨ 2147483648 < ix 0 p.Pot i)) : potTo p (i + 1) := by
 intro v hv
 rw [take_succ_ix 0 p.Pot h0 h1] at hv
 rcases List.mem_append.1 hv with hv | hv
 ·exact h v hv
 ·rw [List.mem_singleton] at hv; rw [hv]; exact h2
theorem potTo.all {p : Fp} {i : Int} (h : potTo p i) (h1 : p.Pot.length ≤ i) : ¬ potBad p := by
 rintro ⟨v, hv, hb⟩
 refine h v ?_ hb
 rw [List.take_of_length_le (by omega)]; exact hv
def GoodTo (c : Cnv) (p : Fp) (a : Int) : Prop := ∀ s x : Int, 0 ≤ s → 0 ≤ x → x < c.ins → s * c.ins + x < a → ¬ c.bad p s x
theorem GoodTo.zero (hi : 1 ≤ c.ins) (p : Fp) : c.GoodTo p 0 := by
 intro s x h0 h1 h2 h3
 have := Int.mul_nonneg h0 (show 0 ≤ c.ins by omega)
 omega
theorem GoodTo.succ {p : Fp} {a : Int} (hi : 1 ≤ c.ins) (h : c.GoodTo p a) (h2 : ¬ c.bad p (a / c.ins) (a % c.ins)) : c.GoodTo p (a + 1) := by
 intro s x g0 g1 g2 g3
 by_cases he : s * c.ins + x = a
 ·have := at_div hi (s := s) g1 g2
  rw [he] at this
  rw [this.1, this.2] at h2; exact h2
 ·exact h s x g0 g1 g2 (by omega)
theorem GoodTo.all {p : Fp} {a : Int} (hi : 1 ≤ c.ins) (h : c.GoodTo p a) (ha : c.states * c.ins ≤ a) : ∀ s x : Int, 0 ≤ s → s < c.states → 0 ≤ x → x < c.ins → ¬ c.bad p s x := by
 intro s x g0 g1 g2 g3
 refine h s x g0 g2 g3 ?_
 have := Int.mul_le_mul_of_nonneg_right (show s + 1 ≤ c.states by omega) (show 0 ≤ c.ins by omega)
 rw [Int.add_mul, Int.one_mul] at this
 omega
end Cnv
end Go.Cw
set_option linter.unusedVariables false
set_option linter.unusedSimpArgs false
set_option linter.unusedSectionVars false
namespace Go.Cw
namespace Cnv
variable {c : Cnv}
def GoodS (c : Cnv) (p : Fp) (s : Int) : Prop := ∀ t x : Int, 0 ≤ t → t < s → 0 ≤ x → x < c.ins → ¬ c.bad p t x
def GoodX (c : Cnv) (p : Fp) (s y : Int) : Prop := ∀ x : Int, 0 ≤ x → x < y → ¬ c.bad p s x
theorem GoodS.zero (p : Fp) : c.GoodS p 0 := fun t x h0 h1 => by omega
theorem GoodX.zero (p : Fp) (s : Int) : c.GoodX p s 0 := fun x h0 h1 => by omega
theorem GoodX.succ {p : Fp} {s y : Int} (h : c.GoodX p s y) (h2 : ¬ c.bad p s y) : c.GoodX p s (y + 1) := fun x h0 h1 => by
 by_cases he : x = y
 ·rw [he]; exact h2
 ·exact h x h0 (by omega)
theorem GoodS.succ {p : Fp} {s y : Int} (h : c.GoodS p s) (hx : c.GoodX p s y) (hy : c.ins ≤ y) : c.GoodS p (s + 1) := fun t x h0 h1 h2 h3 => by
 by_cases he : t = s
 ·rw [he]; exact hx x h2 (by omega)
 ·exact h t x h0 (by omega) h2 h3
end Cnv
end Go.Cw
set_option linter.unusedVariables false
set_option linter.unusedSimpArgs false
set_option linter.unusedSectionVars false
namespace Go.Cw
namespace Cnv
variable {c : Cnv}
theorem inp_val (hq : 2 ≤ c.F.q) {u : List Int} (h : c.GoodIn u) : c.inp (valS c.F.q u) = u ∧ 0 ≤ valS c.F.q u ∧ valS c.F.q u < c.ins := by
 have hl : u.length = c.Gen.length := by have := h.1; unfold k at this; omega
 have hm : ∀ d ∈ u, 0 ≤ d ∧ d < c.F.q := fun d hd => outF_no h.2 hd
 have h1 := digS_valS c.F.q hq u hm
 have h2 := valS_bound c.F.q hq u hm
 rw [hl] at h1 h2
 exact ⟨h1, h2⟩
theorem valS_zero (q : Int) : ∀ l : List Int, (∀ x ∈ l, x = 0) → valS q l = 0
 | [], _ => rfl
 | a :: l, h => by rw [valS, valS_zero q l (fun x hx => h x (by simp [hx])), h a (by simp)]; simp
end Cnv
def qA : Cnv.Fp := ⟨5, [[1]], [0, 3, 2, 2]⟩
end Go.Cw
set_option linter.unusedVariables false
set_option linter.unusedSimpArgs false
set_option linter.unusedSectionVars false
namespace Go.Cw
theorem ix_set_ne (l : List Int) {i j : Int} (v : Int) (h0 : 0 ≤ i) (h1 : 0 ≤ j) (hn : i ≠ j) : ix 0 (l.set i.toNat v) j = ix 0 l j := by
 unfold ix
 simp only [List.getD]
 rw [List.getElem?_set_ne (by omega)]
namespace Cnv
variable {c : Cnv}
def nN (c : Cnv) (s x : Int) : Int := c.nxt s (c.inp x) c.Gen.length
def wW (c : Cnv) (s x : Int) : Int := wt1 (c.outL s (c.inp x))
theorem nN_lt (hq : 2 ≤ c.F.q) (s x : Int) : 0 ≤ c.nN s x ∧ c.nN s x < c.states := nxt_states hq (inp_good hq x)
theorem wW_le (s x : Int) : 0 ≤ c.wW s x ∧ c.wW s x ≤ c.n := eWt_le
inductive Rc (c : Cnv) : Int → Int → Prop
 | zero : Rc c 0 0
 | step {s x w : Int} : 0 < s → s < c.states → 0 ≤ x → x < c.ins → Rc c (c.nN s x) w → Rc c s (c.wW s x + w)
def Feas (c : Cnv) (l : List Int) : Prop := ix 0 l 0 = 0 ∧ ∀ s x : Int, 0 < s → s < c.states → 0 ≤ x → x < c.ins → ix 0 l s ≤ c.wW s x + ix 0 l (c.nN s x)
theorem feas_le {l : List Int} (h : c.Feas l) {s w : Int} (r : c.Rc s w) : ix 0 l s ≤ w := by
 induction r with
 | zero => rw [h.1]; exact Int.le_refl _
 | step h1 h2 h3 h4 _ ih => have := h.2 _ _ h1 h2 h3 h4; omega
structure PotOk (c : Cnv) (H : Int) (l : List Int) : Prop where
 len : (l.length : Int) = c.states
 z : ix 0 l 0 = 0
 lo : ∀ s, 0 ≤ ix 0 l s
 hi : ∀ s, ix 0 l s ≤ H
 rc : ∀ s, 0 ≤ s → s < c.states → ix 0 l s = H ∨ ∃ w, w ≤ ix 0 l s ∧ c.Rc s w
def pot0 (H S : Int) : List Int := mapR (fun s => if s = 0 then 0 else H) S
theorem PotOk.first {H : Int} (hH : 0 ≤ H) (hq : 2 ≤ c.F.q) : c.PotOk H (pot0 H c.states) := by
 have hs := states_ge (c := c) hq
 have hl : ((pot0 H c.states).length : Int) = c.states := by unfold pot0; rw [length_mapR]; omega
 have hix : ∀ s, 0 ≤ s → s < c.states → ix 0 (pot0 H c.states) s = if s = 0 then 0 else H := fun s h0 h1 => ix_mapR 0 _ h0 h1
 have hout : ∀ s, c.states ≤ s → ix 0 (pot0 H c.states) s = 0 := fun s h => ix_ge _ (by omega)
 have hneg : ∀ s, s < 0 → ix 0 (pot0 H c.states) s = 0 := fun s h => by
  have : ix 0 (pot0 H c.states) s = ix 0 (pot0 H c.states) 0 := by unfold ix; rw [show s.toNat = (0 : Int).toNat by omega]
  rw [this, hix 0 (Int.le_refl _) (by omega), if_pos rfl]
 refine ⟨hl, by rw [hix 0 (Int.le_refl _) (by omega), if_pos rfl], fun s => ?_, fun s => ?_, fun s h0 h1 => ?_⟩
 ·by_cases h1 : s < 0
  ·rw [hneg s h1]; exact Int.le_refl _
  ·by_cases h2 : s < c.states
   ·rw [hix s (by omega) h2]; split <;> omega
   ·rw [hout s (by omega)]; exact Int.le_refl _
 ·by_cases h1 : s < 0
  ·rw [hneg s h1]; exact hH
  ·by_cases h2 : s < c.states
   ·rw [hix s (by omega) h2]; split <;> omega
   ·rw [hout s (by omega)]; exact hH
 ·rw [hix s h0 h1]
  by_cases hz : s = 0
  ·subst hz; rw [if_pos rfl]; exact .inr ⟨0, Int.le_refl _, .zero⟩
  ·rw [if_neg hz]; exact .inl rfl
def zr (c : Cnv) (s : Int) : Nat → Int
 | 0 => s
 | t + 1 => c.nN (zr c s t) 0
theorem inp_zero : c.inp 0 = c.zrow := by unfold inp zrow; exact Rg.digS_zero _ _
theorem zr_lt (hq : 2 ≤ c.F.q) {s : Int} (h0 : 0 ≤ s) (h1 : s < c.states) : ∀ t, 0 ≤ c.zr s t ∧ c.zr s t < c.states
 | 0 => ⟨h0, h1⟩
 | t + 1 => nN_lt hq _ _
theorem dg_zr (hq : 2 ≤ c.F.q) (s : Int) {i : Int} (i0 : 0 ≤ i) (i1 : i < c.Gen.length) : ∀ (t : Nat) (d : Int), 0 ≤ d → d < t → d < c.deg i → c.dg (c.zr s t) i d = 0
 | 0, d, h0, h1, _ => by omega
 | t + 1, d, h0, h1, h2 => by
  have hg : c.GoodIn (c.inp 0) := inp_good hq 0
  show c.dg (c.nxt (c.zr s t) (c.inp 0) c.Gen.length) i d = 0
  rw [dg_nxt hq hg i0 h0 h2 c.Gen.length i1 (Nat.le_refl _)]
  by_cases hd : d = 0
  ·subst hd; rw [ix_line_zero, inp_zero]; unfold zrow; exact ix_replicate0 _ _
  ·obtain ⟨g, rfl⟩ : ∃ g, d = g + 1 := ⟨d - 1, by omega⟩
   rw [dg_line hq (by omega) (by omega)]
   exact dg_zr hq s i0 i1 t g (by omega) (by omega) (by omega)
theorem zr_zero (hq : 2 ≤ c.F.q) (s : Int) (t : Nat) (ht : c.mem ≤ (t : Int) + 1) : c.zr s (t + 1) = 0 := by
 show c.nxt (c.zr s t) (c.inp 0) c.Gen.length = 0
 refine nxt_zero _ fun i d i0 i1 d0 d1 => ?_
 have hm := deg_le_mem i0 i1
 by_cases hd : d = 0
 ·subst hd; rw [ix_line_zero, inp_zero]; unfold zrow; exact ix_replicate0 _ _
 ·obtain ⟨g, rfl⟩ : ∃ g, d = g + 1 := ⟨d - 1, by omega⟩
  rw [dg_line hq (by omega) (by omega)]
  exact dg_zr hq s i0 i1 t g (by omega) (by omega) (by omega)
theorem rc_zr (hq : 2 ≤ c.F.q) {s : Int} (h0 : 0 ≤ s) (h1 : s < c.states) : ∀ (k t : Nat), c.mem ≤ (t + k : Nat) → 1 ≤ t + k → ∃ w, w ≤ c.n * k ∧ c.Rc (c.zr s t) w
 | 0, t, hm, h => by
  have : c.zr s t = 0 := by
   obtain ⟨g, rfl⟩ : ∃ g, t = g + 1 := ⟨t - 1, by omega⟩
   exact zr_zero hq s g (by omega)
  rw [this]; exact ⟨0, by simp, .zero⟩
 | k + 1, t, hm, h => by
  obtain ⟨w, hw, hr⟩ := rc_zr hq h0 h1 k (t + 1) (by omega) (by omega)
  have hn := c.nn_pos
  have hb := zr_lt hq h0 h1 t
  have hi := ins_pos (c := c) hq
  by_cases hz : c.zr s t = 0
  ·rw [hz]
   refine ⟨0, Int.mul_nonneg hn (by omega), .zero⟩
  ·have h2 := wW_le (c := c) (c.zr s t) 0
   refine ⟨c.wW (c.zr s t) 0 + w, ?_, .step (by omega) hb.2 (Int.le_refl _) (by omega) hr⟩
   rw [show ((k + 1 : Nat) : Int) = (k : Int) + 1 by omega, Int.mul_add, Int.mul_one]; omega
theorem rc_all (hOk : c.Ok) (hFew : c.Few) {s : Int} (h0 : 0 ≤ s) (h1 : s < c.states) : ∃ w, w ≤ 2624 ∧ c.Rc s w := by
 have hq := hOk.fld.1.bd.2.2.2.2.2.1
 have hm := hFew.mem_le
 have hm0 : 0 ≤ c.mem := c.maxD_nonneg c.Gen.length
 obtain ⟨w, hw, hr⟩ := rc_zr hq h0 h1 (c.mem.toNat + 1) 0 (by omega) (by omega)
 have hn := hOk.len
 have hnn := c.nn_pos
 have : c.n * ((c.mem.toNat + 1 : Nat) : Int) ≤ 64 * 41 := Int.mul_le_mul hn (by omega) (by omega) (by omega)
 exact ⟨w, by omega, hr⟩
theorem feas_small (hOk : c.Ok) (hFew : c.Few) {l : List Int} (h : c.Feas l) {s : Int} (h0 : 0 ≤ s) (h1 : s < c.states) : ix 0 l s ≤ 2624 := by
 obtain ⟨w, hw, hr⟩ := rc_all hOk hFew h0 h1
 have := feas_le h hr; omega
def Chk (c : Cnv) (l : List Int) (s x : Int) : Prop := ∀ t y : Int, 0 < t → t < c.states → 0 ≤ y → y < c.ins → (t < s ∨ (t = s ∧ y < x)) → ix 0 l t ≤ c.wW t y + ix 0 l (c.nN t y)
theorem Chk.first (l : List Int) : c.Chk l 1 0 := fun t y t0 _ y0 _ h => by omega
theorem Chk.succ {l : List Int} {s x : Int} (h : c.Chk l s x) (hn : ¬ c.wW s x + ix 0 l (c.nN s x) < ix 0 l s) : c.Chk l s (x + 1) := fun t y t0 t1 y0 y1 hy => by
 by_cases he : t = s ∧ y = x
 ·rw [he.1, he.2]; omega
 ·exact h t y t0 t1 y0 y1 (by omega)
theorem Chk.next {l : List Int} {s x : Int} (h : c.Chk l s x) (hx : c.ins ≤ x) : c.Chk l (s + 1) 0 := fun t y t0 t1 y0 y1 hy => h t y t0 t1 y0 y1 (by omega)
theorem Chk.all {l : List Int} {s : Int} (h : c.Chk l s 0) (hs : c.states ≤ s) (hz : ix 0 l 0 = 0) : c.Feas l := ⟨hz, fun t y t0 t1 y0 y1 => h t y t0 t1 y0 y1 (by omega)⟩
inductive BpN (c : Cnv) (b : List Int) : Int → Nat → Prop
 | zero : BpN c b 0 0
 | step {s : Int} {n : Nat} : s ≠ 0 → BpN c b (c.nN s (ix 0 b s)) n → BpN c b s (n + 1)
structure BstOk (c : Cnv) (H : Int) (l b : List Int) : Prop where
 len : (b.length : Int) = c.states
 rng : ∀ s, 0 ≤ ix 0 b s ∧ ix 0 b s < c.ins
 tight : ∀ s, 0 < s → s < c.states → ix 0 l s < H → c.wW s (ix 0 b s) + ix 0 l (c.nN s (ix 0 b s)) ≤ ix 0 l s
 bp : ∀ s, 0 < s → s < c.states → ix 0 l s < H → ∃ n, c.BpN b s n
theorem BstOk.first {H : Int} (hq : 2 ≤ c.F.q) : c.BstOk H (pot0 H c.states) (List.replicate c.states.toNat 0) := by
 have hs := states_ge (c := c) hq
 have hi := ins_pos (c := c) hq
 have hno : ∀ s, 0 < s → s < c.states → ¬ ix 0 (pot0 H c.states) s < H := fun s h0 h1 => by
  have : ix 0 (pot0 H c.states) s = if s = 0 then 0 else H := ix_mapR 0 _ (by omega) h1
  rw [this, if_neg (by omega)]; omega
 exact ⟨by simp; omega, fun s => by rw [ix_replicate0]; omega, fun s h0 h1 h2 => absurd h2 (hno s h0 h1), fun s h0 h1 h2 => absurd h2 (hno s h0 h1)⟩
theorem BpN.setZero {b : List Int} (hq : 2 ≤ c.F.q) (x : Int) : ∀ {n : Nat} {s : Int}, c.BpN b s n → 0 ≤ s → c.BpN (b.set (0 : Int).toNat x) s n := by
 intro n s h
 induction h with
 | zero => intro _; exact .zero
 | @step s n hs hbp ih =>
  intro s0
  refine .step hs ?_
  rw [ix_set_ne b x (Int.le_refl 0) s0 (fun e => hs e.symm)]
  exact ih (nN_lt hq _ _).1
def fdTo (c : Cnv) (l : List Int) (B : Int) : Nat → Int
 | 0 => B
 | n + 1 => min (fdTo c l B n) (c.wW 0 ((n : Int) + 1) + ix 0 l (c.nN 0 ((n : Int) + 1)))
theorem fdTo_succ (l : List Int) (B : Int) {x : Int} (h : 1 ≤ x) : c.fdTo l B x.toNat = min (c.fdTo l B (x - 1).toNat) (c.wW 0 x + ix 0 l (c.nN 0 x)) := by
 rw [show x.toNat = (x - 1).toNat + 1 by omega, fdTo, show (((x - 1).toNat : Nat) : Int) + 1 = x by omega]
theorem fdTo_le (l : List Int) (B : Int) : ∀ (n : Nat) (x : Int), 1 ≤ x → x ≤ n → c.fdTo l B n ≤ c.wW 0 x + ix 0 l (c.nN 0 x)
 | 0, x, h0, h1 => by omega
 | n + 1, x, h0, h1 => by
  rw [fdTo]
  by_cases hx : x = (n : Int) + 1
  ·rw [hx]; omega
  ·have := fdTo_le l B n x h0 (by omega); omega
def fdist (c : Cnv) (l : List Int) (B : Int) : Int := c.fdTo l B (c.ins - 1).toNat
def pst (c : Cnv) (b : List Int) : Nat → Int
 | 0 => 0
 | t + 1 => c.nN (pst c b t) (ix 0 b (pst c b t))
theorem pst_lt (hq : 2 ≤ c.F.q) (b : List Int) : ∀ t, 0 ≤ c.pst b t ∧ c.pst b t < c.states
 | 0 => by have := states_ge (c := c) hq; simp only [pst]; omega
 | t + 1 => nN_lt hq _ _
theorem BpN.inv0 {b : List Int} {s : Int} (h : c.BpN b s 0) : s = 0 := by cases h; rfl
theorem BpN.inv1 {b : List Int} {s : Int} {n : Nat} (h : c.BpN b s (n + 1)) : s ≠ 0 ∧ c.BpN b (c.nN s (ix 0 b s)) n := by cases h with | step h1 h2 => exact ⟨h1, h2⟩
theorem bpn_pst {b : List Int} : ∀ (n t : Nat), c.BpN b (c.pst b (t + 1)) n → c.pst b (t + 1 + n) = 0 ∧ ∀ i, 1 + t ≤ i → i < 1 + t + n → c.pst b i ≠ 0
 | 0, t, h => ⟨h.inv0, fun i h1 h2 => by omega⟩
 | n + 1, t, h => by
  have hz := h.inv1
  have ih := bpn_pst n (t + 1) hz.2
  refine ⟨by rw [show t + 1 + (n + 1) = t + 1 + 1 + n by omega]; exact ih.1, fun i h1 h2 => ?_⟩
  by_cases hi : i = t + 1
  ·rw [hi]; exact hz.1
  ·exact ih.2 i (by omega) (by omega)
structure Found (c : Cnv) (l b : List Int) (D : Int) (n : Nat) : Prop where
 feas : c.Feas l
 len : (l.length : Int) = c.states
 lo : ∀ s, 0 ≤ ix 0 l s
 x0 : 1 ≤ ix 0 b 0
 rng : ∀ s, 0 ≤ ix 0 b s ∧ ix 0 b s < c.ins
 dist : D = c.wW 0 (ix 0 b 0) + ix 0 l (c.nN 0 (ix 0 b 0))
 least : ∀ x, 1 ≤ x → x < c.ins → D ≤ c.wW 0 x + ix 0 l (c.nN 0 x)
 tight : ∀ s, 0 < s → s < c.states → c.wW s (ix 0 b s) + ix 0 l (c.nN s (ix 0 b s)) = ix 0 l s
 pos : 1 ≤ n
 fin : c.pst b n = 0
 mid : ∀ i, 1 ≤ i → i < n → c.pst b i ≠ 0
theorem found {H B : Int} {l b : List Int} {x : Int} (hOk : c.Ok) (hFew : c.Few) (hH : 2624 < H) (hp : c.PotOk H l) (hb : c.BstOk H l b) (f : c.Feas l) (x0 : 1 ≤ x) (x1 : x < c.ins) (hd : c.fdist l B = c.wW 0 x + ix 0 l (c.nN 0 x)) :
  ∃ n, c.Found l (b.set (0 : Int).toNat x) (c.fdist l B) n := by
 have hq := hOk.fld.1.bd.2.2.2.2.2.1
 have hs := states_ge (c := c) hq
 have hbl := hb.len
 have hself := ix_set_self b x (i := 0) (Int.le_refl _) (by omega)
 have hne : ∀ s, 0 < s → ix 0 (b.set (0 : Int).toNat x) s = ix 0 b s := fun s h => ix_set_ne b x (Int.le_refl _) (by omega) (by omega)
 have hn := nN_lt hq 0 x
 have hsm : ∀ s, 0 ≤ s → s < c.states → ix 0 l s ≤ 2624 := fun s h0 h1 => feas_small hOk hFew f h0 h1
 have hex : ∃ n, 1 ≤ n ∧ c.pst (b.set (0 : Int).toNat x) n = 0 ∧ ∀ i, 1 ≤ i → i < n → c.pst (b.set (0 : Int).toNat x) i ≠ 0 := by
  have h1 : c.pst (b.set (0 : Int).toNat x) 1 = c.nN 0 x := by rw [pst, pst, hself]
  by_cases hz : c.nN 0 x = 0
  ·exact ⟨1, Nat.le_refl _, by rw [h1, hz], fun i g1 g2 => by omega⟩
  ·obtain ⟨m, hm⟩ := hb.bp (c.nN 0 x) (by omega) hn.2 (by have := hsm _ hn.1 hn.2; omega)
   have hm2 := hm.setZero hq x hn.1
   rw [← h1] at hm2
   have := bpn_pst m 0 hm2
   exact ⟨0 + 1 + m, by omega, this.1, fun i g1 g2 => this.2 i (by omega) (by omega)⟩
 obtain ⟨n, n1, n2, n3⟩ := hex
 refine ⟨n, f, hp.len, hp.lo, by rw [hself]; exact x0, fun s => ?_, by rw [hself]; exact hd, fun y y0 y1 => ?_, fun s s0 s1 => ?_, n1, n2, n3⟩
 ·by_cases hs0 : s.toNat = 0
  ·have : ix 0 (b.set (0 : Int).toNat x) s = ix 0 (b.set (0 : Int).toNat x) 0 := by unfold ix; rw [hs0]; rfl
   rw [this, hself]; omega
  ·rw [hne s (by omega)]; exact hb.rng s
 ·exact fdTo_le l B _ y y0 (by omega)
 ·rw [hne s s0]
  have h1 := hb.tight s s0 s1 (by have := hsm s (by omega) s1; omega)
  have h2 := f.2 s (ix 0 b s) s0 s1 (hb.rng s).1 (hb.rng s).2
  omega
theorem pst_shift {b : List Int} {i j : Nat} (h : c.pst b i = c.pst b j) : ∀ k, c.pst b (i + k) = c.pst b (j + k)
 | 0 => h
 | k + 1 => by
  have := pst_shift h k
  show c.nN (c.pst b (i + k)) (ix 0 b (c.pst b (i + k))) = c.nN (c.pst b (j + k)) (ix 0 b (c.pst b (j + k)))
  rw [this]
theorem Found.short {l b : List Int} {D : Int} {n : Nat} (hq : 2 ≤ c.F.q) (h : c.Found l b D n) : (n : Int) ≤ c.states + 1 := by
 have hs := states_ge (c := c) hq
 have hnd : ((List.range (n - 1)).map fun i => c.pst b (i + 1)).Nodup := by
  rw [List.nodup_iff_pairwise_ne, List.pairwise_iff_getElem]
  intro i j hi hj hij
  simp only [List.length_map, List.length_range] at hi hj
  simp only [List.getElem_map, List.getElem_range]
  intro e
  have h2 := pst_shift e (n - (j + 1))
  rw [show j + 1 + (n - (j + 1)) = n by omega, h.fin] at h2
  exact h.mid _ (by omega) (by omega) h2
 have := nodup_lt_length c.states.toNat _ hnd (fun x hx => by
  obtain ⟨i, _, rfl⟩ := List.mem_map.1 hx
  have := pst_lt hq b (i + 1)
  omega)
 simp only [List.length_map, List.length_range] at this
 omega
theorem inp_pos (hq : 2 ≤ c.F.q) {x : Int} (h0 : 1 ≤ x) (h1 : x < c.ins) : wt1 (c.inp x) ≠ 0 := by
 intro h
 have h2 := (wt1_zero_iff _).1 h
 have h3 := valS_digS c.F.q hq c.Gen.length x (by omega) h1
 have h4 := valS_zero c.F.q (c.inp x) h2
 unfold inp at h4
 omega
end Cnv
end Go.Cw
namespace Go.Cw
namespace Cnv
variable {c : Cnv}
def sumB (b : Bool) : Nat := if b then 1 else 0
end Cnv
end Go.Cw
namespace Go.Cw
namespace Cnv
variable {c : Cnv}
theorem PotOk.any {H H' : Int} {l : List Int} (hOk : c.Ok) (hFew : c.Few) (hH : 2624 < H) (hH' : 2624 ≤ H') (h : c.PotOk H l) (f : c.Feas l) : c.PotOk H' l := by
 have hb : ∀ s, ix 0 l s ≤ 2624 := fun s => by
  have hl := h.len
  by_cases h0 : 0 ≤ s ∧ s < c.states
  ·exact feas_small hOk hFew f h0.1 h0.2
  ·by_cases h1 : s < 0
   ·have : ix 0 l s = ix 0 l 0 := by unfold ix; rw [show s.toNat = (0 : Int).toNat by omega]
    rw [this, f.1]; omega
   ·rw [ix_ge l (by omega)]; omega
 refine ⟨h.len, h.z, h.lo, fun s => by have := hb s; omega, fun s s0 s1 => ?_⟩
 rcases h.rc s s0 s1 with g | g
 ·have := hb s; omega
 ·exact .inr g
def Best (c : Cnv) (l b b3 : List Int) (B x : Int) : Prop := (x = 1 ∧ b3 = b) ∨ ∃ y, 1 ≤ y ∧ y < x ∧ b3 = b.set (0 : Int).toNat y ∧ c.fdTo l B (x - 1).toNat = c.wW 0 y + ix 0 l (c.nN 0 y)
theorem Best.take {l b b3 : List Int} {B x : Int} (x0 : 1 ≤ x) (h : c.Best l b b3 B x) (hv : c.wW 0 x + ix 0 l (c.nN 0 x) < c.fdTo l B (x - 1).toNat) : c.Best l b (b3.set (0 : Int).toNat x) B (x + 1) := by
 refine .inr ⟨x, x0, by omega, ?_, ?_⟩
 ·rcases h with ⟨_, rfl⟩ | ⟨y, _, _, rfl, _⟩
  ·rfl
  ·rw [List.set_set]
 ·rw [show x + 1 - 1 = x by omega, fdTo_succ _ _ x0]; omega
theorem Best.skip {l b b3 : List Int} {B x : Int} (x0 : 1 ≤ x) (h : c.Best l b b3 B x) (hv : ¬ c.wW 0 x + ix 0 l (c.nN 0 x) < c.fdTo l B (x - 1).toNat) (hB : c.wW 0 1 + ix 0 l (c.nN 0 1) < B) : c.Best l b b3 B (x + 1) := by
 rcases h with ⟨rfl, rfl⟩ | ⟨y, y0, y1, rfl, hy⟩
 ·exact absurd (by rw [show (1 - 1 : Int).toNat = 0 from rfl, fdTo]; exact hB) hv
 ·refine .inr ⟨y, y0, by omega, rfl, ?_⟩
  rw [show x + 1 - 1 = x by omega, fdTo_succ _ _ x0, ← hy]; omega
end Cnv
end Go.Cw
set_option linter.unusedVariables false
set_option linter.unusedSimpArgs false
set_option linter.unusedSectionVars false
namespace Go.Cw
section
open La Ps
namespace Cnv
variable {c : Cnv} {hF : FOk c.F}
theorem ke_accS {f : Fld} (h : FOk f) (b : Int) (l p : List Int) : ∀ n : Nat, ke h (accF f b l p n) = ke h b + La.sm (fun d => ke h (ix 0 l d) * ke h (ix 0 p d)) n
 | 0 => (Fi.add_zero _).symm
 | n + 1 => by
  simp only [accF]
  rw [ke_add, ke_mul, ke_accS h b l p n, Fi.add_assoc]; rfl
theorem ke_outS (s : Int) (inn : List Int) (j : Int) : ∀ n : Nat, ke hF (c.outTo s inn j n) = La.sm (fun i => La.sm (fun d => ke hF (ix 0 (c.line s inn (i : Int)) d) * ke hF (ix 0 (ix [] (ix [] c.Gen (i : Int)) j) d)) ((c.deg (i : Int)).toNat + 1)) n
 | 0 => ke_zero hF
 | n + 1 => by
  simp only [outTo]
  rw [ke_accS, ke_outS s inn j n]; rfl
structure PathI (c : Cnv) (w : Nat → List Int) (s : Nat → Int) : Prop where
 good : ∀ t, c.GoodIn (w t)
 next : ∀ t, s (t + 1) = c.nxt (s t) (w t) c.Gen.length
theorem path_line {w : Nat → List Int} {s : Nat → Int} (hq : 2 ≤ c.F.q) (P : PathI c w s) {i : Int} (i0 : 0 ≤ i) (i1 : i < c.Gen.length) : ∀ (t d : Nat), (d : Int) ≤ c.deg i →
  ix 0 (c.line (s t) (w t) i) d = if d ≤ t then ix 0 (w (t - d)) i else c.dg (s 0) i ((d : Int) - t - 1)
 | 0, 0, _ => by rw [if_pos (by omega)]; rfl
 | 0, d + 1, hd => by
  rw [if_neg (by omega)]
  have := dg_line (c := c) (s := s 0) (inn := w 0) hq (i := i) (d := (d : Int)) (by omega) (by omega)
  rw [show ((d + 1 : Nat) : Int) = (d : Int) + 1 by omega, this]
  congr 1; omega
 | t + 1, 0, _ => by rw [if_pos (by omega)]; rfl
 | t + 1, d + 1, hd => by
  have ih := path_line hq P i0 i1 t d (by omega)
  have h1 := dg_line (c := c) (s := s (t + 1)) (inn := w (t + 1)) hq (i := i) (d := (d : Int)) (by omega) (by omega)
  rw [show ((d + 1 : Nat) : Int) = (d : Int) + 1 by omega, h1, P.next t, dg_nxt hq (P.good t) i0 (by omega) (by omega) c.Gen.length i1 (Nat.le_refl _), ih]
  by_cases e : d ≤ t
  ·rw [if_pos e, if_pos (by omega), show t + 1 - (d + 1) = t - d by omega]
  ·rw [if_neg e, if_neg (by omega)]
   congr 1; omega
variable (c hF)
noncomputable def serU (w : Nat → List Int) (s0 : Int) (m : Nat) (i : Int) : Ps (KF c.F hF) := ⟨fun τ => if m ≤ τ then ke hF (ix 0 (w (τ - m)) i) else if ((m - τ : Nat) : Int) ≤ c.deg i then ke hF (c.dg s0 i ((m - τ : Nat) - 1)) else 0⟩
variable {c hF}
theorem serU_zero (w : Nat → List Int) (s0 i : Int) (τ : Nat) : (c.serU hF w s0 0 i).co τ = ke hF (ix 0 (w τ) i) := by
 unfold serU; simp only [Nat.zero_le, if_true, Nat.sub_zero]
theorem path_out {w : Nat → List Int} {s : Nat → Int} (hOk : c.Ok) (P : PathI c w s) (m : Nat) (hm : ∀ i d : Int, 0 ≤ i → i < c.Gen.length → (m : Int) < d → d ≤ c.deg i → c.dg (s 0) i (d - 1) = 0) (t : Nat) {j : Int} (j0 : 0 ≤ j) (j1 : j < c.n) :
  (Lr.sm (fun i => c.serU hF w (s 0) m i * c.cG hF i j) c.Gen.length).co (m + t) = ke hF (ix 0 (c.outL (s t) (w t)) j) := by
 have hq := hF.1.bd.2.2.2.2.2.1
 have hout : ix 0 (c.outL (s t) (w t)) j = c.outTo (s t) (w t) j c.Gen.length := ix_mapR 0 _ j0 j1
 rw [hout, ke_outS]
 have hsum : ∀ (F : Nat → Ps (KF c.F hF)) (n τ : Nat), (Lr.sm F n).co τ = La.sm (fun i => (F i).co τ) n := fun F n τ => by
  induction n with
  | zero => rfl
  | succ n ih => show (Lr.sm F n).co τ + (F n).co τ = La.sm _ n + (F n).co τ; rw [ih]
 rw [hsum]
 refine La.sm_congr fun i hi => ?_
 have hrow := hOk.row (i := (i : Int)) (by omega) (by omega)
 have hdn := c.deg_nonneg (i : Int)
 rw [Ri.mul_comm, co_mul]
 have hg0 : ∀ d : Nat, c.deg (i : Int) < d → (c.cG hF (i : Int) j).co d = 0 := fun d hd => by
  unfold cG
  rw [co_pS, gen_zero c (i := (i : Int)) (j := j) (d := (d : Int)) j0 (by omega) hd, ke_zero]
 have hM : ∀ (g : Nat → KF c.F hF) (n N : Nat), n ≤ N → (∀ d, n ≤ d → d < N → g d = 0) → La.sm g N = La.sm g n := fun g n N h1 h2 => sm_more h1 h2
 have e1 := hM (fun d => (c.cG hF (i : Int) j).co d * (c.serU hF w (s 0) m (i : Int)).co (m + t - d)) (min (m + t + 1) ((c.deg (i : Int)).toNat + 1)) (m + t + 1) (by omega) (fun d h1 h2 => by rw [hg0 d (by omega), Fi.zero_mul])
 have e2 := hM (fun d => ke hF (ix 0 (c.line (s t) (w t) (i : Int)) d) * ke hF (ix 0 (ix [] (ix [] c.Gen (i : Int)) j) d)) (min (m + t + 1) ((c.deg (i : Int)).toNat + 1)) ((c.deg (i : Int)).toNat + 1) (by omega) (fun d h1 h2 => by
  have hl := path_line hq P (i := (i : Int)) (by omega) (by omega) t d (by omega)
  rw [hl, if_neg (by omega), show (d : Int) - t - 1 = ((d : Int) - t) - 1 by omega, hm (i : Int) ((d : Int) - t) (by omega) (by omega) (by omega) (by omega), ke_zero, Fi.zero_mul])
 rw [e1, e2]
 refine La.sm_congr fun d hd => ?_
 have hl := path_line hq P (i := (i : Int)) (by omega) (by omega) t d (by omega)
 rw [hl, Fi.mul_comm]
 congr 1
 show (if m ≤ m + t - d then _ else _) = _
 by_cases e : d ≤ t
 ·rw [if_pos (by omega), if_pos e, show m + t - d - m = t - d by omega]
 ·rw [if_neg (by omega), if_neg e, if_pos (by omega), show ((m - (m + t - d) : Nat) : Int) - 1 = (d : Int) - t - 1 by omega]
theorem path_rest {w : Nat → List Int} {s : Nat → Int} (hq : 2 ≤ c.F.q) (P : PathI c w s) {t0 : Nat} (hz : ∀ t i : Nat, t0 ≤ t → i < c.Gen.length → ix 0 (w t) i = 0) {t : Nat} (ht : (t0 : Int) + c.mem ≤ t) : s (t + 1) = 0 := by
 rw [P.next t]
 refine nxt_zero _ fun i d i0 i1 d0 d1 => ?_
 have hm := deg_le_mem i0 i1
 have hl := path_line hq P i0 i1 t d.toNat (by omega)
 rw [show ((d.toNat : Nat) : Int) = d by omega] at hl
 rw [hl, if_pos (by omega)]
 have := hz (t - d.toNat) i.toNat (by omega) (by omega)
 rwa [show ((i.toNat : Nat) : Int) = i by omega] at this
end Cnv
namespace Ps
variable {K : Type} [Fi K]
def Mnm (a : Ps K) : Prop := ∃ (x : K) (b : Nat), x ≠ 0 ∧ a = con x * xp b
theorem mnm_co {x : K} {b : Nat} (i : Nat) : (con x * xp b).co i = if i = b then x else 0 := by
 rw [con_mul, co_xp]
 split
 ·exact Fi.mul_one x
 ·exact Fi.mul_zero x
theorem Mnm.factor {a b : Ps K} (ha : Pol a) (hb : Pol b) (h : Mnm (a * b)) : Mnm a ∧ Mnm b := by
 obtain ⟨x, m, hx, e⟩ := h
 have hne : a * b ≠ 0 := fun g => by
  rw [e] at g
  have := congrArg (fun p => Ps.co p m) g
  simp only [mnm_co] at this
  rw [if_pos trivial] at this
  exact hx this
 have ha0 : a ≠ 0 := fun g => hne (by rw [g, Ri.zero_mul])
 have hb0 : b ≠ 0 := fun g => hne (by rw [g, Ri.mul_zero])
 obtain ⟨p, hp, hp0⟩ := first_co ha0
 obtain ⟨q, hq, hq0⟩ := first_co hb0
 obtain ⟨s, hs⟩ := ha.top ha0
 obtain ⟨t, ht⟩ := hb.top hb0
 have h1 : (a * b).co (p + q) ≠ 0 := by
  rw [co_mul, sm_one (k := p) (by omega) fun i hi hn => ?_]
  ·rw [show p + q - p = q by omega]; exact Fi.mul_ne hp hq
  ·by_cases g : i < p
   ·rw [hp0 i g, Fi.zero_mul]
   ·rw [hq0 _ (by omega), Fi.mul_zero]
 have h2 := (hs.mul ht).1
 rw [e, mnm_co] at h1 h2
 have e1 : p + q = m := Classical.byContradiction fun g => h1 (if_neg g)
 have e2 : s + t = m := Classical.byContradiction fun g => h2 (if_neg g)
 have l1 : p ≤ s := Classical.byContradiction fun g => hs.1 (hp0 s (by omega))
 have l2 : q ≤ t := Classical.byContradiction fun g => ht.1 (hq0 t (by omega))
 have key : ∀ {a : Ps K} {p s : Nat}, a.co p ≠ 0 → (∀ i, i < p → a.co i = 0) → Top a s → s ≤ p → Mnm a := fun {a p s} h1 h2 h3 h4 => ⟨a.co p, p, h1, by
  apply Ps.ext; funext i
  rw [mnm_co]
  by_cases g : i = p
  ·rw [if_pos g, g]
  ·rw [if_neg g]
   by_cases g2 : i < p
   ·exact h2 i g2
   ·exact h3.2 i (by omega)⟩
 exact ⟨key hp hp0 hs (by omega), key hq hq0 ht (by omega)⟩
theorem Mnm.mul {a b : Ps K} (ha : Mnm a) (hb : Mnm b) : Mnm (a * b) := by
 obtain ⟨x, m, hx, rfl⟩ := ha
 obtain ⟨y, n, hy, rfl⟩ := hb
 refine ⟨x * y, m + n, Fi.mul_ne hx hy, ?_⟩
 apply Ps.ext; funext i
 rw [mnm_co, Ri.mul_assoc, con_mul, xp_mul]
 by_cases g : m ≤ i
 ·rw [if_pos g, mnm_co]
  by_cases g2 : i = m + n
  ·rw [if_pos g2, if_pos (by omega)]
  ·rw [if_neg g2, if_neg (by omega), Fi.mul_zero]
 ·rw [if_neg g, if_neg (by omega), Fi.mul_zero]
theorem Mnm.one : Mnm (1 : Ps K) := ⟨1, 0, Fi.one_ne, by rw [con_one, xp_zero, Ri.one_mul]⟩
theorem Mnm.ne {a : Ps K} (h : Mnm a) : a ≠ 0 := by
 obtain ⟨x, m, hx, rfl⟩ := h
 intro g
 have := congrArg (fun p => Ps.co p m) g
 simp only [mnm_co] at this
 rw [if_pos trivial] at this
 exact hx this
theorem Mnm.pol {a u : Ps K} (ha : Mnm a) (h : Pol (u * a)) : Pol u := by
 obtain ⟨x, m, hx, rfl⟩ := ha
 obtain ⟨n, hn⟩ := h
 refine ⟨n, fun i hi => ?_⟩
 have := hn (m + i) (by omega)
 rw [Ri.mul_comm, Ri.mul_assoc, con_mul, xp_mul, if_pos (by omega), show m + i - m = i by omega] at this
 exact Fi.eq_zero_of_mul this hx
theorem prD_mnm {A : Nat → Nat → Ps K} : ∀ {n : Nat}, (∀ i, i < n → Mnm (A i i)) → Mnm (prD A n)
 | 0, _ => Mnm.one
 | n + 1, h => (prD_mnm fun i hi => h i (by omega)).mul (h n (by omega))
theorem mnm_prD {A : Nat → Nat → Ps K} : ∀ {n : Nat}, (∀ i, i < n → Pol (A i i)) → Mnm (prD A n) → ∀ i, i < n → Mnm (A i i)
 | n + 1, hp, h, i, hi => by
  have hpp : ∀ m, m ≤ n → Pol (prD A m) := by
   intro m
   induction m with
   | zero => exact fun _ => Pol.one
   | succ m ih => exact fun hm => (ih (by omega)).mul (hp m (by omega))
  have := Mnm.factor (hpp n (Nat.le_refl n)) (hp n (by omega)) h
  by_cases e : i = n
  ·rw [e]; exact this.2
  ·exact mnm_prD (n := n) (fun i hi => hp i (by omega)) this.1 i (by omega)
theorem inv_ex {a : Ps K} (h : a.co 0 ≠ 0) : ∃ b : Ps K, b * a = 1 := by
 have hex : ∀ n : Nat, ∃ b : Ps K, ∀ m, m ≤ n → (b * a).co m = if m = 0 then 1 else 0 := by
  intro n
  induction n with
  | zero =>
   refine ⟨con (Fi.inv (a.co 0)), fun m hm => ?_⟩
   have : m = 0 := by omega
   subst this
   rw [con_mul, if_pos rfl, Fi.inv_mul _ h]
  | succ n ih =>
   obtain ⟨b, hb⟩ := ih
   generalize hx : Fi.inv (a.co 0) * -((b * a).co (n + 1)) = x
   refine ⟨b + con x * xp (n + 1), fun m hm => ?_⟩
   rw [Ri.add_mul, co_add, Ri.mul_assoc, con_mul, xp_mul]
   by_cases e : m = n + 1
   ·subst e
    rw [if_pos (Nat.le_refl _), if_neg (by omega), Nat.sub_self, ← hx, Fi.mul_comm (Fi.inv _ * _), ← Fi.mul_assoc, Fi.mul_inv h, Fi.one_mul, Fi.add_neg]
   ·rw [if_neg (by omega), Fi.mul_zero, Fi.add_zero]; exact hb m (by omega)
 have hun : ∀ (b b' : Ps K) (n : Nat), (∀ m, m ≤ n → (b * a).co m = if m = 0 then 1 else 0) → (∀ m, m ≤ n → (b' * a).co m = if m = 0 then 1 else 0) → ∀ m, m ≤ n → b.co m = b'.co m := by
  intro b b' n h1 h2 m
  induction m using Nat.strongRecOn with
  | ind m ih =>
   intro hm
   have e : (b * a).co m = (b' * a).co m := by rw [h1 m hm, h2 m hm]
   rw [co_mul, co_mul] at e
   have e2 : La.sm (fun i => b.co i * a.co (m - i)) m = La.sm (fun i => b'.co i * a.co (m - i)) m := La.sm_congr fun i hi => by rw [ih i hi (by omega)]
   have e3 : La.sm (fun i => b.co i * a.co (m - i)) m + b.co m * a.co (m - m) = La.sm (fun i => b'.co i * a.co (m - i)) m + b'.co m * a.co (m - m) := e
   rw [e2, Nat.sub_self] at e3
   have e4 := Fi.add_left_cancel e3
   rw [Fi.mul_comm, Fi.mul_comm (b'.co m)] at e4
   exact Fi.mul_left_cancel h e4
 refine ⟨⟨fun n => (Classical.choose (hex n)).co n⟩, ?_⟩
 apply Ps.ext; funext n
 have hn := Classical.choose_spec (hex n)
 rw [co_one, ← hn n (Nat.le_refl n), co_mul, co_mul]
 refine La.sm_congr fun i hi => ?_
 congr 1
 exact hun _ _ i (Classical.choose_spec (hex i)) (fun m hm => hn m (by omega)) i (Nat.le_refl i)
end Ps
end
end Go.Cw
set_option linter.unusedVariables false
set_option linter.unusedSimpArgs false
set_option linter.unusedSectionVars false
namespace Go.Cw
section
open La Ps
namespace Cnv
variable {c : Cnv} {hF : FOk c.F}
theorem lS_ix {f : Fld} (h : FOk f) {a : Ps (KF f h)} (ha : Pol a) (i : Nat) : ix 0 (lS h a) i = 0 ↔ a.co i = 0 := by
 have hc := lS_cn h a
 have r := ix_ok h.1 hc.1 (i : Int)
 rw [← ke_eq_zero h r.1 r.2]
 have := congrArg (fun p => Ps.co p i) (pS_lS h ha)
 simp only [co_pS] at this
 rw [this]
theorem cat_mnm {f : Fld} (h : FOk f) {a : Ps (KF f h)} (ha : Pol a) : ¬ catP (lS h a) ↔ Mnm a := by
 constructor
 ·intro hn
  have hl : (lS h a).length ≠ 0 := fun e => hn (.inl e)
  have hne : a ≠ 0 := fun e => hl (by rw [e, lS_zero]; rfl)
  obtain ⟨n, ht⟩ := ha.top hne
  have hlen := lS_top h ht
  refine ⟨a.co n, n, ht.1, ?_⟩
  apply Ps.ext; funext i
  rw [mnm_co]
  by_cases e : i = n
  ·rw [if_pos e, e]
  ·rw [if_neg e]
   by_cases e2 : i < n
   ·refine (lS_ix h ha i).1 (Classical.byContradiction fun g => hn (.inr ⟨i, by omega, by omega, g⟩))
   ·exact ht.2 i (by omega)
 ·rintro ⟨x, b, hx, rfl⟩
  have ht : Top (con x * xp b : Ps (KF f h)) b := ⟨by rw [mnm_co, if_pos rfl]; exact hx, fun i hi => by rw [mnm_co, if_neg (by omega)]⟩
  have hlen := lS_top h ht
  rintro (e | ⟨i, i0, i1, i2⟩)
  ·omega
  ·refine i2 ?_
   have := (lS_ix h ha i.toNat).2 (by rw [mnm_co, if_neg (by omega)])
   rwa [show ((i.toNat : Nat) : Int) = i by omega] at this
theorem clear_ex {X : L3} {row i j : Int} {B : Nat} (r0 : 0 ≤ row) (r1 : row < c.k + c.n) (i0 : 0 ≤ i) (i1 : i < c.n) (j0 : 0 ≤ j) (j1 : j < c.n) (hij : i ≠ j) : ∀ (m : Nat) {Y : L3}, c.ClI hF X Y row i j B → (eL Y row j).length ≤ m → ∃ Z, c.ClI hF X Z row i j B ∧ eL Z row j = []
 | 0, Y, C, h => ⟨Y, C, List.eq_nil_of_length_eq_zero (by omega)⟩
 | m + 1, Y, C, h => by
  by_cases hz : (eL Y row j).length = 0
  ·exact ⟨Y, C, List.eq_nil_of_length_eq_zero hz⟩
  ·have := C.next r0 r1 i0 i1 j0 j1 hij (by omega)
   exact clear_ex r0 r1 i0 i1 j0 j1 hij m this.1 (by omega)
theorem row_ex (hkn : c.k ≤ c.n) {i : Int} (i0 : 0 ≤ i) (i1 : i < c.k) : ∀ (m : Nat) {X : L3} {j : Int}, c.TgI hF X i j → i < j → j + m = c.n → ∃ Y, c.TgI hF Y i c.n
 | 0, X, j, T, _, h => ⟨X, by rw [← h]; simpa using T⟩
 | m + 1, X, j, T, hij, h => by
  obtain ⟨Z, h1, h2⟩ := clear_ex (row := i) i0 (by omega) i0 (by omega) (show 0 ≤ j by omega) (by omega) (by omega) _ (ClI.start T.tr T.lb i0 (by omega) i0 (by omega) (by omega) (by omega)) (Nat.le_refl _)
  exact row_ex hkn i0 i1 m (T.step hkn i0 i1 hij (by omega) h1 h2) (by omega) (by omega)
theorem tri_ex (hFew : c.Few) (hOk : c.Ok) (hk3 : c.k ≤ 3) (hn6 : c.n ≤ 6) : ∃ Y, c.TgI hF Y c.k (c.k + 1) := by
 have hkn := hOk.kn
 have key : ∀ m : Nat, (m : Int) ≤ c.k → ∃ Y, c.TgI hF Y m ((m : Int) + 1) := by
  intro m
  induction m with
  | zero => exact fun _ => ⟨_, TgI.start hFew hOk⟩
  | succ m ih =>
   intro hm
   obtain ⟨X, hX⟩ := ih (by omega)
   obtain ⟨Y, hY⟩ := row_ex hkn.2 (i := (m : Int)) (by omega) (by omega) (c.n - ((m : Int) + 1)).toNat hX (by omega) (by omega)
   exact ⟨Y, by
    have := hY.row hn6 (by omega) (by omega) (by omega) (Int.le_refl _) (Int.le_refl _)
    rwa [show ((m + 1 : Nat) : Int) = (m : Int) + 1 by omega]⟩
 obtain ⟨Y, hY⟩ := key c.k.toNat (by omega)
 rw [show ((c.k.toNat : Nat) : Int) = c.k by omega] at hY
 exact ⟨Y, hY⟩
theorem sm_split {R : Type} [Ri R] {F : Nat → R} {i n : Nat} (hi : i < n) : Lr.sm F n = Lr.sm (fun t => if t = i then 0 else F t) n + F i := by
 have h1 : Lr.sm F n = Lr.sm (fun t => (if t = i then 0 else F t) + (if t = i then F i else 0)) n := Lr.sm_congr fun t _ => by
  by_cases a : t = i
  ·subst a; rw [if_pos rfl, if_pos rfl, Ri.zero_add]
  ·rw [if_neg a, if_neg a, Ri.add_zero]
 rw [h1, Lr.sm_add, Lr.sm_one (g := fun t => if t = i then F i else 0) (k := i) hi fun t _ hn => if_neg hn, if_pos rfl]
theorem sm_pol {K : Type} [Fi K] {F : Nat → Ps K} : ∀ {n : Nat}, (∀ i, i < n → Pol (F i)) → Pol (Lr.sm F n)
 | 0, _ => Pol.zero
 | n + 1, h => (sm_pol fun i hi => h i (by omega)).add (h n (by omega))
theorem pol_part {K : Type} [Fi K] {F : Nat → Ps K} {i n : Nat} (hi : i < n) (h : Pol (Lr.sm F n)) (ho : ∀ t, t < n → t ≠ i → Pol (F t)) : Pol (F i) := by
 have hp : Pol (Lr.sm (fun t => if t = i then 0 else F t) n) := sm_pol fun t ht => by
  by_cases a : t = i
  ·rw [if_pos a]; exact Pol.zero
  ·rw [if_neg a]; exact ho t ht a
 have e := sm_split (F := F) hi
 have e2 : F i = Lr.sm F n + -(Lr.sm (fun t => if t = i then 0 else F t) n) := by
  rw [e, Ri.add_comm (Lr.sm _ n), Ri.add_assoc, Ri.add_neg, Ri.add_zero]
 rw [e2]; exact h.add hp.neg
theorem low_all {K : Type} [Fi K] {F : Nat → Ps K} : ∀ {n : Nat}, (∀ i, i < n → Pol (F i)) → ∃ N, ∀ i, i < n → Low (F i) N
 | 0, _ => ⟨0, fun i hi => by omega⟩
 | n + 1, h => by
  obtain ⟨N, hN⟩ := low_all (n := n) fun i hi => h i (by omega)
  obtain ⟨M, hM⟩ := h n (by omega)
  refine ⟨max N M, fun i hi => ?_⟩
  by_cases e : i = n
  ·rw [e]; exact hM.mono (by omega)
  ·exact (hN i (by omega)).mono (by omega)
def cirP (c : Cnv) : Prop := ∃ S : Int → Prop, (∃ s, S s) ∧ (∀ s, S s → 0 ≤ s ∧ s < c.states) ∧ ∀ s, S s → ∃ x, 0 ≤ x ∧ x < c.ins ∧ S (c.nN s x) ∧ (s ≠ 0 ∨ x ≠ 0) ∧ c.wW s x = 0
theorem zero_row {l : List Int} (h : ∀ i : Nat, i < l.length → ix 0 l i = 0) : ∀ x ∈ l, x = 0 := fun x hx => by
 obtain ⟨i, hi, e⟩ := List.getElem_of_mem hx
 have := h i hi
 unfold ix at this
 simpa [List.getD, hi, e] using this
noncomputable def eP (hF : FOk c.F) (Y : L3) (i j : Nat) : Ps (KF c.F hF) := pS hF (eL Y i j)
theorem tri_mnm (hFew : c.Few) (hOk : c.Ok) {Y : L3} (T : c.TgI hF Y c.k (c.k + 1)) : (∀ i : Nat, i < c.Gen.length → Mnm (eP hF Y i i)) ↔ ¬ catP c.minL := by
 have hkn := hOk.kn
 have hme := tri_min hFew T.tr hkn.2 T.zr
 have hpp := prD_pol (c := c) (hF := hF) Y c.Gen.length
 rw [minL_ok hOk (hF := hF), ← hme, cat_mnm hF (mon_pol hpp)]
 constructor
 ·intro h
  have hm : Mnm (prD (fun a b => pS hF (eL Y (a : Int) (b : Int))) c.Gen.length) := prD_mnm h
  obtain ⟨n, hn⟩ := hpp.top hm.ne
  rw [mon_top hn]
  exact Mnm.mul ⟨_, 0, Fi.inv_ne hn.1, by rw [xp_zero, Ri.mul_one]⟩ hm
 ·intro h
  have hz : prD (fun a b => pS hF (eL Y (a : Int) (b : Int))) c.Gen.length ≠ 0 := fun e => h.ne (by rw [e, mon_zero])
  obtain ⟨n, hn⟩ := hpp.top hz
  rw [mon_top hn] at h
  exact mnm_prD (fun i _ => pS_pol hF _) (Mnm.factor (con_pol _) hpp h).2
theorem cir_cat (hFew : c.Few) (hOk : c.Ok) {Y : L3} (T : c.TgI hF Y c.k (c.k + 1)) (h : c.cirP) : catP c.minL := by
 refine Classical.byContradiction fun hnc => ?_
 have hkn := hOk.kn
 have hik : c.k = (c.Gen.length : Int) := rfl
 have hq := hF.1.bd.2.2.2.2.2.1
 have hM := (tri_mnm hFew hOk T).2 hnc
 obtain ⟨S, ⟨s0, hs0⟩, hr, hS⟩ := h
 have hX : ∀ s, ∃ x, S s → (0 ≤ x ∧ x < c.ins ∧ S (c.nN s x) ∧ (s ≠ 0 ∨ x ≠ 0) ∧ c.wW s x = 0) := fun s => by
  by_cases hs : S s
  ·obtain ⟨x, hx⟩ := hS s hs; exact ⟨x, fun _ => hx⟩
  ·exact ⟨0, fun h => absurd h hs⟩
 let X : Int → Int := fun s => Classical.choose (hX s)
 have hXs : ∀ s, S s → (0 ≤ X s ∧ X s < c.ins ∧ S (c.nN s (X s)) ∧ (s ≠ 0 ∨ X s ≠ 0) ∧ c.wW s (X s) = 0) := fun s => Classical.choose_spec (hX s)
 let ps : Nat → Int := fun t => Nat.rec s0 (fun _ s => c.nN s (X s)) t
 have hps : ∀ t, S (ps t) := by
  intro t
  induction t with
  | zero => exact hs0
  | succ t ih => exact (hXs _ ih).2.2.1
 let w : Nat → List Int := fun t => c.inp (X (ps t))
 have P : PathI c w ps := ⟨fun t => inp_good hq _, fun t => rfl⟩
 have hm : ∀ i d : Int, 0 ≤ i → i < c.Gen.length → (c.mem.toNat : Int) < d → d ≤ c.deg i → c.dg (ps 0) i (d - 1) = 0 := fun i d i0 i1 h1 h2 => by
  have := deg_le_mem i0 i1; omega
 have hP : ∀ j : Nat, (j : Int) < c.n → Low (Lr.sm (fun i => c.serU hF w (ps 0) c.mem.toNat i * c.cG hF i j) c.Gen.length) c.mem.toNat := fun j hj τ hτ => by
  have := path_out (hF := hF) hOk P c.mem.toNat hm (τ - c.mem.toNat) (j := (j : Int)) (by omega) hj
  rw [show c.mem.toNat + (τ - c.mem.toNat) = τ by omega] at this
  rw [this]
  have hz := (hXs _ (hps (τ - c.mem.toNat))).2.2.2.2
  unfold wW at hz
  have hlen : ((c.outL (ps (τ - c.mem.toNat)) (w (τ - c.mem.toNat))).length : Int) = c.n := by unfold outL; rw [length_mapR]; omega
  have := (wt1_zero_iff _).1 hz _ (ix_mem 0 (c.outL (ps (τ - c.mem.toNat)) (w (τ - c.mem.toNat))) (i := (j : Int)) (by omega) (by omega))
  rw [this, ke_zero]
 have hV : ∀ a : Nat, (a : Int) < c.n → Pol (Lr.sm (fun i => c.serU hF w (ps 0) c.mem.toNat i * eP hF Y i a) c.Gen.length) := fun a ha => by
  have e : Lr.sm (fun i : Nat => c.serU hF w (ps 0) c.mem.toNat i * eP hF Y i a) c.Gen.length = Lr.sm (fun t : Nat => Lr.sm (fun i : Nat => c.serU hF w (ps 0) c.mem.toNat i * c.cG hF i t) c.Gen.length * pS hF (eL Y (c.k + t) a)) c.n.toNat := by
   rw [Lr.sm_congr (h := fun i : Nat => Lr.sm (fun t : Nat => c.serU hF w (ps 0) c.mem.toNat i * c.cG hF i t * pS hF (eL Y (c.k + t) a)) c.n.toNat) fun i hi => by
    unfold eP
    rw [T.tr.lin i a (by omega) (by omega) (by omega) ha, ← Lr.sm_mul]
    exact Lr.sm_congr fun t _ => (Ri.mul_assoc _ _ _).symm, Lr.sm_swap]
   exact Lr.sm_congr fun t _ => Lr.sm_mulR _ _ _
  rw [e]
  exact sm_pol fun t ht => Pol.mul ⟨_, hP t (by omega)⟩ (pS_pol hF _)
 have hU : ∀ m i : Nat, i < c.Gen.length → c.Gen.length - i ≤ m → Pol (c.serU hF w (ps 0) c.mem.toNat i) := by
  intro m
  induction m with
  | zero => intro i hi h; omega
  | succ m ih =>
   intro i hi h
   refine (hM i hi).pol (pol_part (F := fun l : Nat => c.serU hF w (ps 0) c.mem.toNat l * eP hF Y l i) hi (hV i (by omega)) fun l hl hne => ?_)
   by_cases e : l < i
   ·have : eP hF Y l i = 0 := by
     unfold eP; rw [T.zr l i (by omega) (by omega) (by omega) (by omega), pS_nil]
    rw [this, Ri.mul_zero]; exact Pol.zero
   ·exact (ih l hl (by omega)).mul (pS_pol hF _)
 obtain ⟨N, hN⟩ := low_all (F := fun i : Nat => c.serU hF w (ps 0) c.mem.toNat i) (n := c.Gen.length) fun i hi => hU _ i hi (Nat.le_refl _)
 have hz : ∀ t i : Nat, N ≤ t → i < c.Gen.length → ix 0 (w t) i = 0 := fun t i ht hi => by
  have := hN i hi (c.mem.toNat + t) (by omega)
  change (if c.mem.toNat ≤ c.mem.toNat + t then ke hF (ix 0 (w (c.mem.toNat + t - c.mem.toNat)) i) else _) = 0 at this
  rw [if_pos (by omega), show c.mem.toNat + t - c.mem.toNat = t by omega] at this
  have r := ix_ok hF.1 (P.good t).2 (i : Int)
  exact (ke_eq_zero hF r.1 r.2).1 this
 have hmn : 0 ≤ c.mem := maxD_nonneg c _
 have hs := path_rest hq P hz (t := N + c.mem.toNat) (by omega)
 have hg := hXs _ (hps (N + c.mem.toNat + 1))
 have hx0 : X (ps (N + c.mem.toNat + 1)) = 0 := by
  refine Classical.byContradiction fun hne => ?_
  refine inp_pos (c := c) hq (x := X (ps (N + c.mem.toNat + 1))) (by omega) hg.2.1 ((wt1_zero_iff _).2 (zero_row fun i hi => ?_))
  rw [length_inp] at hi
  exact hz (N + c.mem.toNat + 1) i (by omega) hi
 rcases hg.2.2.2.1 with e | e
 ·exact e hs
 ·exact e hx0
end Cnv
end
end Go.Cw
set_option linter.unusedVariables false
set_option linter.unusedSimpArgs false
set_option linter.unusedSectionVars false
namespace Go.Cw
section
open La Ps
namespace Cnv
variable {c : Cnv} {hF : FOk c.F}
theorem solve {Y : L3} (T : c.TgI hF Y c.k (c.k + 1)) (hkn : c.k ≤ c.n) {i : Nat} (hi : i < c.Gen.length) (hM : ∀ l : Nat, l < i → Mnm (eP hF Y l l)) (W : Ps (KF c.F hF)) : ∀ m : Nat, m ≤ i →
  ∃ (e : Nat) (U : Nat → Ps (KF c.F hF)), U i = xp e * W ∧ (∀ l, i < l → U l = 0) ∧ (∀ l, l + m < i → U l = 0) ∧ ∀ a : Nat, i ≤ a + m → a < i → Lr.sm (fun l => U l * eP hF Y l a) c.Gen.length = 0
 | 0, _ => ⟨0, fun l => if l = i then W else 0, by show (if i = i then W else 0) = _; rw [if_pos rfl, xp_zero, Ri.one_mul], fun l hl => if_neg (by omega), fun l hl => if_neg (by omega), fun a h1 h2 => by omega⟩
 | m + 1, hm => by
  have hik : c.k = (c.Gen.length : Int) := rfl
  obtain ⟨e, U, h1, h2, h3, h4⟩ := solve T hkn hi hM W m (by omega)
  obtain ⟨b, hb⟩ : ∃ b, b + m + 1 = i := ⟨i - m - 1, by omega⟩
  obtain ⟨y, d, hy, hd⟩ := hM b (by omega)
  have hUb : U b = 0 := h3 b (by omega)
  generalize hR : Lr.sm (fun l => U l * eP hF Y l b) c.Gen.length = R
  have hsum : ∀ a : Nat, Lr.sm (fun l => (if l = b then con (Fi.inv y) * -R else xp d * U l) * eP hF Y l a) c.Gen.length = xp d * Lr.sm (fun l => U l * eP hF Y l a) c.Gen.length + con (Fi.inv y) * -R * eP hF Y b a := fun a => by
   rw [sm_split (i := b) (by omega), sm_split (F := fun l => U l * eP hF Y l a) (i := b) (by omega)]
   rw [if_pos rfl, hUb, Ri.zero_mul, Ri.add_zero, ← Lr.sm_mul]
   congr 1
   refine Lr.sm_congr fun l _ => ?_
   by_cases g : l = b
   ·rw [if_pos g, if_pos g, Ri.mul_zero]
   ·rw [if_neg g, if_neg g, if_neg g, Ri.mul_assoc]
  refine ⟨d + e, fun l => if l = b then con (Fi.inv y) * -R else xp d * U l, ?_, fun l hl => ?_, fun l hl => ?_, fun a ha1 ha2 => ?_⟩
  ·show (if i = b then _ else xp d * U i) = _
   rw [if_neg (by omega), h1, ← Ri.mul_assoc, xp_xp hF]
  ·dsimp only; rw [if_neg (by omega), h2 l hl, Ri.mul_zero]
  ·dsimp only; rw [if_neg (by omega), h3 l (by omega), Ri.mul_zero]
  ·rw [hsum a]
   by_cases g : a = b
   ·rw [g, hR, hd]
    have e1 : con (Fi.inv y) * -R * (con y * xp d) = -(xp d * R) := by
     rw [Ri.mul_neg, Ri.neg_mul]
     congr 1
     rw [show con (Fi.inv y) * R * (con y * xp d) = con (Fi.inv y) * con y * (xp d * R) by ac_rfl, con_con, Fi.inv_mul _ hy, con_one, Ri.one_mul]
    rw [e1, Ri.add_neg]
   ·rw [h4 a (by omega) ha2, Ri.mul_zero, Ri.zero_add]
    have : eP hF Y b a = 0 := by
     unfold eP; rw [T.zr b a (by omega) (by omega) (by omega) (by omega), pS_nil]
    rw [this, Ri.mul_zero]
theorem cat_series (hFew : c.Few) (hOk : c.Ok) {Y : L3} (T : c.TgI hF Y c.k (c.k + 1)) (h : catP c.minL) :
  ∃ (U : Nat → Ps (KF c.F hF)) (i : Nat), i < c.Gen.length ∧ (∀ j : Nat, (j : Int) < c.n → Pol (Lr.sm (fun l : Nat => U l * c.cG hF l j) c.Gen.length)) ∧
   (¬ Pol (U i) ∨ (U i ≠ 0 ∧ ∀ j : Nat, (j : Int) < c.n → Lr.sm (fun l : Nat => U l * c.cG hF l j) c.Gen.length = 0)) := by
 have hkn := hOk.kn
 have hik : c.k = (c.Gen.length : Int) := rfl
 have hex : ∃ i : Nat, i < c.Gen.length ∧ ¬ Mnm (eP hF Y i i) := Classical.byContradiction fun hn => (tri_mnm hFew hOk T).1 (fun i hi => Classical.byContradiction fun g => hn ⟨i, hi, g⟩) h
 have hleast : ∀ m : Nat, (∃ i, i ≤ m ∧ i < c.Gen.length ∧ ¬ Mnm (eP hF Y i i)) → ∃ i : Nat, i < c.Gen.length ∧ ¬ Mnm (eP hF Y i i) ∧ ∀ l : Nat, l < i → Mnm (eP hF Y l l) := by
  intro m
  induction m with
  | zero => rintro ⟨i, h1, h2, h3⟩; exact ⟨i, h2, h3, fun l hl => by omega⟩
  | succ m ih =>
   rintro ⟨i, h1, h2, h3⟩
   by_cases g : ∃ i, i ≤ m ∧ i < c.Gen.length ∧ ¬ Mnm (eP hF Y i i)
   ·exact ih g
   ·exact ⟨i, h2, h3, fun l hl => Classical.byContradiction fun g2 => g ⟨l, by omega, by omega, g2⟩⟩
 obtain ⟨i0, hi0, hn0⟩ := hex
 obtain ⟨i, hi, hn, hM⟩ := hleast i0 ⟨i0, Nat.le_refl _, hi0, hn0⟩
 have hW : ∃ W : Ps (KF c.F hF), Pol (W * eP hF Y i i) ∧ (¬ Pol W ∨ (W ≠ 0 ∧ W * eP hF Y i i = 0)) := by
  by_cases hz : eP hF Y i i = 0
  ·exact ⟨1, by rw [hz, Ri.mul_zero]; exact Pol.zero, .inr ⟨Mnm.one.ne, by rw [hz, Ri.mul_zero]⟩⟩
  ·obtain ⟨a, ha, ha0⟩ := first_co hz
   have he : eP hF Y i i = xp a * ⟨fun n => (eP hF Y i i).co (n + a)⟩ := by
    apply Ps.ext; funext n
    rw [xp_mul]
    split
    ·show _ = (eP hF Y i i).co (n - a + a); congr 1; omega
    ·exact ha0 n (by omega)
   obtain ⟨W, hWW⟩ := inv_ex (a := (⟨fun n => (eP hF Y i i).co (n + a)⟩ : Ps (KF c.F hF))) (by show (eP hF Y i i).co (0 + a) ≠ 0; rw [Nat.zero_add]; exact ha)
   have hx : W * eP hF Y i i = xp a := by
    conv => lhs; rw [he]
    rw [Ri.mul_left_comm, hWW, Ri.mul_one]
   refine ⟨W, by rw [hx]; exact xp_pol a, .inl fun hp => hn ?_⟩
   exact (Mnm.factor (b := eP hF Y i i) hp (pS_pol hF _) ⟨1, a, Fi.one_ne, by rw [hx, con_one, Ri.one_mul]⟩).2
 obtain ⟨W, hW1, hW2⟩ := hW
 obtain ⟨e, U, h1, h2, _, h4⟩ := solve T hkn.2 hi hM W i (Nat.le_refl i)
 obtain ⟨Q, hQ, hE⟩ := T.tr.iv
 have hV : ∀ a : Nat, (a : Int) < c.n → Lr.sm (fun l => U l * eP hF Y l a) c.Gen.length = if a = i then xp e * (W * eP hF Y i i) else 0 := fun a ha => by
  by_cases g : a < i
  ·rw [h4 a (by omega) g, if_neg (by omega)]
  ·rw [Lr.sm_one (k := i) hi fun l hl hne => ?_]
   ·by_cases g2 : a = i
    ·rw [if_pos g2, h1, g2, Ri.mul_assoc]
    ·rw [if_neg g2]
     have : eP hF Y i a = 0 := by unfold eP; rw [T.zr i a (by omega) (by omega) (by omega) ha, pS_nil]
     rw [this, Ri.mul_zero]
   ·by_cases g3 : i < l
    ·rw [h2 l g3, Ri.zero_mul]
    ·have : eP hF Y l a = 0 := by unfold eP; rw [T.zr l a (by omega) (by omega) (by omega) ha, pS_nil]
     rw [this, Ri.mul_zero]
 have hP : ∀ j : Nat, (j : Int) < c.n → Lr.sm (fun l : Nat => U l * c.cG hF l j) c.Gen.length = xp e * (W * eP hF Y i i) * Q i j := fun j hj => by
  rw [Lr.sm_congr (h := fun l : Nat => Lr.sm (fun t : Nat => U l * eP hF Y l t * Q t j) c.n.toNat) fun l hl => by
   rw [hE l j (by omega) (by omega) (by omega) hj, ← Lr.sm_mul]
   exact Lr.sm_congr fun t _ => by rw [Int.toNat_natCast]; exact (Ri.mul_assoc _ _ _).symm, Lr.sm_swap]
  rw [Lr.sm_congr (h := fun t : Nat => (if t = i then xp e * (W * eP hF Y i i) else 0) * Q t j) fun t ht => by rw [Lr.sm_mulR, hV t (by omega)]]
  rw [Lr.sm_one (k := i) (by omega) fun t ht hne => by rw [if_neg hne, Ri.zero_mul], if_pos rfl]
 refine ⟨U, i, hi, fun j hj => by rw [hP j hj]; exact ((xp_pol e).mul hW1).mul (hQ i j), ?_⟩
 rcases hW2 with g | ⟨g1, g2⟩
 ·left
  intro hp
  rw [h1] at hp
  exact g (Mnm.pol (a := xp e) ⟨1, e, Fi.one_ne, by rw [con_one, Ri.one_mul]⟩ (by rwa [Ri.mul_comm] at hp))
 ·right
  refine ⟨?_, fun j hj => by rw [hP j hj, g2, Ri.mul_zero, Ri.zero_mul]⟩
  rw [h1]
  exact Ps.mul_ne (Mnm.ne ⟨1, e, Fi.one_ne, by rw [con_one, Ri.one_mul]⟩) g1
theorem cat_cir (hFew : c.Few) (hOk : c.Ok) {Y : L3} (T : c.TgI hF Y c.k (c.k + 1)) (h : catP c.minL) : c.cirP := by
 have hkn := hOk.kn
 have hik : c.k = (c.Gen.length : Int) := rfl
 have hbd := hF.1.bd
 have hq := hbd.2.2.2.2.2.1
 obtain ⟨U, i, hi, hPol, hU⟩ := cat_series hFew hOk T h
 have hcx : ∀ (l t : Nat), ∃ x : Int, (0 ≤ x ∧ x < c.F.q) ∧ ke hF x = (U l).co t := fun l t => by
  obtain ⟨x, h0, h1, h2⟩ := ke_ex hF ((U l).co t); exact ⟨x, ⟨h0, h1⟩, h2⟩
 let u : Nat → Nat → Int := fun l t => Classical.choose (hcx l t)
 have hu : ∀ l t, (0 ≤ u l t ∧ u l t < c.F.q) ∧ ke hF (u l t) = (U l).co t := fun l t => Classical.choose_spec (hcx l t)
 let w : Nat → List Int := fun t => mapR (fun l => u l.toNat t) c.k
 have hwg : ∀ t, c.GoodIn (w t) := fun t => ⟨by show ((mapR _ c.k).length : Int) = _; rw [length_mapR]; omega, outF_mapR fun l _ _ => (hu l.toNat t).1⟩
 have hwx : ∀ (t l : Nat), l < c.Gen.length → ix 0 (w t) l = u l t := fun t l hl => by
  show ix 0 (mapR (fun l => u l.toNat t) c.k) l = _
  rw [ix_mapR 0 _ (by omega) (by omega), Int.toNat_natCast]
 let s : Nat → Int := fun t => Nat.rec 0 (fun t s => c.nxt s (w t) c.Gen.length) t
 have P : PathI c w s := ⟨hwg, fun t => rfl⟩
 have hs0 : s 0 = 0 := rfl
 have hsr : ∀ t, 0 ≤ s t ∧ s t < c.states := fun t => by
  cases t with
  | zero => have := states_ge (c := c) hq; exact ⟨Int.le_refl 0, by show (0 : Int) < _; omega⟩
  | succ t => exact nxt_states hq (hwg t)
 have hser : ∀ l : Nat, l < c.Gen.length → c.serU hF w (s 0) 0 l = U l := fun l hl => by
  apply Ps.ext; funext τ
  rw [serU_zero, hwx _ l hl]
  exact (hu l τ).2
 have hout : ∀ (t j : Nat), (j : Int) < c.n → ke hF (ix 0 (c.outL (s t) (w t)) j) = (Lr.sm (fun l : Nat => U l * c.cG hF l j) c.Gen.length).co t := fun t j hj => by
  have := path_out (hF := hF) hOk P 0 (fun i d i0 i1 h1 h2 => by
   rw [hs0]; unfold dg; simp) t (j := (j : Int)) (by omega) hj
  rw [Nat.zero_add] at this
  rw [← this]
  congr 1
  exact Lr.sm_congr fun l hl => by rw [hser l hl]
 have hsh : Shape c.F := hF.1
 have hw0 : ∀ t : Nat, (∀ j : Nat, (j : Int) < c.n → (Lr.sm (fun l : Nat => U l * c.cG hF l j) c.Gen.length).co t = 0) → wt1 (c.outL (s t) (w t)) = 0 := fun t hz => by
  refine (wt1_zero_iff _).2 (zero_row fun j hj => ?_)
  have hlen : ((c.outL (s t) (w t)).length : Int) = c.n := by unfold outL; rw [length_mapR]; omega
  have h1 := hout t j (by omega)
  rw [hz j (by omega)] at h1
  have hx : ix 0 (c.outL (s t) (w t)) j = c.outTo (s t) (w t) j c.Gen.length := ix_mapR 0 _ (by omega) (by omega)
  have r := outTo_lt hsh (s t) (w t) j c.Gen.length
  rw [hx] at h1 ⊢
  exact (ke_eq_zero hF r.1 r.2).1 h1
 have hzs : ∀ (t1 t2 : Nat), s t1 = 0 → (∀ t, t1 ≤ t → t < t1 + t2 → w t = c.zrow) → s (t1 + t2) = 0 := by
  intro t1 t2 h1
  induction t2 with
  | zero => exact fun _ => h1
  | succ t2 ih =>
   intro h2
   have h3 := ih fun t a b => h2 t a (by omega)
   show c.nxt (s (t1 + t2)) (w (t1 + t2)) c.Gen.length = 0
   rw [h3, h2 (t1 + t2) (by omega) (by omega)]
   exact nxt_zero _ fun i d i0 i1 d0 d1 => line_zero hq i0 (by omega) d0 (by omega)
 have hxv : ∀ t, 0 ≤ valS c.F.q (w t) ∧ valS c.F.q (w t) < c.ins ∧ c.inp (valS c.F.q (w t)) = w t := fun t => by
  have := inp_val hq (hwg t); exact ⟨this.2.1, this.2.2, this.1⟩
 have hxn : ∀ t, c.nN (s t) (valS c.F.q (w t)) = s (t + 1) := fun t => by unfold nN; rw [(hxv t).2.2]
 have hx0 : ∀ t, w t ≠ c.zrow → valS c.F.q (w t) ≠ 0 := fun t hne e => hne (by rw [← (hxv t).2.2, e, inp_zero])
 have hwW : ∀ t, wt1 (c.outL (s t) (w t)) = 0 → c.wW (s t) (valS c.F.q (w t)) = 0 := fun t ht => by unfold wW; rw [(hxv t).2.2]; exact ht
 have circ : ∀ t1 M : Nat, s t1 = 0 → M ≤ t1 → (∀ t, M ≤ t → wt1 (c.outL (s t) (w t)) = 0) → (∃ t, t1 ≤ t ∧ w t ≠ c.zrow) → c.cirP := by
  intro t1 M h1 hM1 hz hw
  have hleast : ∀ m : Nat, (∃ t, t ≤ m ∧ w (t1 + t) ≠ c.zrow) → ∃ t, w (t1 + t) ≠ c.zrow ∧ ∀ r, r < t → w (t1 + r) = c.zrow := by
   intro m
   induction m with
   | zero => rintro ⟨t, a, b⟩; exact ⟨t, b, fun r hr => by omega⟩
   | succ m ih =>
    rintro ⟨t, a, b⟩
    by_cases g : ∃ t, t ≤ m ∧ w (t1 + t) ≠ c.zrow
    ·exact ih g
    ·exact ⟨t, b, fun r hr => Classical.byContradiction fun g2 => g ⟨r, by omega, g2⟩⟩
  obtain ⟨t, ht1, ht2⟩ := hw
  obtain ⟨z, hz1, hz2⟩ := hleast (t - t1) ⟨t - t1, Nat.le_refl _, by rw [show t1 + (t - t1) = t by omega]; exact ht2⟩
  have hst0 : s (t1 + z) = 0 := hzs t1 z h1 fun r a b => by
   have := hz2 (r - t1) (by omega)
   rwa [show t1 + (r - t1) = r by omega] at this
  refine ⟨fun v => ∃ t, t1 + z ≤ t ∧ v = s t ∧ ∀ r, t1 + z < r → r ≤ t → s r ≠ 0, ⟨s (t1 + z), t1 + z, Nat.le_refl _, rfl, fun r a b => by omega⟩, ?_, ?_⟩
  ·rintro v ⟨t, _, rfl, _⟩; exact hsr t
  ·rintro v ⟨t, a, rfl, b⟩
   refine ⟨valS c.F.q (w t), (hxv t).1, (hxv t).2.1, ?_, ?_, hwW t (hz t (by omega))⟩
   ·rw [hxn t]
    by_cases g : s (t + 1) = 0
    ·exact ⟨t1 + z, Nat.le_refl _, by rw [g, hst0], fun r a b => by omega⟩
    ·refine ⟨t + 1, by omega, rfl, fun r c1 c2 => ?_⟩
     by_cases g2 : r = t + 1
     ·rw [g2]; exact g
     ·exact b r c1 (by omega)
   ·by_cases g : t = t1 + z
    ·right; rw [g]; exact hx0 _ hz1
    ·left; exact b t (by omega) (Nat.le_refl t)
 have hne : ∀ t : Nat, (U i).co t ≠ 0 → w t ≠ c.zrow := fun t ht e => by
  refine ht ?_
  rw [← (hu i t).2, ← hwx t i hi, e]
  unfold zrow
  rw [ix_replicate0, ke_zero]
 rcases hU with hU | ⟨hU1, hU2⟩
 ·obtain ⟨M, hM⟩ := low_all (F := fun j : Nat => Lr.sm (fun l : Nat => U l * c.cG hF l j) c.Gen.length) (n := c.n.toNat) fun j hj => hPol j (by omega)
  have hz : ∀ t, M ≤ t → wt1 (c.outL (s t) (w t)) = 0 := fun t ht => hw0 t fun j hj => hM j (by omega) t ht
  by_cases g : ∃ t1, M ≤ t1 ∧ s t1 = 0
  ·obtain ⟨t1, g1, g2⟩ := g
   refine circ t1 M g2 g1 hz (Classical.byContradiction fun g3 => hU ⟨t1, fun t ht => Classical.byContradiction fun g4 => g3 ⟨t, ht, hne t g4⟩⟩)
  ·refine ⟨fun v => ∃ t, M ≤ t ∧ v = s t, ⟨s M, M, Nat.le_refl _, rfl⟩, ?_, ?_⟩
   ·rintro v ⟨t, _, rfl⟩; exact hsr t
   ·rintro v ⟨t, a, rfl⟩
    exact ⟨valS c.F.q (w t), (hxv t).1, (hxv t).2.1, by rw [hxn t]; exact ⟨t + 1, by omega, rfl⟩, .inl fun e => g ⟨t, a, e⟩, hwW t (hz t a)⟩
 ·obtain ⟨t, ht, _⟩ := first_co hU1
  exact circ 0 0 rfl (Nat.le_refl 0) (fun t _ => hw0 t fun j hj => by rw [hU2 j hj]; rfl) ⟨t, Nat.zero_le t, hne t ht⟩
theorem cat_iff (hFew : c.Few) (hOk : c.Ok) (hk3 : c.k ≤ 3) (hn6 : c.n ≤ 6) : catP c.minL ↔ c.cirP := by
 obtain ⟨Y, T⟩ := tri_ex (hF := hOk.fld) hFew hOk hk3 hn6
 exact ⟨cat_cir hFew hOk T, cir_cat hFew hOk T⟩
end Cnv
end
end Go.Cw
set_option linter.unusedVariables false
set_option linter.unusedSimpArgs false
set_option linter.unusedSectionVars false
namespace Go.Cw
namespace Cnv
variable {c : Cnv}
def gst (c : Cnv) (L : List Bool) (s x : Int) : Prop := ix false L (c.nN s x) = true ∧ (s ≠ 0 ∨ x ≠ 0) ∧ c.wW s x = 0
def Cls (c : Cnv) (S : Int → Prop) : Prop := (∀ s, S s → 0 ≤ s ∧ s < c.states) ∧ ∀ s, S s → ∃ x, 0 ≤ x ∧ x < c.ins ∧ S (c.nN s x) ∧ (s ≠ 0 ∨ x ≠ 0) ∧ c.wW s x = 0
structure CirI (c : Cnv) (L : List Bool) : Prop where
 len : (L.length : Int) = c.states
 sub : ∀ S, c.Cls S → ∀ s, S s → ix false L s = true
def FixTo (c : Cnv) (L : List Bool) (s : Int) : Prop := ∀ z, 0 ≤ z → z < s → ix false L z = true → ∃ x, 0 ≤ x ∧ x < c.ins ∧ c.gst L z x
def Hit (c : Cnv) (L : List Bool) (s x : Int) : Prop := ∃ z, 0 ≤ z ∧ z < x ∧ c.gst L s z
theorem CirI.start (h0 : 0 ≤ c.states) : c.CirI (mapR (fun _ => true) c.states) := ⟨by rw [length_mapR]; omega, fun S hS s hs => ix_mapR false _ (hS.1 s hs).1 (hS.1 s hs).2⟩
theorem Hit.zero (L : List Bool) (s : Int) : (false = true ↔ c.Hit L s 0) := ⟨fun h => (by cases h), fun ⟨z, h1, h2, _⟩ => by omega⟩
theorem Hit.keep {L : List Bool} {s x : Int} {ok : Bool} (h : ok = true ↔ c.Hit L s x) (hk : ok = true) : (true = true ↔ c.Hit L s (x + 1)) := ⟨fun _ => by
 obtain ⟨z, h1, h2, h3⟩ := h.1 hk
 exact ⟨z, h1, by omega, h3⟩, fun _ => rfl⟩
theorem Hit.same {L : List Bool} {s x : Int} {ok : Bool} (h : ok = true ↔ c.Hit L s x) (hk : ok = true) : (ok = true ↔ c.Hit L s (x + 1)) := by
 rw [hk]; exact Hit.keep h hk
theorem Hit.no {L : List Bool} {s x : Int} {ok : Bool} (h : ok = true ↔ c.Hit L s x) (hk : ¬ ok = true) (hn : ¬ c.gst L s x) : (false = true ↔ c.Hit L s (x + 1)) := ⟨fun g => (by cases g), fun ⟨z, h1, h2, h3⟩ => by
 exfalso
 by_cases e : z = x
 ·rw [e] at h3; exact hn h3
 ·exact hk (h.2 ⟨z, h1, by omega, h3⟩)⟩
theorem Hit.dec {L : List Bool} {s x : Int} {ok : Bool} {p : Prop} [Decidable p] (h : ok = true ↔ c.Hit L s x) (hk : ¬ ok = true) (x0 : 0 ≤ x) (hp : p ↔ c.gst L s x) : (decide p = true ↔ c.Hit L s (x + 1)) := by
 by_cases g : p
 ·rw [decide_eq_true g]
  exact ⟨fun _ => ⟨x, x0, by omega, hp.1 g⟩, fun _ => rfl⟩
 ·rw [decide_eq_false g]; exact Hit.no h hk fun g2 => g (hp.2 g2)
def cntB : List Bool → Nat
 | [] => 0
 | b :: l => (if b then 1 else 0) + cntB l
theorem cntB_set : ∀ (l : List Bool) (i : Nat), l.getD i false = true → cntB (l.set i false) < cntB l
 | [], _, h => by simp at h
 | b :: l, 0, h => by
  have : b = true := by simpa using h
  rw [this]; simp [cntB]
 | b :: l, i + 1, h => by
  have := cntB_set l i (by simpa using h)
  simp only [List.set_cons_succ, cntB]; omega
theorem CirI.drop {M : List Bool} {s x : Int} {ok : Bool} (h : c.CirI M) (s0 : 0 ≤ s) (s1 : s < c.states) (hx : c.ins ≤ x) (ho : ok = true ↔ c.Hit M s x) (hk : ¬ ok = true) : c.CirI (M.set s.toNat false) := by
 have hl := h.len
 refine ⟨by rw [List.length_set]; exact hl, fun S hS z hz => ?_⟩
 have h1 := h.sub S hS z hz
 have hr := hS.1 z hz
 by_cases e : z = s
 ·exfalso
  rw [e] at hz
  obtain ⟨y, y0, y1, y2, y3, y4⟩ := hS.2 s hz
  exact hk (ho.2 ⟨y, y0, by omega, h.sub S hS _ y2, y3, y4⟩)
 ·unfold ix at h1 ⊢
  simp only [List.getD, List.getElem?_set] at h1 ⊢
  rw [if_neg (by omega)]; exact h1
theorem FixTo.zero (L : List Bool) : c.FixTo L 0 := fun z z0 z1 => by omega
theorem FixTo.next {L : List Bool} {s x : Int} {ok : Bool} (h : c.FixTo L s) (hx : x = c.ins) (ho : ok = true ↔ c.Hit L s x) (hk : ok = true) : c.FixTo L (s + 1) := fun z z0 z1 z2 => by
 by_cases e : z = s
 ·obtain ⟨y, y0, y1, y2⟩ := ho.1 hk
  exact ⟨y, y0, by omega, by rw [e]; exact y2⟩
 ·exact h z z0 (by omega) z2
theorem FixTo.skip {L : List Bool} {s : Int} (h : c.FixTo L s) (hn : ¬ ix false L s = true) : c.FixTo L (s + 1) := fun z z0 z1 z2 => by
 by_cases e : z = s
 ·rw [e] at z2; exact absurd z2 hn
 ·exact h z z0 (by omega) z2
theorem cir_yes {L : List Bool} (h : c.CirI L) (hf : c.FixTo L c.states) {s : Int} (s0 : 0 ≤ s) (s1 : s < c.states) (hs : ix false L s = true) (hq : 2 ≤ c.F.q) : c.cirP :=
 ⟨fun z => 0 ≤ z ∧ z < c.states ∧ ix false L z = true, ⟨s, s0, s1, hs⟩, fun z hz => ⟨hz.1, hz.2.1⟩, fun z hz => by
  obtain ⟨x, x0, x1, x2, x3, x4⟩ := hf z hz.1 hz.2.1 hz.2.2
  have := nN_lt (c := c) hq z x
  exact ⟨x, x0, x1, ⟨this.1, this.2, x2⟩, x3, x4⟩⟩
theorem cir_no {L : List Bool} (h : c.CirI L) (hn : ∀ s : Int, 0 ≤ s → s < c.states → ¬ ix false L s = true) : ¬ c.cirP := fun ⟨S, ⟨s, hs⟩, h1, h2⟩ => by
 have hr := h1 s hs
 exact hn s hr.1 hr.2 (h.sub S ⟨h1, h2⟩ s hs)
open Classical in
noncomputable instance (c : Cnv) : Decidable c.cirP := Classical.propDecidable _
def powP (p : List Int) : Prop := (0 < p.length ∧ ix 0 p ((p.length : Int) - 1) = 1) ∧ wtL [p] = 1
instance (p : List Int) : Decidable (powP p) := by unfold powP; infer_instance
end Cnv
end Go.Cw
set_option linter.unusedVariables false
set_option linter.unusedSimpArgs false
set_option linter.unusedSectionVars false
namespace Go.Cw
section
open La Ps
namespace Cnv
variable {c : Cnv}
theorem wt1To_zero (l : List Int) : ∀ n : Nat, wt1To l n = 0 ↔ ∀ i : Nat, i < n → ix 0 l i = 0
 | 0 => ⟨fun _ i hi => by omega, fun _ => rfl⟩
 | n + 1 => by
  have ih := wt1To_zero l n
  have hb := wt1To_le l n
  rw [wt1To]
  constructor
  ·intro h i hi
   have h3 : wt1To l n = 0 ∧ ix 0 l (n : Int) = 0 := by split at h <;> rename_i g; exact ⟨by omega, g⟩; omega
   by_cases e : i = n
   ·rw [e]; exact h3.2
   ·exact ih.1 h3.1 i (by omega)
  ·intro h
   rw [ih.2 fun i hi => h i (by omega), if_pos (h n (by omega))]; rfl
theorem wtL_one (p : List Int) : wtL [p] = wt1 p := by
 show 0 + wt1 p = wt1 p
 omega
theorem pow_iff {p : List Int} (hl : p.length ≠ 0 → ix 0 p ((p.length : Int) - 1) = 1) : powP p ↔ ¬ catP p := by
 unfold powP catP
 rw [wtL_one]
 by_cases h0 : p.length = 0
 ·exact ⟨fun h => absurd h.1.1 (by omega), fun h => absurd (.inl h0) h⟩
 ·have h1 := hl h0
  obtain ⟨n, hn⟩ : ∃ n, p.length = n + 1 := ⟨p.length - 1, by omega⟩
  have hw : wt1 p = wt1To p n + 1 := by
   unfold wt1
   rw [hn, wt1To, if_neg]
   rw [show (n : Int) = (p.length : Int) - 1 by omega, h1]; decide
  rw [hw]
  have hz := wt1To_zero p n
  constructor
  ·rintro ⟨_, h⟩ (g | ⟨i, i0, i1, i2⟩)
   ·exact h0 g
   ·have := hz.1 (by omega) i.toNat (by omega)
    rw [show ((i.toNat : Nat) : Int) = i by omega] at this
    exact i2 this
  ·intro h
   refine ⟨⟨by omega, h1⟩, ?_⟩
   rw [hz.2 fun i hi => Classical.byContradiction fun g => h (.inr ⟨i, by omega, by omega, g⟩)]; rfl
theorem minL_last (hFew : c.Few) (hOk : c.Ok) (hl : c.minL.length ≠ 0) : ix 0 c.minL ((c.minL.length : Int) - 1) = 1 := by
 have hkn := hOk.kn
 have hF := hOk.fld
 have hM := mP_spec (hF := hF) hFew (first := 0) (cs := []) (by simp) (by omega)
 rw [minL_ok hOk (hF := hF)] at hl ⊢
 rcases hM.2.1 with e | ⟨n, h1, h2⟩
 ·rw [e, lS_zero] at hl; exact absurd rfl hl
 ·have ht : Top (c.mP hF 0 []) n := ⟨by rw [h1]; exact Fi.one_ne, h2⟩
  have hlen := lS_top hF ht
  have hc := lS_cn hF (c.mP hF 0 [])
  have r := ix_ok hF.1 hc.1 (((lS hF (c.mP hF 0 [])).length : Int) - 1)
  have hq := hF.1.bd
  refine ke_inj hF r.1 r.2 (by omega) (by omega) ?_
  have := congrArg (fun p => Ps.co p n) (pS_lS hF hM.1)
  simp only [co_pS] at this
  rw [show ((lS hF (c.mP hF 0 [])).length : Int) - 1 = (n : Int) by omega, this, h1, ke_one]
abbrev pairC (f : Fld) (a b : List Int) : Cnv := ⟨f, [[a, b]]⟩
theorem pair_few {f : Fld} {a b : List Int} (ha : a.length ≤ 2) (hb : b.length ≤ 2) : (pairC f a b).Few := by
 refine ⟨by show ((1 : Nat) : Int) ≤ 70; decide, fun row hr => ?_⟩
 have hr2 : row = [a, b] := by simpa [pairC] using hr
 subst hr2
 refine ⟨by show ((2 : Nat) : Int) ≤ 70; decide, fun p hp => ?_⟩
 simp only [List.mem_cons, List.not_mem_nil, or_false] at hp
 rcases hp with rfl | rfl <;> omega
theorem pair_ok {f : Fld} {a b : List Int} (hF : FOk f) (ha : a.length ≤ 2) (hb : b.length ≤ 2) (ea : ¬ outF f a) (eb : ¬ outF f b) : (pairC f a b).Ok := by
 have hbd := hF.1.bd
 have hn : (pairC f a b).n = 2 := rfl
 have hk : (pairC f a b).k = 1 := rfl
 refine ⟨hF, ?_, by rw [hn]; decide, ?_, ?_⟩
 ·rintro (h | h | h | ⟨row, hr, h⟩)
  ·rw [hk] at h; omega
  ·rw [hn] at h; omega
  ·rw [hn, hk] at h; omega
  ·have hr2 : row = [a, b] := by simpa [pairC] using hr
   subst hr2
   rw [hn] at h; exact h rfl
 ·rintro ⟨row, hr, p, hp, hx⟩
  have hr2 : row = [a, b] := by simpa [pairC] using hr
  subst hr2
  simp only [List.mem_cons, List.not_mem_nil, or_false] at hp
  rcases hp with rfl | rfl
  ·exact ea hx
  ·exact eb hx
 ·unfold big
  have hd : (pairC f a b).sumD 1 ≤ 1 := by
   have h1 := trimN_le a
   have h2 := trimN_le b
   show 0 + max (max 0 ((trimN a : Int) - 1)) ((trimN b : Int) - 1) ≤ 1
   omega
  have ht : (pairC f a b).total ≤ 2 := by
   unfold total
   rw [hk]
   show 1 + (pairC f a b).sumD 1 ≤ 2
   omega
  have h0 := (pairC f a b).sumD_nonneg 1
  have hm := pow_mono_of f.q hbd.2.2.2.2.2.1 (show (pairC f a b).total.toNat ≤ 2 by omega)
  have h2 : f.q ^ 2 ≤ 256 * 256 := by
   rw [show f.q ^ 2 = f.q * f.q by rw [show (2 : Nat) = 1 + 1 from rfl, Int.pow_succ, Int.pow_succ, Int.pow_zero, Int.one_mul]]
   exact Int.mul_le_mul (by omega) (by omega) (by omega) (by omega)
  show ¬ 65536 < f.q ^ (pairC f a b).total.toNat
  omega
theorem pair_det {f : Fld} {a b : List Int} (hF : FOk f) (t : Int) : (pairC f a b).detD hF 0 [t] = pS hF (ix [] [a, b] t) := by
 unfold detD
 show Lr.det 1 _ = _
 rw [Lr.det_succ, Lr.sm_one (k := 0) (by omega) fun i hi hne => by omega]
 show Lr.sg 0 * (_ * 1) = _
 unfold Lr.sg
 rw [if_neg (by omega), Ri.one_mul, Ri.mul_one]; rfl
theorem pair_min {f : Fld} {a b : List Int} (hF : FOk f) {d : Ps (KF f hF)} (h1 : Pol d) (h2 : Mon d) (h3 : ∀ e, Pol e → (Dv e d ↔ Dv e (pS hF a) ∧ Dv e (pS hF b))) : (pairC f a b).mP hF 0 [] = d := by
 refine mP_eq (c := pairC f a b) (hF := hF) ⟨h1, h2, fun e he => ?_⟩
 refine Iff.trans (h3 e he) ?_
 constructor
 ·rintro ⟨x, y⟩ t hi hl
  have hl2 : t.length = 1 := by
   have : ([] : List Int).length + t.length = 1 := hl
   simpa using this
  obtain ⟨v, rfl⟩ := List.length_eq_one_iff.1 hl2
  rw [List.nil_append, pair_det hF v]
  have hv : 0 ≤ v ∧ v < 2 := ⟨hi.1, hi.2.1⟩
  rcases (show v = 0 ∨ v = 1 by omega) with e1 | e1 <;> subst e1
  ·exact x
  ·exact y
 ·intro h
  have g0 := h [0] ⟨Int.le_refl 0, by show (0 : Int) < 2; decide, trivial⟩ rfl
  have g1 := h [1] ⟨by decide, by show (1 : Int) < 2; decide, trivial⟩ rfl
  rw [List.nil_append, pair_det hF] at g0 g1
  exact ⟨g0, g1⟩
theorem cn_oneone {f : Fld} (hS : Shape f) : CnL f [1, 1] := by
 have := hS.bd
 refine ⟨fun ⟨x, hx, hb⟩ => hb ?_, by decide⟩
 simp at hx; omega
theorem pairA_cat {f : Fld} (hF : FOk f) : ¬ catP (pairC f [1] [1, 1]).minL := by
 have hOk := pair_ok hF (a := [1]) (b := [1, 1]) (by simp) (by simp) (cn_one hF.1).1 (cn_oneone hF.1).1
 rw [minL_ok hOk (hF := hF), pair_min hF Pol.one (.inr ⟨0, by rw [co_one, if_pos rfl], Low.one⟩) fun e he => ?_]
 ·exact (cat_mnm hF Pol.one).2 Mnm.one
 ·rw [pS_one]
  exact ⟨fun h => ⟨h, by have := h.mul (pS_pol hF [1, 1]); rwa [Ri.mul_one] at this⟩, fun h => h.1⟩
theorem pairB_cat {f : Fld} (hF : FOk f) : catP (pairC f [1, 1] [1, 1]).minL := by
 have hc := cn_oneone hF.1
 have hOk := pair_ok hF (a := [1, 1]) (b := [1, 1]) (by simp) (by simp) hc.1 hc.1
 have hmon : Mon (pS hF [1, 1]) := .inr ⟨1, by rw [co_pS]; exact ke_one hF, pS_low hF [1, 1]⟩
 rw [minL_ok hOk (hF := hF), pair_min hF (pS_pol hF _) hmon fun e he => ⟨fun h => ⟨h, h⟩, fun h => h.1⟩, show lS hF (pS hF [1, 1]) = [1, 1] from lS_pS hF hc]
 exact .inr ⟨0, by decide, by decide, by decide⟩
end Cnv
end
end Go.Cw
