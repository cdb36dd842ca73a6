/-
  Plain facts.
-/
import Derived.Test.YtfjhbdfgbpcchaaPlainJ1
set_option linter.unnecessarySimpa false
set_option linter.unusedVariables false
set_option linter.unusedSimpArgs false
set_option linter.unusedSectionVars false
namespace Go.Cw
section
variable {f : Fld} (h : FOk f)
open La Ps
noncomputable def cmbP (p : List Int) (a : Int) (q : List Int) : List Int := lS h (pS h p + con (ke h a) * pS h q)
noncomputable def subP (p q : List Int) : List Int := lS h (pS h p + -(pS h q))
noncomputable def addP (p q : List Int) : List Int := lS h (pS h p + pS h q)
noncomputable def mulP (p q : List Int) : List Int := lS h (pS h p * pS h q)
noncomputable def sclP (a : Int) (p : List Int) : List Int := lS h (con (ke h a) * pS h p)
noncomputable def monP (p : List Int) : List Int := lS h (mon (pS h p))
noncomputable def quoP (p q : List Int) : List Int := lS h (dq (pS h p) (pS h q))
noncomputable def remP (p q : List Int) : List Int := lS h (dm (pS h p) (pS h q))
noncomputable def gcdP (p q : List Int) : List Int := lS h (gc (pS h p) (pS h q))
noncomputable def cnrP (p : List Int) : List Int := lS h (pS h p)
theorem cnrP_eq (p : List Int) : trimL (p.map (inF f)) = cnrP h p := lS_canon h p
theorem pS_cnr (p : List Int) : pS h (cnrP h p) = pS h p := pS_lS h (pS_pol h p)
theorem cnrP_cn (p : List Int) : CnL f (cnrP h p) := lS_cn h _
theorem cnrP_len (p : List Int) : (cnrP h p).length ≤ p.length := lS_len h (pS_low h p)
theorem cnrP_id {p : List Int} (hp : CnL f p) : cnrP h p = p := lS_pS h hp
theorem subP_pol (p q : List Int) : Pol (pS h p + -(pS h q)) := (pS_pol h p).add (pS_pol h q).neg
theorem pS_sub (p q : List Int) : pS h (subP h p q) = pS h p + -(pS h q) := pS_lS h (subP_pol h p q)
theorem pS_mul (p q : List Int) : pS h (mulP h p q) = pS h p * pS h q := pS_lS h ((pS_pol h p).mul (pS_pol h q))
theorem pS_scl (a : Int) (p : List Int) : pS h (sclP h a p) = con (ke h a) * pS h p := pS_lS h ((con_pol _).mul (pS_pol h p))
theorem cmbP_neg (p q : List Int) : cmbP h p (negF f 1) q = subP h p q := by
 unfold cmbP subP
 rw [ke_neg, ke_one]
 congr 2
 apply Ps.ext; funext n
 rw [con_mul, co_neg, Fi.neg_mul, Fi.one_mul]
theorem subP_len (p q : List Int) : (subP h p q).length ≤ max p.length q.length := lS_len h (((pS_low h p).mono (by omega)).add ((pS_low h q).mono (by omega)).neg)
theorem mulP_len (p q : List Int) : (mulP h p q).length ≤ p.length + q.length - 1 := lS_len h ((pS_low h p).mul (pS_low h q))
theorem sclP_len (a : Int) (p : List Int) : (sclP h a p).length ≤ p.length := by
 have := (con_low (ke h a)).mul (pS_low h p)
 exact lS_len h (this.mono (by omega))
theorem cmbP_one {p L : List Int} {i : Int} (i0 : 0 ≤ i) (i1 : i < L.length) (e : pS h L = tk h (pS h p) i.toNat) : pS h (L.set i.toNat (addF f (ix 0 p i) 0)) = tk h (pS h p) (i + 1).toNat := by
 have hz : ke h (ix 0 L i) = 0 := by
  have := congrArg (fun a => Ps.co a i.toNat) e
  simp only [co_pS] at this
  rw [show ((i.toNat : Nat) : Int) = i by omega] at this
  rw [this]
  show (if i.toNat < i.toNat then (pS h p).co i.toNat else 0) = 0
  rw [if_neg (by omega)]
 rw [pS_set h L i0 i1 _ (x := ke h (ix 0 p i)) (by rw [ke_add, ke_zero, Fi.add_zero, hz, Fi.zero_add]), e, show (i + 1).toNat = i.toNat + 1 by omega, tk_succ, co_pS, show ((i.toNat : Nat) : Int) = i by omega]
theorem cmbP_two {p q L : List Int} {a j : Int} (j0 : 0 ≤ j) (j1 : j < L.length) (e : pS h L = pS h p + con (ke h a) * tk h (pS h q) j.toNat) :
  pS h (L.set j.toNat (addF f (ix 0 L j) (mulF f a (ix 0 q j)))) = pS h p + con (ke h a) * tk h (pS h q) (j + 1).toNat := by
 rw [pS_set h L j0 j1 _ (x := ke h a * ke h (ix 0 q j)) (by rw [ke_add, ke_mul]), e, show (j + 1).toNat = j.toNat + 1 by omega, tk_succ, co_pS, show ((j.toNat : Nat) : Int) = j by omega, Ri.mul_add, Ri.add_assoc, ← Ri.mul_assoc, con_con]
theorem cmbP_mid {p q L : List Int} {a i : Int} (hi : p.length ≤ i) (e : pS h L = tk h (pS h p) i.toNat) : pS h L = pS h p + con (ke h a) * tk h (pS h q) (0 : Int).toNat := by
 rw [show (0 : Int).toNat = 0 from rfl, tk_zero, Ri.mul_zero, Ri.add_zero, e, tk_all h (pS_low' h p _ (by omega))]
theorem cmbP_end {p q L : List Int} {a j : Int} (hj : q.length ≤ j) (o : ¬ outF f L) (e : pS h L = pS h p + con (ke h a) * tk h (pS h q) j.toNat) : trimL L = cmbP h p a q := by
 rw [lS_trim h o, e, tk_all h (pS_low' h q _ (by omega))]; rfl
theorem mulP_end {p q L : List Int} {i : Int} (hp : CnL f p) (hq : CnL f q) (p0 : 0 < p.length) (q0 : 0 < q.length) (hi : p.length ≤ i) (o : ¬ outF f L) (hl : (L.length : Int) = p.length + q.length - 1) (e : pS h L = prT h p q i 0) : L = mulP h p q := by
 rw [prT_all h p q hi] at e
 exact lS_eq h (cn_mul h hp hq p0 q0 o e (by omega)) e
theorem mulP_nil {p q : List Int} (hz : (cnrP h p).length = 0 ∨ (cnrP h q).length = 0) : mulP h p q = [] := by
 unfold mulP
 rcases hz with hz | hz
 ·have := (lS_nil h (pS_pol h p)).1 (List.eq_nil_of_length_eq_zero hz)
  rw [this, Ri.zero_mul, lS_zero]
 ·have := (lS_nil h (pS_pol h q)).1 (List.eq_nil_of_length_eq_zero hz)
  rw [this, Ri.mul_zero, lS_zero]
theorem mulP_cnr (p q : List Int) : mulP h (cnrP h p) (cnrP h q) = mulP h p q := by unfold mulP; rw [pS_cnr, pS_cnr]
theorem mulP_one (p : List Int) : mulP h [1] p = cnrP h p := by unfold mulP cnrP; rw [pS_one, Ri.one_mul]
theorem mulP_canL (p q : List Int) : mulP h (cnrP h p) q = mulP h p q := by unfold mulP; rw [pS_cnr]
theorem scaleF_map (a : Int) (v : List Int) : scaleF f a v = v.map (mulF f a) := by
 refine ext_ix 0 (by rw [length_scaleF, List.length_map]) fun j h0 h1 => ?_
 rw [length_scaleF] at h1
 rw [ix_scaleF f a v h0 h1]
 have hj : j.toNat < v.length := by omega
 simp [ix, List.getD, hj]
theorem sclP_eq (a : Int) (p : List Int) : trimL (scaleF f a p) = sclP h a p := by
 rw [scaleF_map, lS_trim h (outF_map_mul h.1 a p), pS_map_mul]; rfl
theorem monP_eq {p : List Int} (hp : CnL f p) (p0 : 0 < p.length) : scaleF f (invF f (ix 0 p ((p.length : Int) - 1))) p = monP h p := by
 rw [scaleF_map]
 have ht := cn_top h hp p0
 have hi : inF f (ix 0 p ((p.length : Int) - 1)) ≠ 0 := by
  intro hz
  apply ht.1
  rw [co_pS, show (((p.length - 1 : Nat)) : Int) = (p.length : Int) - 1 by omega, ← ke_in, hz, ke_zero]
 have hs := invF_spec h hi
 have hk : ke h (invF f (ix 0 p ((p.length : Int) - 1))) = Fi.inv ((pS h p).co (p.length - 1)) := by
  rw [co_pS, show (((p.length - 1 : Nat)) : Int) = (p.length : Int) - 1 by omega]
  have e1 : ke h (ix 0 p ((p.length : Int) - 1)) * ke h (invF f (ix 0 p ((p.length : Int) - 1))) = 1 := by rw [← ke_mul, hs.1, ke_one]
  have hne : ke h (ix 0 p ((p.length : Int) - 1)) ≠ 0 := fun e => Fi.one_ne (by rw [← e1, e, Fi.zero_mul])
  exact Fi.mul_left_cancel hne (by rw [e1, Fi.mul_inv hne])
 refine lS_eq h ⟨outF_map_mul h.1 _ _, ?_⟩ (by rw [pS_map_mul, mon_top ht, hk])
 have h1 := lS_top h (n := p.length - 1) (a := pS h (p.map (mulF f (invF f (ix 0 p ((p.length : Int) - 1)))))) (by
  rw [pS_map_mul, hk]
  refine ⟨by rw [con_mul, Fi.inv_mul _ ht.1]; exact Fi.one_ne, ?_⟩
  have := (con_low (Fi.inv ((pS h p).co (p.length - 1)))).mul ht.2
  exact this.mono (by omega))
 rw [← lS_trim h (outF_map_mul h.1 _ _), length_trimL] at h1
 unfold trimL
 exact List.take_of_length_le (by rw [List.length_map]; omega)
theorem monP_nil {p : List Int} (hz : (cnrP h p).length = 0) : monP h p = [] := by
 have := (lS_nil h (pS_pol h p)).1 (List.eq_nil_of_length_eq_zero hz)
 unfold monP; rw [this, mon_zero, lS_zero]
theorem monP_cnr (p : List Int) : monP h (cnrP h p) = monP h p := by unfold monP; rw [pS_cnr]
structure DvI (P Q : List Int) (Qs R : List Int) (n : Int) : Prop where
 lR : R.length = P.length
 lQ : (Qs.length : Int) = max 0 ((P.length : Int) - Q.length + 1)
 oR : ¬ outF f R
 oQ : ¬ outF f Qs
 eq : pS h P = pS h Qs * pS h Q + pS h R
 low : Low (pS h R) (n + Q.length).toNat
 qz : ∀ k : Nat, (k : Int) ≤ n → ix 0 Qs k = 0
theorem DvI.start {P Q : List Int} (hP : CnL f P) {m : Nat} (hm : (m : Int) = max 0 ((P.length : Int) - Q.length + 1)) : DvI h P Q (List.replicate m 0) P ((P.length : Int) - Q.length) where
 lR := rfl
 lQ := by rw [List.length_replicate]; exact hm
 oR := hP.1
 oQ := outF_repl h.1 _
 eq := by rw [pS_repl, Ri.zero_mul, Ri.zero_add]
 low := pS_low' h P _ (by omega)
 qz := fun k _ => ix_replicate0 _ _
structure DvJ (P Q : List Int) (Qs R : List Int) (n a j : Int) (R' : List Int) : Prop where
 lR : R'.length = P.length
 oR : ¬ outF f R'
 eq : pS h R' = pS h R + -(con (ke h a) * xp n.toNat * tk h (pS h Q) j.toNat)
theorem DvJ.start {P Q Qs R : List Int} {n : Int} (D : DvI h P Q Qs R n) (a : Int) : DvJ h P Q Qs R n a 0 R where
 lR := D.lR
 oR := D.oR
 eq := by rw [show (0 : Int).toNat = 0 from rfl, tk_zero, Ri.mul_zero, Ri.neg_zero, Ri.add_zero]
theorem DvJ.next {P Q Qs R R' : List Int} {n a j : Int} (J : DvJ h P Q Qs R n a j R') (n0 : 0 ≤ n) (j0 : 0 ≤ j) (hn : n + j < P.length) :
  DvJ h P Q Qs R n a (j + 1) (R'.set (n + j).toNat (addF f (ix 0 R' (n + j)) (negF f (mulF f a (ix 0 Q j))))) where
 lR := by rw [List.length_set]; exact J.lR
 oR := outF_set J.oR (h.1.addF_lt _ _) _
 eq := by
  rw [pS_set h R' (by omega) (by rw [J.lR]; exact hn) _ (x := -(ke h a * ke h (ix 0 Q j))) (by rw [ke_add, ke_neg, ke_mul]), J.eq, Ri.add_assoc]
  congr 1
  rw [show (j + 1).toNat = j.toNat + 1 by omega, tk_succ, Ri.mul_add, Ri.neg_add_rev, co_pS, show ((j.toNat : Nat) : Int) = j by omega, show (n + j).toNat = n.toNat + j.toNat by omega, ← xp_xp h]
  congr 1
  have e : con (-(ke h a * ke h (ix 0 Q j))) = -(con (ke h a) * con (ke h (ix 0 Q j))) := by
   rw [con_con]; apply Ps.ext; funext i; rw [co_neg, co_con, co_con]; split
   ·rfl
   ·exact Fi.neg_zero.symm
  rw [e, Ri.neg_mul]
  congr 1
  ac_rfl
theorem DvI.next {P Q Qs R R' : List Int} {n a j : Int} (hQ : CnL f Q) (q0 : 0 < Q.length) (D : DvI h P Q Qs R n) (n0 : 0 ≤ n) (n1 : n < Qs.length) (hn : n + Q.length ≤ P.length) (ha : a = mulF f (ix 0 R (n + Q.length - 1)) (invF f (ix 0 Q ((Q.length : Int) - 1))))
  (hj : Q.length ≤ j) (J : DvJ h P Q Qs R n a j R') : DvI h P Q (Qs.set n.toNat a) R' (n - 1) := by
 have ht := cn_top h hQ q0
 have hE := J.eq
 rw [tk_all h (pS_low' h Q _ (by omega))] at hE
 refine ⟨J.lR, by rw [List.length_set]; exact D.lQ, J.oR, outF_set D.oQ (by rw [ha]; exact h.1.mulF_lt _ _) _, ?_, ?_, fun k hk => ?_⟩
 ·rw [pS_set h Qs n0 n1 a (x := ke h a) (by
   have := D.qz n.toNat (by omega)
   rw [show ((n.toNat : Nat) : Int) = n by omega] at this
   rw [this, ke_zero, Fi.zero_add]), hE, D.eq, Ri.add_mul, Ri.add_assoc, Ri.add_comm (con _ * xp _ * pS h Q), Ri.add_assoc (pS h R), Ri.neg_add, Ri.add_zero]
 ·rw [hE]
  have e1 : (n - 1 + Q.length).toNat + 1 = (n + Q.length).toNat := by omega
  refine Low.cut ?_ ?_
  ·rw [e1]
   refine D.low.add (Low.neg ?_)
   have := low_xp (pS_low h Q) (ke h a) n.toNat
   exact this.mono (by omega)
  ·have e2 : (n - 1 + Q.length).toNat = n.toNat + (Q.length - 1) := by omega
   rw [co_add, co_neg, e2, co_xp_top, co_pS, co_pS, ha, ke_mul, show ((n.toNat + (Q.length - 1) : Nat) : Int) = n + Q.length - 1 by omega, show ((Q.length - 1 : Nat) : Int) = (Q.length : Int) - 1 by omega]
   have hi : inF f (ix 0 Q ((Q.length : Int) - 1)) ≠ 0 := by
    intro hz
    apply ht.1
    rw [co_pS, show (((Q.length - 1 : Nat)) : Int) = (Q.length : Int) - 1 by omega, ← ke_in, hz, ke_zero]
   have hs := invF_spec h hi
   rw [Fi.mul_assoc, Fi.mul_comm (ke h (invF f _)), ← ke_mul, hs.1, ke_one, Fi.mul_one, Fi.add_neg]
 ·have := D.qz k (by omega)
  rw [ixn_set Qs n0 n1, if_neg (by omega)]
  exact this
theorem DvI.done {P Q Qs R : List Int} {n : Int} (hQ : CnL f Q) (q0 : 0 < Q.length) (D : DvI h P Q Qs R n) (n0 : n < 0) : trimL Qs = quoP h P Q ∧ trimL R = remP h P Q := by
 have ht := cn_top h hQ q0
 have := dq_eq ht (pS_pol h Qs) (D.low.mono (show (n + Q.length).toNat ≤ Q.length - 1 by omega)) D.eq
 unfold quoP remP
 rw [← this.1, ← this.2]
 exact ⟨lS_trim h D.oQ, lS_trim h D.oR⟩
theorem quoP_cnr (p q : List Int) : quoP h (cnrP h p) (cnrP h q) = quoP h p q := by unfold quoP; rw [pS_cnr, pS_cnr]
theorem remP_cnr (p q : List Int) : remP h (cnrP h p) (cnrP h q) = remP h p q := by unfold remP; rw [pS_cnr, pS_cnr]
noncomputable def prd2 (p q : List Int) (i : Int) : List Int := if i = 0 then [1] else if i = 1 then cnrP h p else mulP h p q
theorem prd2_succ (p q : List Int) {i : Int} (i0 : 0 ≤ i) (i1 : i < 2) : mulP h (prd2 h p q i) (ix [] [p, q] i) = prd2 h p q (i + 1) := by
 rcases (show i = 0 ∨ i = 1 by omega) with e | e
 ·subst e
  unfold prd2
  rw [if_pos rfl, if_neg (by omega), if_pos (by omega)]
  exact mulP_one h p
 ·subst e
  unfold prd2
  rw [if_neg (by omega), if_pos rfl, if_neg (by omega), if_neg (by omega)]
  exact mulP_canL h p q
theorem prd2_two (p q : List Int) : prd2 h p q 2 = mulP h p q := by unfold prd2; rw [if_neg (by omega), if_neg (by omega)]
theorem prd2_len {p q : List Int} (hp : p.length ≤ 400000) {i : Int} (i0 : 0 ≤ i) (i1 : i < 2) : (prd2 h p q i).length ≤ 400001 := by
 have := cnrP_len h p
 unfold prd2
 split
 ·simp
 ·rw [if_pos (by omega)]; omega
end
end Go.Cw
set_option linter.unusedVariables false
set_option linter.unusedSimpArgs false
set_option linter.unusedSectionVars false
namespace Go.Cw
section
variable {f : Fld} (h : FOk f)
open La Ps
theorem inF_zero (hS : Shape f) : inF f 0 = 0 := by have := hS.bd; exact inF_id (by omega) (by omega)
theorem at_out (hS : Shape f) {p : List Int} {i : Int} (hi : p.length ≤ i) : inF f (ix 0 p i) = 0 := by
 have := ix_out p (n := i.toNat) (by omega)
 rw [show ((i.toNat : Nat) : Int) = i by omega] at this
 rw [this, inF_zero hS]
theorem pS_co (p : List Int) {i : Int} (i0 : 0 ≤ i) : (pS h p).co i.toNat = ke h (ix 0 p i) := by rw [co_pS, show ((i.toNat : Nat) : Int) = i by omega]
theorem tk_set (a : Ps (KF f h)) {L : List Int} {i : Int} (i0 : 0 ≤ i) (i1 : i < L.length) (e : pS h L = tk h a i.toNat) {v : Int} (hv : ke h v = a.co i.toNat) : pS h (L.set i.toNat v) = tk h a (i + 1).toNat := by
 have hz : ke h (ix 0 L i) = 0 := by
  rw [← pS_co h L i0, e]
  show (if i.toNat < i.toNat then a.co i.toNat else 0) = 0
  rw [if_neg (by omega)]
 rw [pS_set h L i0 i1 _ (x := a.co i.toNat) (by rw [hv, hz, Fi.zero_add]), e, show (i + 1).toNat = i.toNat + 1 by omega, tk_succ]
theorem addP_step {p q L : List Int} {i : Int} (i0 : 0 ≤ i) (i1 : i < L.length) (e : pS h L = tk h (pS h p + pS h q) i.toNat) : pS h (L.set i.toNat (addF f (inF f (ix 0 p i)) (inF f (ix 0 q i)))) = tk h (pS h p + pS h q) (i + 1).toNat :=
 tk_set h _ i0 i1 e (by rw [ke_add, ke_in, ke_in, co_add, pS_co h p i0, pS_co h q i0])
theorem addP_end {p q L : List Int} {i : Int} (hi : max (p.length : Int) q.length ≤ i) (e : pS h L = tk h (pS h p + pS h q) i.toNat) : cnrP h L = addP h p q := by
 unfold cnrP addP
 rw [e, tk_all h (((pS_low h p).mono (by omega)).add ((pS_low h q).mono (by omega)))]
theorem sclP_step {a : Int} {p L : List Int} {i : Int} (i0 : 0 ≤ i) (i1 : i < L.length) (e : pS h L = tk h (con (ke h a) * pS h p) i.toNat) : pS h (L.set i.toNat (mulF f a (ix 0 p i))) = tk h (con (ke h a) * pS h p) (i + 1).toNat :=
 tk_set h _ i0 i1 e (by rw [ke_mul, con_mul, pS_co h p i0])
theorem sclP_end {a : Int} {p L : List Int} {i : Int} (hi : (p.length : Int) ≤ i) (e : pS h L = tk h (con (ke h a) * pS h p) i.toNat) : cnrP h L = sclP h a p := by
 unfold cnrP sclP
 have := (con_low (ke h a)).mul (pS_low h p)
 rw [e, tk_all h (this.mono (by omega))]
theorem subP_add (p q : List Int) : addP h p (sclP h (negF f 1) q) = subP h p q := by
 unfold addP
 rw [pS_scl]
 exact cmbP_neg h p q
theorem mulP_endR {p q L : List Int} {i : Int} (hi : (cnrP h p).length ≤ i) (e : pS h L = prT h (cnrP h p) (cnrP h q) i 0) : cnrP h L = mulP h p q := by
 rw [prT_all h _ _ hi] at e
 unfold cnrP mulP
 rw [e, pS_cnr, pS_cnr]
def pwrL (n : Int) : List Int := (List.replicate (n + 1).toNat 0).set n.toNat 1
theorem length_pwrL {n : Int} (n0 : 0 ≤ n) : ((pwrL n).length : Int) = n + 1 := by unfold pwrL; rw [List.length_set, List.length_replicate]; omega
theorem pS_pwr {n : Int} (n0 : 0 ≤ n) : pS h (pwrL n) = xp n.toNat := by
 unfold pwrL
 rw [pS_set h _ n0 (by rw [List.length_replicate]; omega) 1 (x := 1) (by
  have := ix_replicate0 (n + 1).toNat n
  rw [this, ke_zero, ke_one, Fi.zero_add]), pS_repl, Ri.zero_add, con_one, Ri.one_mul]
structure RvI (P Q : List Int) (Qs R : List Int) : Prop where
 cR : CnL f R
 lR : R.length ≤ P.length
 lQ : (Qs.length : Int) = max ((P.length : Int) - (Q.length - 1)) 0
 oQ : ¬ outF f Qs
 eq : pS h P = pS h Qs * pS h Q + pS h R
 qz : ∀ k : Nat, (k : Int) < (R.length : Int) - (Q.length - 1) → ix 0 Qs k = 0
theorem RvI.start {P Q : List Int} (hP : CnL f P) {m : Nat} (hm : (m : Int) = max ((P.length : Int) - (Q.length - 1)) 0) : RvI h P Q (List.replicate m 0) P where
 cR := hP
 lR := Nat.le_refl _
 lQ := by rw [List.length_replicate]; exact hm
 oQ := outF_repl h.1 _
 eq := by rw [pS_repl, Ri.zero_mul, Ri.zero_add]
 qz := fun k _ => ix_replicate0 _ _
theorem RvI.next {P Q Qs R : List Int} {n a : Int} (hQ : CnL f Q) (q0 : 0 < Q.length) (D : RvI h P Q Qs R) (hn : n = (R.length : Int) - 1 - (Q.length - 1)) (n0 : 0 ≤ n) (ha : a = mulF f (ix 0 R ((R.length : Int) - 1)) (invF f (ix 0 Q ((Q.length : Int) - 1)))) :
  RvI h P Q (Qs.set n.toNat a) (subP h R (mulP h (sclP h a Q) (pwrL n))) ∧ (subP h R (mulP h (sclP h a Q) (pwrL n))).length < R.length := by
 have ht := cn_top h hQ q0
 have hR := cn_top h D.cR (by omega)
 have hlQ := D.lQ
 have hlR := D.lR
 have hE : pS h (subP h R (mulP h (sclP h a Q) (pwrL n))) = pS h R + -(con (ke h a) * xp n.toNat * pS h Q) := by
  rw [pS_sub, pS_mul, pS_scl, pS_pwr h n0]
  congr 2
  ac_rfl
 have hi : inF f (ix 0 Q ((Q.length : Int) - 1)) ≠ 0 := by
  intro hz
  apply ht.1
  rw [co_pS, show (((Q.length - 1 : Nat)) : Int) = (Q.length : Int) - 1 by omega, ← ke_in, hz, ke_zero]
 have hs := invF_spec h hi
 have hlow : Low (pS h R + -(con (ke h a) * xp n.toNat * pS h Q)) (R.length - 1) := by
  refine Low.cut ?_ ?_
  ·rw [show R.length - 1 + 1 = R.length by omega]
   refine (pS_low h R).add (Low.neg ?_)
   have := low_xp (pS_low h Q) (ke h a) n.toNat
   exact this.mono (by omega)
  ·have e2 : R.length - 1 = n.toNat + (Q.length - 1) := by omega
   rw [co_add, co_neg, e2, co_xp_top, co_pS, co_pS, ha, ke_mul, show ((n.toNat + (Q.length - 1) : Nat) : Int) = (R.length : Int) - 1 by omega, show ((Q.length - 1 : Nat) : Int) = (Q.length : Int) - 1 by omega]
   rw [Fi.mul_assoc, Fi.mul_comm (ke h (invF f _)), ← ke_mul, hs.1, ke_one, Fi.mul_one, Fi.add_neg]
 have hlen : (subP h R (mulP h (sclP h a Q) (pwrL n))).length ≤ R.length - 1 := by
  rw [← hE] at hlow
  have e := lS_len h hlow
  rwa [lS_pS h (show CnL f (subP h R (mulP h (sclP h a Q) (pwrL n))) from lS_cn h _)] at e
 refine ⟨⟨lS_cn h _, by omega, by rw [List.length_set]; exact hlQ, outF_set D.oQ (by rw [ha]; exact h.1.mulF_lt _ _) _, ?_, fun k hk => ?_⟩, by omega⟩
 ·rw [pS_set h Qs n0 (by omega) a (x := ke h a) (by
   have := D.qz n.toNat (by omega)
   rw [show ((n.toNat : Nat) : Int) = n by omega] at this
   rw [this, ke_zero, Fi.zero_add]), hE, D.eq, Ri.add_mul, Ri.add_assoc, Ri.add_comm (con _ * xp _ * pS h Q), Ri.add_assoc (pS h R), Ri.neg_add, Ri.add_zero]
 ·have := D.qz k (by omega)
  rw [ixn_set Qs n0 (by omega), if_neg (by omega)]
  exact this
theorem RvI.done {P Q Qs R : List Int} (hQ : CnL f Q) (q0 : 0 < Q.length) (D : RvI h P Q Qs R) (hn : (R.length : Int) ≤ (Q.length : Int) - 1) : cnrP h Qs = quoP h P Q ∧ R = remP h P Q := by
 have ht := cn_top h hQ q0
 have := dq_eq ht (pS_pol h Qs) (pS_low' h R (Q.length - 1) (by omega)) D.eq
 unfold quoP remP cnrP
 rw [← this.1, ← this.2]
 exact ⟨rfl, (lS_pS h D.cR).symm⟩
theorem monP_scl {p : List Int} (hp : CnL f p) (p0 : 0 < p.length) : sclP h (invF f (ix 0 p ((p.length : Int) - 1))) p = monP h p := by
 rw [← sclP_eq, monP_eq h hp p0]
 exact (lS_cn h _).2
structure EuI (p q : List Int) (P Q : List Int) : Prop where
 cP : CnL f P
 cQ : CnL f Q
 lP : P.length ≤ max p.length q.length
 lQ : Q.length ≤ max p.length q.length
 dv : ∀ e, Pol e → ((Dv e (pS h P) ∧ Dv e (pS h Q)) ↔ (Dv e (pS h p) ∧ Dv e (pS h q)))
theorem EuI.start (p q : List Int) : EuI h p q (cnrP h p) (cnrP h q) where
 cP := cnrP_cn h p
 cQ := cnrP_cn h q
 lP := by have := cnrP_len h p; omega
 lQ := by have := cnrP_len h q; omega
 dv := fun e _ => by rw [pS_cnr, pS_cnr]
theorem remP_len {P Q : List Int} (hQ : CnL f Q) (q0 : 0 < Q.length) : (remP h P Q).length < Q.length := by
 have := lS_len h (dq_spec (pS_pol h P) (cn_top h hQ q0)).2.1
 unfold remP; omega
theorem EuI.next {p q P Q : List Int} (E : EuI h p q P Q) (q0 : 0 < Q.length) : EuI h p q Q (remP h P Q) where
 cP := E.cQ
 cQ := lS_cn h _
 lP := E.lQ
 lQ := by have := remP_len h (P := P) E.cQ q0; have := E.lQ; omega
 dv := fun e he => by
  have ht := cn_top h E.cQ q0
  rw [show pS h (remP h P Q) = dm (pS h P) (pS h Q) from pS_lS h (dm_pol (pS_pol h P) (pS_pol h Q) ht.ne), ← dv_step (pS_pol h P) ht]
  exact E.dv e he
theorem EuI.done {p q P Q : List Int} (E : EuI h p q P Q) (q0 : Q.length = 0) : monP h P = gcdP h p q := by
 unfold monP gcdP
 rw [gc_end (pS_pol h P) fun e he => ?_]
 rw [← E.dv e he, List.eq_nil_of_length_eq_zero q0, pS_nil]
end
end Go.Cw
set_option linter.unusedVariables false
set_option linter.unusedSimpArgs false
set_option linter.unusedSectionVars false
namespace Go.Cw
section
open La Ps
theorem lr_low {K : Type} [Fi K] {g : Nat → Ps K} {N : Nat} : ∀ {n : Nat}, (∀ i, i < n → Low (g i) N) → Low (Lr.sm g n) N
 | 0, _ => Low.zero N
 | n + 1, h => (lr_low fun i hi => h i (by omega)).add (h n (by omega))
theorem sg_low {K : Type} [Fi K] (c : Nat) : Low (Lr.sg c : Ps K) 1 := by
 unfold Lr.sg
 split
 ·exact Low.one.neg
 ·exact Low.one
theorem det_low {K : Type} [Fi K] {B : Nat} : ∀ {n : Nat} {A : Nat → Nat → Ps K}, (∀ i j, i < n → j < n → Low (A i j) B) → Low (Lr.det n A) (B * n + 1)
 | 0, _, _ => Low.one.mono (by omega)
 | n + 1, A, h => by
  rw [Lr.det_succ]
  refine lr_low fun c hc => ?_
  have h1 := det_low (n := n) (A := fun i j => A (i + 1) (Lr.sk c j)) fun i j hi hj => h (i + 1) (Lr.sk c j) (by omega) (by unfold Lr.sk; split <;> omega)
  have h2 := (sg_low (K := K) c).mul ((h 0 c (by omega) hc).mul h1)
  exact h2.mono (by rw [Nat.mul_add]; omega)
theorem dv_low {K : Type} [Fi K] {d a : Ps K} {N : Nat} (hd : Pol d) (h : Dv d a) (ha : a ≠ 0) (hl : Low a N) : Low d N := by
 obtain ⟨q, hq, e⟩ := h
 have hd0 : d ≠ 0 := fun e2 => ha (by rw [e, e2, Ri.mul_zero])
 have hq0 : q ≠ 0 := fun e2 => ha (by rw [e, e2, Ri.zero_mul])
 obtain ⟨n, hn⟩ := hd.top hd0
 obtain ⟨m, hm⟩ := hq.top hq0
 have ht := hm.mul hn
 rw [← e] at ht
 refine hn.2.mono (Classical.byContradiction fun hc => ht.1 (hl _ (by omega)))
namespace Cnv
variable (c : Cnv) (hF : FOk c.F)
noncomputable def cG (i j : Int) : Ps (KF c.F hF) := pS hF (ix [] (ix [] c.Gen i) j)
noncomputable def detD (row : Int) (cs : List Int) : Ps (KF c.F hF) := Lr.det (c.Gen.length - row.toNat) fun a b => c.cG hF (row + a) (ix 0 cs b)
def restC (cs : List Int) (i : Int) : List Int := List.take i.toNat cs ++ List.drop (i + 1).toNat cs
theorem length_restC {cs : List Int} {i : Int} (i0 : 0 ≤ i) (i1 : i < cs.length) : (restC cs i).length + 1 = cs.length := by
 unfold restC; rw [List.length_append, List.length_take, List.length_drop]; omega
theorem ix_restC {cs : List Int} {i : Nat} (i1 : i < cs.length) (b : Nat) : ix 0 (restC cs i) b = ix 0 cs (Lr.sk i b : Nat) := by
 unfold restC ix Lr.sk
 simp only [List.getD, Int.toNat_natCast]
 rw [show ((i : Int) + 1).toNat = i + 1 by omega]
 have hl : (List.take i cs).length = i := by rw [List.length_take]; omega
 by_cases hb : b < i
 ·rw [if_pos hb, List.getElem?_append_left (by omega), List.getElem?_take, if_pos hb]
 ·rw [if_neg hb, List.getElem?_append_right (by omega), hl, List.getElem?_drop, show i + 1 + (b - i) = b + 1 by omega]
theorem mem_restC {cs : List Int} {i x : Int} (h : x ∈ restC cs i) : x ∈ cs := by
 unfold restC at h
 rcases List.mem_append.1 h with h | h
 ·exact List.mem_of_mem_take h
 ·exact List.mem_of_mem_drop h
noncomputable def detS (row : Int) (cs : List Int) (i : Int) : Ps (KF c.F hF) := Lr.sm (fun t => Lr.sg t * (c.cG hF row (ix 0 cs t) * c.detD hF (row + 1) (restC cs t))) i.toNat
theorem detS_zero (row : Int) (cs : List Int) : c.detS hF row cs 0 = 0 := rfl
theorem detD_last {row : Int} (hr : row = c.Gen.length) (cs : List Int) : c.detD hF row cs = 1 := by
 unfold detD
 rw [show c.Gen.length - row.toNat = 0 by omega]; rfl
theorem detD_all {row : Int} {cs : List Int} (r0 : 0 ≤ row) (r1 : row < c.Gen.length) (hl : row + cs.length = c.Gen.length) {i : Int} (hi : i = cs.length) : c.detS hF row cs i = c.detD hF row cs := by
 obtain ⟨m, hm⟩ : ∃ m, c.Gen.length - row.toNat = m + 1 := ⟨c.Gen.length - row.toNat - 1, by omega⟩
 unfold detS
 conv => rhs; unfold detD
 rw [hm, Lr.det_succ, show i.toNat = m + 1 by omega]
 refine Lr.sm_congr fun t ht => ?_
 congr 2
 ·show c.cG hF row (ix 0 cs t) = c.cG hF (row + ((0 : Nat) : Int)) (ix 0 cs t)
  rw [show row + ((0 : Nat) : Int) = row by omega]
 ·unfold detD
  rw [show c.Gen.length - (row + 1).toNat = m by omega]
  refine Lr.det_congr fun a b ha hb => ?_
  rw [ix_restC (by omega), show row + 1 + (a : Int) = row + ((a + 1 : Nat) : Int) by omega]
theorem detS_succ {row : Int} {cs : List Int} {i : Int} (i0 : 0 ≤ i) : c.detS hF row cs (i + 1) = c.detS hF row cs i + Lr.sg i.toNat * (c.cG hF row (ix 0 cs i) * c.detD hF (row + 1) (restC cs i)) := by
 unfold detS
 rw [show (i + 1).toNat = i.toNat + 1 by omega]
 show Lr.sm _ i.toNat + Lr.sg i.toNat * (c.cG hF row (ix 0 cs ((i.toNat : Nat) : Int)) * c.detD hF (row + 1) (restC cs ((i.toNat : Nat) : Int))) = _
 rw [show ((i.toNat : Nat) : Int) = i by omega]
theorem Few.pol (hFew : c.Few) (i j : Int) : Low (c.cG hF i j) 40 := by
 unfold cG
 refine pS_low' hF _ _ ?_
 by_cases hi : i.toNat < c.Gen.length
 ·by_cases hj : j.toNat < (ix [] c.Gen i).length
  ·have hm : ix [] c.Gen i ∈ c.Gen := by
    unfold ix; simp only [List.getD]; rw [List.getElem?_eq_getElem hi]; exact List.getElem_mem hi
   have := (hFew.2 _ hm).2 (ix [] (ix [] c.Gen i) j) (by
    generalize ix [] c.Gen i = l at hj
    unfold ix; simp only [List.getD]; rw [List.getElem?_eq_getElem hj]; exact List.getElem_mem hj)
   omega
  ·have : ix [] (ix [] c.Gen i) j = [] := by
    generalize ix [] c.Gen i = l at hj
    unfold ix; simp only [List.getD]; rw [List.getElem?_eq_none (by omega)]; rfl
   rw [this]; simp
 ·have : ix [] c.Gen i = [] := by unfold ix; simp only [List.getD]; rw [List.getElem?_eq_none (by omega)]; rfl
  rw [this]
  have : ix [] ([] : List (List Int)) j = [] := by unfold ix; simp
  rw [this]; simp
theorem detD_low (hFew : c.Few) (row : Int) (cs : List Int) : Low (c.detD hF row cs) (40 * (c.Gen.length - row.toNat) + 1) := by
 unfold detD
 exact det_low fun i j _ _ => Few.pol c hF hFew _ _
theorem detD_low' (hFew : c.Few) (row : Int) (cs : List Int) : Low (c.detD hF row cs) 2801 := by
 refine (c.detD_low hF hFew row cs).mono ?_
 have := hFew.1
 unfold k at this
 omega
theorem detS_low (hFew : c.Few) (row : Int) (cs : List Int) (i : Int) : Low (c.detS hF row cs i) 2840 := by
 unfold detS
 refine lr_low fun t _ => ?_
 have h2 := (sg_low (K := KF c.F hF) t).mul ((Few.pol c hF hFew row (ix 0 cs t)).mul (c.detD_low' hF hFew (row + 1) (restC cs t)))
 exact h2.mono (by omega)
theorem detS_pol (hFew : c.Few) (row : Int) (cs : List Int) (i : Int) : Pol (c.detS hF row cs i) := ⟨_, c.detS_low hF hFew row cs i⟩
theorem detD_pol (hFew : c.Few) (row : Int) (cs : List Int) : Pol (c.detD hF row cs) := ⟨_, c.detD_low hF hFew row cs⟩
theorem det_even (hFew : c.Few) {row : Int} {cs : List Int} {i : Int} (i0 : 0 ≤ i) (he : i % 2 = 0) :
  addP hF (lS hF (c.detS hF row cs i)) (mulP hF (ix [] (ix [] c.Gen row) (ix 0 cs i)) (lS hF (c.detD hF (row + 1) (restC cs i)))) = lS hF (c.detS hF row cs (i + 1)) := by
 unfold addP
 rw [pS_mul, pS_lS hF (c.detS_pol hF hFew row cs i), pS_lS hF (c.detD_pol hF hFew _ _), c.detS_succ hF i0]
 congr 2
 unfold Lr.sg
 rw [if_neg (by omega), Ri.one_mul]; rfl
theorem det_odd (hFew : c.Few) {row : Int} {cs : List Int} {i : Int} (i0 : 0 ≤ i) (he : ¬ i % 2 = 0) :
  subP hF (lS hF (c.detS hF row cs i)) (mulP hF (ix [] (ix [] c.Gen row) (ix 0 cs i)) (lS hF (c.detD hF (row + 1) (restC cs i)))) = lS hF (c.detS hF row cs (i + 1)) := by
 unfold subP
 rw [pS_mul, pS_lS hF (c.detS_pol hF hFew row cs i), pS_lS hF (c.detD_pol hF hFew _ _), c.detS_succ hF i0]
 congr 2
 unfold Lr.sg
 rw [if_pos (by omega), Ri.neg_mul, Ri.one_mul]; rfl
def Inc : Int → List Int → Int → Prop
 | _, [], _ => True
 | a, b :: t, n => a ≤ b ∧ b < n ∧ Inc (b + 1) t n
def IsM (d : Ps (KF c.F hF)) (first : Int) (cs : List Int) : Prop :=
 Pol d ∧ Mon d ∧ ∀ e, Pol e → (Dv e d ↔ ∀ t, Inc first t c.n → cs.length + t.length = c.Gen.length → Dv e (c.detD hF 0 (cs ++ t)))
def IsT (d : Ps (KF c.F hF)) (first : Int) (cs : List Int) (j : Int) : Prop :=
 Pol d ∧ Mon d ∧ ∀ e, Pol e → (Dv e d ↔ ∀ a t, first ≤ a → a < j → Inc (a + 1) t c.n → cs.length + 1 + t.length = c.Gen.length → Dv e (c.detD hF 0 (cs ++ a :: t)))
variable {c hF}
theorem IsM.uniq {d d' : Ps (KF c.F hF)} {first : Int} {cs : List Int} (h : c.IsM hF d first cs) (h' : c.IsM hF d' first cs) : d = d' :=
 h.2.1.uniq h'.2.1 ((h'.2.2 d h.1).2 ((h.2.2 d h.1).1 (Dv.refl d))) ((h.2.2 d' h'.1).2 ((h'.2.2 d' h'.1).1 (Dv.refl d')))
theorem IsT.uniq {d d' : Ps (KF c.F hF)} {first : Int} {cs : List Int} {j : Int} (h : c.IsT hF d first cs j) (h' : c.IsT hF d' first cs j) : d = d' :=
 h.2.1.uniq h'.2.1 ((h'.2.2 d h.1).2 ((h.2.2 d h.1).1 (Dv.refl d))) ((h.2.2 d' h'.1).2 ((h'.2.2 d' h'.1).1 (Dv.refl d')))
theorem IsM.full {first : Int} {cs : List Int} (hFew : c.Few) (hl : cs.length = c.Gen.length) : c.IsM hF (mon (c.detD hF 0 cs)) first cs := by
 have hp := c.detD_pol hF hFew 0 cs
 refine ⟨mon_pol hp, mon_mon hp, fun e _ => ?_⟩
 rw [dv_mon hp]
 constructor
 ·intro h t _ ht
  have : t = [] := List.eq_nil_of_length_eq_zero (by omega)
  rw [this, List.append_nil]; exact h
 ·intro h
  have := h [] trivial (by simpa using hl)
  rwa [List.append_nil] at this
theorem IsT.start (first : Int) (cs : List Int) : c.IsT hF 0 first cs first :=
 ⟨Pol.zero, .inl rfl, fun e _ => ⟨fun _ a t h1 h2 => by omega, fun _ => Dv.zero e⟩⟩
theorem IsT.next {d g : Ps (KF c.F hF)} {first j : Int} {cs : List Int} (h : c.IsT hF d first cs j) (hj : first ≤ j) (hg : c.IsM hF g (j + 1) (cs ++ [j])) : c.IsT hF (gc d g) first cs (j + 1) := by
 obtain ⟨h1, h2, h3⟩ := gc_spec h.1 hg.1
 refine ⟨h1, h2, fun e he => ?_⟩
 rw [h3 e he, h.2.2 e he, hg.2.2 e he]
 constructor
 ·rintro ⟨x, y⟩ a t ha1 ha2 hi hl
  by_cases e2 : a = j
  ·subst e2
   have := y t hi (by rw [List.length_append]; simpa using hl)
   rwa [List.append_assoc] at this
  ·exact x a t ha1 (by omega) hi hl
 ·intro x
  refine ⟨fun a t ha1 ha2 => x a t ha1 (by omega), fun t hi hl => ?_⟩
  rw [List.append_assoc]
  exact x j t hj (by omega) hi (by rw [List.length_append] at hl; simpa using hl)
theorem IsT.done {d : Ps (KF c.F hF)} {first j : Int} {cs : List Int} (h : c.IsT hF d first cs j) (hj : j = c.n) (hl : cs.length < c.Gen.length) : c.IsM hF d first cs := by
 refine ⟨h.1, h.2.1, fun e he => ?_⟩
 rw [h.2.2 e he]
 constructor
 ·intro x t hi ht
  cases t with
  | nil => simp at ht; omega
  | cons a t => exact x a t hi.1 (by rw [hj]; exact hi.2.1) hi.2.2 (by simp at ht; omega)
 ·intro x a t h1 h2 h3 h4
  exact x (a :: t) ⟨h1, by omega, h3⟩ (by simp; omega)
theorem IsM.ex (hFew : c.Few) : ∀ (m : Nat) {first : Int} {cs : List Int}, cs.length + m = c.Gen.length → first ≤ c.n → ∃ d, c.IsM hF d first cs
 | 0, first, cs, hl, _ => ⟨_, IsM.full hFew (by omega)⟩
 | m + 1, first, cs, hl, hf => by
  have key : ∀ z : Nat, first + z ≤ c.n → ∃ d, c.IsT hF d first cs (first + z) := by
   intro z
   induction z with
   | zero => intro _; exact ⟨0, by have := IsT.start (c := c) (hF := hF) first cs; simpa using this⟩
   | succ z ih =>
    intro hz
    obtain ⟨d, hd⟩ := ih (by omega)
    obtain ⟨g, hg⟩ := IsM.ex hFew m (first := first + z + 1) (cs := cs ++ [first + z]) (by rw [List.length_append]; simp; omega) (by omega)
    have := hd.next (by omega) hg
    refine ⟨gc d g, ?_⟩
    rw [show first + ((z + 1 : Nat) : Int) = first + z + 1 by omega]
    exact this
  obtain ⟨d, hd⟩ := key (c.n - first).toNat (by omega)
  exact ⟨d, hd.done (by omega) (by omega)⟩
variable (c hF)
open Classical in
noncomputable def mP (first : Int) (cs : List Int) : Ps (KF c.F hF) := if g : ∃ d, c.IsM hF d first cs then Classical.choose g else 0
open Classical in
noncomputable def mT (first : Int) (cs : List Int) (j : Int) : Ps (KF c.F hF) := if g : ∃ d, c.IsT hF d first cs j then Classical.choose g else 0
variable {c hF}
theorem mP_eq {d : Ps (KF c.F hF)} {first : Int} {cs : List Int} (h : c.IsM hF d first cs) : c.mP hF first cs = d := by
 have hg : ∃ d, c.IsM hF d first cs := ⟨d, h⟩
 unfold mP
 rw [dif_pos hg]
 exact (Classical.choose_spec hg).uniq h
theorem mT_eq {d : Ps (KF c.F hF)} {first j : Int} {cs : List Int} (h : c.IsT hF d first cs j) : c.mT hF first cs j = d := by
 have hg : ∃ d, c.IsT hF d first cs j := ⟨d, h⟩
 unfold mT
 rw [dif_pos hg]
 exact (Classical.choose_spec hg).uniq h
theorem mP_spec (hFew : c.Few) {first : Int} {cs : List Int} (hl : cs.length ≤ c.Gen.length) (hf : first ≤ c.n) : c.IsM hF (c.mP hF first cs) first cs := by
 obtain ⟨d, hd⟩ := IsM.ex (c := c) (hF := hF) hFew (c.Gen.length - cs.length) (first := first) (cs := cs) (by omega) hf
 rw [mP_eq hd]; exact hd
theorem mT_zero (first : Int) (cs : List Int) : c.mT hF first cs first = 0 := mT_eq (IsT.start first cs)
theorem mT_spec (hFew : c.Few) {first j : Int} {cs : List Int} (hl : cs.length < c.Gen.length) (hj : first ≤ j) (hn : j ≤ c.n) : c.IsT hF (c.mT hF first cs j) first cs j := by
 have key : ∀ z : Nat, first + z ≤ c.n → c.IsT hF (c.mT hF first cs (first + z)) first cs (first + z) := by
  intro z
  induction z with
  | zero =>
   intro _
   have := IsT.start (c := c) (hF := hF) first cs
   rw [show first + ((0 : Nat) : Int) = first by omega, mT_eq this]
   exact this
  | succ z ih =>
   intro hz
   have := (ih (by omega)).next (by omega) (mP_spec hFew (first := first + z + 1) (cs := cs ++ [first + z]) (by rw [List.length_append]; simp; omega) (by omega))
   rw [show first + ((z + 1 : Nat) : Int) = first + z + 1 by omega, mT_eq this]
   exact this
 have := key (j - first).toNat (by omega)
 rwa [show first + ((j - first).toNat : Int) = j by omega] at this
theorem mT_step (hFew : c.Few) {first j : Int} {cs : List Int} (hl : cs.length < c.Gen.length) (hj : first ≤ j) (hn : j < c.n) :
  gcdP hF (lS hF (c.mT hF first cs j)) (lS hF (c.mP hF (j + 1) (cs ++ [j]))) = lS hF (c.mT hF first cs (j + 1)) := by
 have h1 := mT_spec (hF := hF) hFew hl hj (Int.le_of_lt hn)
 have h2 := mP_spec (hF := hF) hFew (first := j + 1) (cs := cs ++ [j]) (by rw [List.length_append]; simp; omega) (by omega)
 unfold gcdP
 rw [pS_lS hF h1.1, pS_lS hF h2.1, mT_eq (h1.next hj h2)]
theorem mT_done (hFew : c.Few) {first j : Int} {cs : List Int} (hl : cs.length < c.Gen.length) (hj : first ≤ j) (hn : j = c.n) : c.mT hF first cs j = c.mP hF first cs := by
 have h1 := mT_spec (hF := hF) hFew hl hj (Int.le_of_eq hn)
 rw [mP_eq (h1.done hn hl)]
theorem mP_full (hFew : c.Few) {first : Int} {cs : List Int} (hl : cs.length = c.Gen.length) : monP hF (lS hF (c.detD hF 0 cs)) = lS hF (c.mP hF first cs) := by
 unfold monP
 rw [pS_lS hF (c.detD_pol hF hFew 0 cs), mP_eq (IsM.full hFew hl)]
theorem mP_len (hFew : c.Few) {first : Int} {cs : List Int} (hl : cs.length ≤ c.Gen.length) (hf : first ≤ c.n) : (lS hF (c.mP hF first cs)).length ≤ 2801 := by
 have h := mP_spec (hF := hF) hFew hl hf
 by_cases hz : c.mP hF first cs = 0
 ·rw [hz, lS_zero]; simp
 ·have hn : ¬ ∀ t, Inc first t c.n → cs.length + t.length = c.Gen.length → Dv 0 (c.detD hF 0 (cs ++ t)) := fun h2 => hz ((h.2.2 0 Pol.zero).2 h2).of_zero
  have : ∃ t, Inc first t c.n ∧ cs.length + t.length = c.Gen.length ∧ c.detD hF 0 (cs ++ t) ≠ 0 := Classical.byContradiction fun hc => hn fun t h1 h2 => Classical.byContradiction fun h3 => hc ⟨t, h1, h2, fun e => h3 (by rw [e]; exact Dv.zero 0)⟩
  obtain ⟨t, h1, h2, h3⟩ := this
  exact lS_len hF (dv_low h.1 ((h.2.2 _ h.1).1 (Dv.refl _) t h1 h2) h3 (c.detD_low' hF hFew 0 _))
theorem mT_len (hFew : c.Few) {first j : Int} {cs : List Int} (hl : cs.length < c.Gen.length) (hj : first ≤ j) (hn : j ≤ c.n) : (lS hF (c.mT hF first cs j)).length ≤ 2801 := by
 have h := mT_spec (hF := hF) hFew hl hj hn
 by_cases hz : c.mT hF first cs j = 0
 ·rw [hz, lS_zero]; simp
 ·have hn : ¬ ∀ a t, first ≤ a → a < j → Inc (a + 1) t c.n → cs.length + 1 + t.length = c.Gen.length → Dv 0 (c.detD hF 0 (cs ++ a :: t)) := fun h2 => hz ((h.2.2 0 Pol.zero).2 h2).of_zero
  have : ∃ a t, first ≤ a ∧ a < j ∧ Inc (a + 1) t c.n ∧ cs.length + 1 + t.length = c.Gen.length ∧ c.detD hF 0 (cs ++ a :: t) ≠ 0 := Classical.byContradiction fun hc => hn fun a t h1 h2 h3 h4 => Classical.byContradiction fun h5 => hc ⟨a, t, h1, h2, h3, h4, fun e => h5 (by rw [e]; exact Dv.zero 0)⟩
  obtain ⟨a, t, h1, h2, h3, h4, h5⟩ := this
  exact lS_len hF (dv_low h.1 ((h.2.2 _ h.1).1 (Dv.refl _) a t h1 h2 h3 h4) h5 (c.detD_low' hF hFew 0 _))
end Cnv
end
end Go.Cw
set_option linter.unusedVariables false
set_option linter.unusedSimpArgs false
set_option linter.unusedSectionVars false
namespace Go.Cw
section
open La Ps
variable {K : Type} [Fi K]
def dL (k : Nat) (V : Int → Nat → Ps K) (cs : List Int) : Ps K := Lr.det k fun a b => V (ix 0 cs b) a
def AllD (e : Ps K) (k : Nat) (n : Int) (V : Int → Nat → Ps K) : Prop := ∀ cs : List Int, cs.length = k → (∀ x ∈ cs, 0 ≤ x ∧ x < n) → Dv e (dL k V cs)
theorem ix_mid (p q : List Int) (x y : Int) (b : Nat) : ix 0 (p ++ x :: y :: q) b = if b < p.length then ix 0 p b else if b = p.length then x else if b = p.length + 1 then y else ix 0 q (b - p.length - 2 : Nat) := by
 unfold ix
 simp only [List.getD, Int.toNat_natCast]
 by_cases h1 : b < p.length
 ·rw [if_pos h1, List.getElem?_append_left h1]
 ·rw [if_neg h1, List.getElem?_append_right (by omega)]
  obtain ⟨m, hm⟩ : ∃ m, b - p.length = m := ⟨_, rfl⟩
  rw [hm]
  match m, hm with
  | 0, hm => rw [if_pos (by omega)]; rfl
  | 1, hm => rw [if_neg (by omega), if_pos (by omega)]; rfl
  | m + 2, hm => rw [if_neg (by omega), if_neg (by omega)]; rfl
theorem dL_dup {k : Nat} (V : Int → Nat → Ps K) (p q : List Int) (x : Int) (hl : (p ++ x :: x :: q).length = k) : dL k V (p ++ x :: x :: q) = 0 := by
 simp only [List.length_append, List.length_cons] at hl
 refine Lr.det_same (q := p.length) (k := p.length + 1) (by omega) (by omega) (by omega) fun i => ?_
 rw [ix_mid, ix_mid, if_neg (by omega), if_pos rfl, if_neg (by omega), if_neg (by omega), if_pos rfl]
theorem dL_swap {k : Nat} (V : Int → Nat → Ps K) (p q : List Int) (x y : Int) (hl : (p ++ x :: y :: q).length = k) : dL k V (p ++ y :: x :: q) = -(dL k V (p ++ x :: y :: q)) := by
 simp only [List.length_append, List.length_cons] at hl
 unfold dL
 rw [← Lr.det_swap (fun a b => V (ix 0 (p ++ x :: y :: q) b) a) (q := p.length) (k := p.length + 1) (by omega) (by omega) (by omega)]
 refine Lr.det_congr fun a b _ _ => ?_
 unfold Lr.two
 dsimp only
 by_cases h1 : b = p.length
 ·rw [if_pos h1, ix_mid, ix_mid, if_neg (by omega), if_pos h1, if_neg (by omega), if_neg (by omega), if_pos rfl]
 ·rw [if_neg h1]
  by_cases h2 : b = p.length + 1
  ·rw [if_pos h2, ix_mid, ix_mid, if_neg (by omega), if_neg h1, if_pos h2, if_neg (by omega), if_pos rfl]
  ·rw [if_neg h2, ix_mid, ix_mid]
   by_cases h3 : b < p.length
   ·rw [if_pos h3, if_pos h3]
   ·rw [if_neg h3, if_neg h1, if_neg h2, if_neg h3, if_neg h1, if_neg h2]
theorem dL_perm {e : Ps K} {k : Nat} (V : Int → Nat → Ps K) {l l' : List Int} (h : l.Perm l') : ∀ p : List Int, (p ++ l).length = k → (Dv e (dL k V (p ++ l)) ↔ Dv e (dL k V (p ++ l'))) := by
 induction h with
 | nil => exact fun p _ => Iff.rfl
 | cons x _ ih =>
  intro p hl
  have := ih (p ++ [x]) (by simpa using hl)
  simpa using this
 | swap x y l =>
  intro p hl
  rw [dL_swap V p l y x hl]
  exact ⟨Dv.neg, Dv.of_neg⟩
 | trans h1 h2 ih1 ih2 =>
  intro p hl
  rw [ih1 p hl]
  exact ih2 p (by rw [List.length_append, ← h1.length_eq, ← List.length_append]; exact hl)
theorem inc_or : ∀ (l : List Int) {lo n : Int}, l.Pairwise (· ≤ ·) → (∀ x ∈ l, lo ≤ x ∧ x < n) → Cnv.Inc lo l n ∨ ∃ p x q, l = p ++ x :: x :: q
 | [], _, _, _, _ => .inl trivial
 | [a], lo, n, _, h => .inl ⟨(h a (by simp)).1, (h a (by simp)).2, trivial⟩
 | a :: b :: l, lo, n, hp, h => by
  have ha := h a (by simp)
  rw [List.pairwise_cons] at hp
  by_cases e : a = b
  ·exact .inr ⟨[], a, l, by rw [← e]; rfl⟩
  ·have hab := hp.1 b (by simp)
   have hp2 := hp.2
   rcases inc_or (b :: l) (lo := a + 1) (n := n) hp2 (fun x hx => ⟨by
    rcases List.mem_cons.1 hx with hx | hx
    ·omega
    ·have := (List.pairwise_cons.1 hp2).1 x hx; omega, (h x (List.mem_cons_of_mem _ hx)).2⟩) with h1 | ⟨p, x, q, h1⟩
   ·exact .inl ⟨ha.1, ha.2, h1⟩
   ·exact .inr ⟨a :: p, x, q, by rw [h1]; rfl⟩
theorem inc_mem : ∀ (l : List Int) {lo n : Int}, Cnv.Inc lo l n → ∀ x ∈ l, lo ≤ x ∧ x < n
 | a :: l, lo, n, h, x, hx => by
  rcases List.mem_cons.1 hx with e | hx
  ·rw [e]; exact ⟨h.1, h.2.1⟩
  ·have := inc_mem l h.2.2 x hx
   have := h.1
   omega
theorem all_inc {e : Ps K} {k : Nat} {n : Int} {V : Int → Nat → Ps K} : AllD e k n V ↔ ∀ t, Cnv.Inc 0 t n → t.length = k → Dv e (dL k V t) := by
 constructor
 ·exact fun h t hi hl => h t hl fun x hx => inc_mem t hi x hx
 ·intro h cs hl hx
  have hp : (cs.mergeSort (fun a b => decide (a ≤ b))).Perm cs := List.mergeSort_perm _ _
  have hs : (cs.mergeSort (fun a b => decide (a ≤ b))).Pairwise (fun a b => decide (a ≤ b) = true) := List.pairwise_mergeSort (fun a b c h1 h2 => by simp at *; omega) (fun a b => by simp; omega) cs
  generalize cs.mergeSort (fun a b => decide (a ≤ b)) = l at hp hs
  have hs2 : l.Pairwise (· ≤ ·) := hs.imp fun h => by simpa using h
  have hll : l.length = k := by rw [hp.length_eq, hl]
  have := (dL_perm (e := e) V hp [] (by simpa using hll)).1
  simp only [List.nil_append] at this
  refine this ?_
  rcases inc_or l hs2 (lo := 0) (n := n) (fun x h1 => hx x (hp.mem_iff.1 h1)) with h1 | ⟨p, x, q, h1⟩
  ·exact h l h1 hll
  ·rw [h1] at hll ⊢
   rw [dL_dup V p q x hll]; exact Dv.zero e
theorem all_cols {e : Ps K} {k : Nat} {n : Int} {V W : Int → Nat → Ps K} (hV : AllD e k n V) (hW : ∀ j, 0 ≤ j → j < n → ∃ u v x, 0 ≤ u ∧ u < n ∧ 0 ≤ v ∧ v < n ∧ Pol x ∧ ∀ a, W j a = V u a + x * V v a) : AllD e k n W := by
 have key : ∀ (m : Nat) (C : Nat → Nat → Ps K), m ≤ k → (∀ b, b < m → ∃ u v x, 0 ≤ u ∧ u < n ∧ 0 ≤ v ∧ v < n ∧ Pol x ∧ ∀ a, C a b = V u a + x * V v a) → (∀ b, m ≤ b → b < k → ∃ u, 0 ≤ u ∧ u < n ∧ ∀ a, C a b = V u a) → Dv e (Lr.det k C) := by
  intro m
  induction m with
  | zero =>
   intro C _ _ h
   have hx : ∀ b : Int, ∃ u : Int, 0 ≤ b → b < (k : Int) → (0 ≤ u ∧ u < n ∧ ∀ a, C a b.toNat = V u a) := fun b => by
    by_cases hb : 0 ≤ b ∧ b < k
    ·obtain ⟨u, h1⟩ := h b.toNat (by omega) (by omega)
     exact ⟨u, fun _ _ => h1⟩
    ·exact ⟨0, fun h1 h2 => absurd ⟨h1, h2⟩ hb⟩
   let g : Int → Int := fun b => Classical.choose (hx b)
   have hg : ∀ b : Int, 0 ≤ b → b < (k : Int) → (0 ≤ g b ∧ g b < n ∧ ∀ a, C a b.toNat = V (g b) a) := fun b => Classical.choose_spec (hx b)
   have := hV (mapR g k) (by rw [length_mapR]; omega) (fun x hx => by
    unfold mapR at hx
    obtain ⟨b, hb, rfl⟩ := List.mem_map.1 hx
    rw [List.mem_range] at hb
    have := hg b (by omega) (by omega)
    exact ⟨this.1, this.2.1⟩)
   have he : dL k V (mapR g k) = Lr.det k C := Lr.det_congr fun a b _ hb => by
    rw [ix_mapR 0 g (by omega) (by omega)]
    have := (hg b (by omega) (by omega)).2.2 a
    rw [Int.toNat_natCast] at this
    exact this.symm
   rwa [he] at this
  | succ m ih =>
   intro C hm h1 h2
   obtain ⟨u, v, x, u0, u1, v0, v1, hx, hC⟩ := h1 m (by omega)
   have hd := Lr.det_lin (n := k) (A := fun a b => if b = m then V u a else C a b) (B := fun a b => if b = m then V v a else C a b) (C := C) m x (by omega)
    (fun i j hj => by rw [if_neg hj]) (fun i j hj => by rw [if_neg hj, if_neg hj]) (fun i => by rw [if_pos rfl, if_pos rfl]; exact hC i)
   have side : ∀ w, 0 ≤ w → w < n → Dv e (Lr.det k fun a b => if b = m then V w a else C a b) := fun w w0 w1 => by
    refine ih _ (by omega) (fun b hb => ?_) (fun b hb hbk => ?_)
    ·obtain ⟨u, v, x, g1, g2, g3, g4, g5, g6⟩ := h1 b (by omega)
     exact ⟨u, v, x, g1, g2, g3, g4, g5, fun a => by rw [if_neg (by omega)]; exact g6 a⟩
    ·by_cases e2 : b = m
     ·exact ⟨w, w0, w1, fun a => by rw [if_pos e2]⟩
     ·obtain ⟨u, g1, g2, g3⟩ := h2 b (by omega) hbk
      exact ⟨u, g1, g2, fun a => by rw [if_neg e2]; exact g3 a⟩
   rw [hd]
   exact (side u u0 u1).add ((side v v0 v1).mul hx)
 intro cs hl hx
 refine key k _ (Nat.le_refl k) (fun b hb => ?_) (fun b hb hbk => by omega)
 have hm := hx (ix 0 cs b) (ix_mem 0 cs (by omega) (by omega))
 exact hW _ hm.1 hm.2
def prD (A : Nat → Nat → Ps K) : Nat → Ps K
 | 0 => 1
 | n + 1 => prD A n * A n n
theorem prD_head (A : Nat → Nat → Ps K) : ∀ n, prD A (n + 1) = A 0 0 * prD (fun i j => A (i + 1) (j + 1)) n
 | 0 => by show 1 * A 0 0 = A 0 0 * 1; rw [Ri.one_mul, Ri.mul_one]
 | n + 1 => by
  show prD A (n + 1) * A (n + 1) (n + 1) = A 0 0 * (prD (fun i j => A (i + 1) (j + 1)) n * A (n + 1) (n + 1))
  rw [prD_head A n, Ri.mul_assoc]
theorem det_tri : ∀ {n : Nat} {A : Nat → Nat → Ps K}, (∀ i j, i < n → j < n → i < j → A i j = 0) → Lr.det n A = prD A n
 | 0, _, _ => rfl
 | n + 1, A, h => by
  rw [Lr.det_succ, Lr.sm_one (k := 0) (by omega) fun c hc hne => by rw [h 0 c (by omega) hc (by omega), Ri.zero_mul, Ri.mul_zero], prD_head]
  have e : Lr.det n (fun i j => A (i + 1) (Lr.sk 0 j)) = prD (fun i j => A (i + 1) (j + 1)) n := by
   rw [← det_tri (n := n) (A := fun i j => A (i + 1) (j + 1)) fun i j hi hj hij => h (i + 1) (j + 1) (by omega) (by omega) (by omega)]
   exact Lr.det_congr fun i j _ _ => by unfold Lr.sk; rw [if_neg (by omega)]
  rw [e]
  show Lr.sg 0 * _ = _
  unfold Lr.sg
  rw [if_neg (by omega), Ri.one_mul]
theorem det_zero_col {n : Nat} {A : Nat → Nat → Ps K} {q : Nat} (hq : q < n) (h : ∀ i, i < n → A i q = 0) : Lr.det n A = 0 := by
 have e : Lr.det n A = Lr.det n (fun i j => if j = q then 0 else A i j) := Lr.det_congr fun i j hi hj => by
  split
  ·rename_i e; rw [e, h i hi]
  ·rfl
 have := Lr.det_lin (n := n) (A := fun i j => if j = q then 0 else A i j) (B := fun i j => if j = q then 0 else A i j) (C := fun i j => if j = q then 0 else A i j) q (-1) hq (fun i j hj => rfl) (fun i j hj => rfl) (fun i => by rw [if_pos rfl, Ri.mul_zero, Ri.add_zero])
 rw [e, this, Ri.neg_mul, Ri.one_mul, Ri.add_neg]
theorem inc_range {k : Int} : ∀ (t : List Int) {a n : Int}, Cnv.Inc a t n → (∀ x ∈ t, x < k) → a + t.length = k → ∀ b : Nat, b < t.length → ix 0 t b = a + b
 | x :: t, a, n, h, hk, hl, b, hb => by
  have hx : x = a := by
   have hb2 : ∀ (t : List Int) (lo : Int), Cnv.Inc lo t n → (∀ y ∈ t, y < k) → t = [] ∨ lo + t.length ≤ k := by
    intro t
    induction t with
    | nil => exact fun _ _ _ => .inl rfl
    | cons y t ih =>
     intro lo hi hk
     have h1 := hk y (by simp)
     have h2 := hi.1
     rcases ih (y + 1) hi.2.2 (fun z hz => hk z (List.mem_cons_of_mem _ hz)) with e | e
     ·right; rw [e]; simp; omega
     ·right; simp only [List.length_cons]; omega
   rcases hb2 (x :: t) x ⟨Int.le_refl x, h.2.1, h.2.2⟩ hk with e | e
   ·cases e
   ·have := h.1; omega
  cases b with
  | zero => show x = a + 0; omega
  | succ b =>
   have := inc_range t h.2.2 (fun y hy => hk y (List.mem_cons_of_mem _ hy)) (by simp only [List.length_cons] at hl; omega) b (by simp only [List.length_cons] at hb; omega)
   have e : ix 0 (x :: t) ((b + 1 : Nat) : Int) = ix 0 t (b : Nat) := by unfold ix; simp
   rw [e, this]; omega
theorem tri_all {e : Ps K} {k : Nat} {n : Int} {V : Int → Nat → Ps K} (hk : k ≤ n) (hz : ∀ (a : Nat) (j : Int), a < k → (a : Int) < j → j < n → V j a = 0) : Dv e (prD (fun a b => V b a) k) ↔ AllD e k n V := by
 have hdet : ∀ t : List Int, t.length = k → (∀ b : Nat, b < k → ix 0 t b = b) → dL k V t = prD (fun a b => V b a) k := fun t hl ht => by
  rw [← det_tri (n := k) (A := fun a b => V b a) fun i j hi hj hij => hz i j hi (by omega) (by omega)]
  exact Lr.det_congr fun a b _ hb => by rw [ht b hb]
 rw [all_inc]
 constructor
 ·intro h t hi hl
  by_cases hb : ∃ b : Nat, b < k ∧ (k : Int) ≤ ix 0 t b
  ·obtain ⟨b, hb, hb2⟩ := hb
   have hm := inc_mem t hi _ (ix_mem 0 t (i := b) (by omega) (by omega))
   unfold dL
   rw [det_zero_col hb fun i hi => hz i _ hi (by omega) hm.2]
   exact Dv.zero e
  ·have hlt : ∀ x ∈ t, x < (k : Int) := fun x hx => by
    obtain ⟨b, hb1, hb2⟩ := List.getElem_of_mem hx
    refine Classical.byContradiction fun hc => hb ⟨b, by omega, ?_⟩
    have : ix 0 t b = x := by unfold ix; simp [List.getD, hb1, hb2]
    omega
   have := inc_range t hi hlt (by omega)
   rw [hdet t hl fun b hb => by rw [this b (by omega)]; omega]
   exact h
 ·intro h
  have hi : ∀ (m : Nat) (a : Int), 0 ≤ a → a + m = k → Cnv.Inc a (mapR (fun b => a + b) m) n := by
   intro m
   induction m with
   | zero => intro a _ _; exact trivial
   | succ m ih =>
    intro a a0 ha
    have e : mapR (fun b => a + b) ((m + 1 : Nat) : Int) = a :: mapR (fun b => a + 1 + b) m := by
     unfold mapR
     rw [show (((m + 1 : Nat) : Int)).toNat = m + 1 by omega, List.range_succ_eq_map, List.map_cons, List.map_map]
     congr 1
     ·show a + ((0 : Nat) : Int) = a; omega
     ·rw [show ((m : Int)).toNat = m by omega]
      refine List.map_congr_left fun b _ => ?_
      show a + ((b + 1 : Nat) : Int) = a + 1 + b
      omega
    rw [e]
    exact ⟨Int.le_refl a, by omega, ih (a + 1) (by omega) (by omega)⟩
  have h2 := h _ (hi k 0 (by omega) (by omega)) (by rw [length_mapR]; omega)
  rwa [hdet _ (by rw [length_mapR]; omega) fun b hb => by rw [ix_mapR 0 _ (by omega) (by omega)]; omega] at h2
end
end Go.Cw
set_option linter.unusedVariables false
set_option linter.unusedSimpArgs false
set_option linter.unusedSectionVars false
namespace Go.Cw
section
open La Ps
theorem ixG_map {α β : Type} (d : α) (d' : β) (g : α → β) (l : List α) {i : Int} (h0 : 0 ≤ i) (h1 : i < l.length) : ix d' (l.map g) i = g (ix d l i) := by
 have hi : i.toNat < l.length := by omega
 simp [ix, List.getD, hi]
theorem ixG_set {α : Type} (d : α) (l : List α) {k m : Int} (h0 : 0 ≤ k) (h1 : k < l.length) (m0 : 0 ≤ m) (v : α) : ix d (l.set k.toNat v) m = if m = k then v else ix d l m := by
 unfold ix
 simp only [List.getD, List.getElem?_set]
 by_cases e : m = k
 ·rw [if_pos e, if_pos (by omega), if_pos (by omega)]; rfl
 ·rw [if_neg e, if_neg (by omega)]
theorem ix_appL {α : Type} (d : α) (a b : List α) {i : Int} (h0 : 0 ≤ i) (h1 : i < a.length) : ix d (a ++ b) i = ix d a i := by
 unfold ix; simp only [List.getD]; rw [List.getElem?_append_left (by omega)]
theorem ix_appR {α : Type} (d : α) (a b : List α) {i : Int} (h0 : 0 ≤ i) : ix d (a ++ b) (a.length + i) = ix d b i := by
 unfold ix; simp only [List.getD]; rw [List.getElem?_append_right (by omega), show ((a.length : Int) + i).toNat - a.length = i.toNat by omega]
abbrev L3 := List (List (List Int))
def eL (Y : List (List (List Int))) (i j : Int) : List Int := ix [] (ix [] Y i) j
noncomputable def colR {f : Fld} (h : FOk f) (i j : Int) (q : List Int) (r : List (List Int)) : List (List Int) := (r.set i.toNat (ix [] r j)).set j.toNat (subP h (ix [] r i) (mulP h q (ix [] r j)))
namespace Cnv
variable (c : Cnv) (hF : FOk c.F)
noncomputable def vG : Int → Nat → Ps (KF c.F hF) := fun j a => c.cG hF a j
noncomputable def vY (Y : List (List (List Int))) : Int → Nat → Ps (KF c.F hF) := fun j a => pS hF (eL Y a j)
theorem detD_dL (cs : List Int) : c.detD hF 0 cs = dL c.Gen.length (c.vG hF) cs := by
 unfold detD dL vG
 rw [show c.Gen.length - (0 : Int).toNat = c.Gen.length from rfl]
 exact Lr.det_congr fun a b _ _ => by rw [Int.zero_add]
structure TrI (Y : List (List (List Int))) : Prop where
 len : (Y.length : Int) = c.k + c.n
 row : ∀ i, 0 ≤ i → i < c.k + c.n → ((ix [] Y i).length : Int) = c.n
 cn : ∀ i j, 0 ≤ i → i < c.k + c.n → 0 ≤ j → j < c.n → CnL c.F (eL Y i j)
 lin : ∀ i j : Int, 0 ≤ i → i < c.k → 0 ≤ j → j < c.n → pS hF (eL Y i j) = Lr.sm (fun t => c.cG hF i t * pS hF (eL Y (c.k + t) j)) c.n.toNat
 mi : ∀ e, AllD e c.Gen.length c.n (c.vG hF) ↔ AllD e c.Gen.length c.n (c.vY hF Y)
variable {c hF}
theorem eL_col {Y : List (List (List Int))} (T : c.TrI hF Y) {i j : Int} (q : List Int) (i0 : 0 ≤ i) (i1 : i < c.n) (j0 : 0 ≤ j) (j1 : j < c.n) {a m : Int} (a0 : 0 ≤ a) (a1 : a < c.k + c.n) (m0 : 0 ≤ m) :
  eL (Y.map (colR hF i j q)) a m = if m = j then subP hF (eL Y a i) (mulP hF q (eL Y a j)) else if m = i then eL Y a j else eL Y a m := by
 have hl := T.len
 have hr := T.row a a0 a1
 unfold eL
 rw [ixG_map [] [] _ Y a0 (by omega)]
 unfold colR
 rw [ixG_set [] _ j0 (by rw [List.length_set]; omega) m0, ixG_set [] _ i0 (by omega) m0]
theorem TrI.step {Y : List (List (List Int))} (T : c.TrI hF Y) {i j : Int} (q : List Int) (i0 : 0 ≤ i) (i1 : i < c.n) (j0 : 0 ≤ j) (j1 : j < c.n) (hij : i ≠ j) : c.TrI hF (Y.map (colR hF i j q)) := by
 have hk0 : 0 ≤ c.k := by unfold k; omega
 have hn0 : 0 ≤ c.n := by omega
 refine ⟨by rw [List.length_map]; exact T.len, fun a a0 a1 => ?_, fun a m a0 a1 m0 m1 => ?_, fun a m a0 a1 m0 m1 => ?_, fun e => ?_⟩
 ·have hl := T.len
  rw [ixG_map [] [] _ Y a0 (by omega)]
  unfold colR
  rw [List.length_set, List.length_set]; exact T.row a a0 a1
 ·rw [eL_col T q i0 i1 j0 j1 a0 a1 m0]
  split
  ·exact lS_cn hF _
  ·split
   ·exact T.cn a j a0 a1 j0 j1
   ·exact T.cn a m a0 a1 m0 m1
 ·rw [eL_col T q i0 i1 j0 j1 a0 (by omega) m0]
  have hs : ∀ t : Nat, t < c.n.toNat → eL (Y.map (colR hF i j q)) (c.k + t) m = if m = j then subP hF (eL Y (c.k + t) i) (mulP hF q (eL Y (c.k + t) j)) else if m = i then eL Y (c.k + t) j else eL Y (c.k + t) m := fun t ht => eL_col T q i0 i1 j0 j1 (by omega) (by omega) m0
  rw [Lr.sm_congr (h := fun t => c.cG hF a t * pS hF (if m = j then subP hF (eL Y (c.k + t) i) (mulP hF q (eL Y (c.k + t) j)) else if m = i then eL Y (c.k + t) j else eL Y (c.k + t) m)) fun t ht => by rw [hs t ht]]
  by_cases e1 : m = j
  ·simp only [if_pos e1]
   rw [pS_sub, pS_mul, T.lin a i a0 a1 i0 i1, T.lin a j a0 a1 j0 j1]
   rw [← Lr.sm_mul, ← Lr.sm_neg, ← Lr.sm_add]
   refine Lr.sm_congr fun t _ => ?_
   rw [pS_sub, pS_mul, Ri.mul_add, Ri.mul_neg]
   congr 2
   ac_rfl
  ·simp only [if_neg e1]
   by_cases e2 : m = i
   ·simp only [if_pos e2]; exact T.lin a j a0 a1 j0 j1
   ·simp only [if_neg e2]; exact T.lin a m a0 a1 m0 m1
 ·rw [T.mi e]
  have hcol : ∀ (m : Int) (a : Nat), 0 ≤ m → a < c.Gen.length → c.vY hF (Y.map (colR hF i j q)) m a = if m = j then c.vY hF Y i a + -(pS hF q * c.vY hF Y j a) else if m = i then c.vY hF Y j a else c.vY hF Y m a := fun m a m0 ha => by
   unfold vY
   rw [eL_col T q i0 i1 j0 j1 (by omega) (by unfold k; omega) m0]
   split
   ·rw [pS_sub, pS_mul]
   ·split <;> rfl
  have cg : ∀ (V W : Int → Nat → Ps (KF c.F hF)), (∀ m a, 0 ≤ m → m < c.n → a < c.Gen.length → V m a = W m a) → AllD e c.Gen.length c.n V → AllD e c.Gen.length c.n W := fun V W hVW h cs hl hx => by
   have := h cs hl hx
   rwa [show dL c.Gen.length V cs = dL c.Gen.length W cs from Lr.det_congr fun a b ha hb => hVW _ _ (hx _ (ix_mem 0 cs (by omega) (by omega))).1 (hx _ (ix_mem 0 cs (by omega) (by omega))).2 ha] at this
  constructor
  ·intro h
   refine cg (fun m a => if m = j then c.vY hF Y i a + -(pS hF q * c.vY hF Y j a) else if m = i then c.vY hF Y j a else c.vY hF Y m a) _ (fun m a m0 _ ha => (hcol m a m0 ha).symm) ?_
   refine all_cols h fun m m0 m1 => ?_
   by_cases e1 : m = j
   ·exact ⟨i, j, -(pS hF q), i0, i1, j0, j1, (pS_pol hF q).neg, fun a => by rw [if_pos e1, Ri.neg_mul]⟩
   ·by_cases e2 : m = i
    ·exact ⟨j, j, 0, j0, j1, j0, j1, Pol.zero, fun a => by rw [if_neg e1, if_pos e2, Ri.zero_mul, Ri.add_zero]⟩
    ·exact ⟨m, m, 0, m0, m1, m0, m1, Pol.zero, fun a => by rw [if_neg e1, if_neg e2, Ri.zero_mul, Ri.add_zero]⟩
  ·intro h
   have h2 := cg _ (fun m a => if m = j then c.vY hF Y i a + -(pS hF q * c.vY hF Y j a) else if m = i then c.vY hF Y j a else c.vY hF Y m a) (fun m a m0 _ ha => hcol m a m0 ha) h
   refine all_cols h2 fun m m0 m1 => ?_
   by_cases e1 : m = j
   ·exact ⟨i, i, 0, i0, i1, i0, i1, Pol.zero, fun a => by rw [if_neg hij, if_pos rfl, Ri.zero_mul, Ri.add_zero, e1]⟩
   ·by_cases e2 : m = i
    ·refine ⟨j, i, pS hF q, j0, j1, i0, i1, pS_pol hF q, fun a => ?_⟩
     rw [if_pos rfl, if_neg hij, if_pos rfl, Ri.add_assoc, Ri.neg_add, Ri.add_zero, e2]
    ·exact ⟨m, m, 0, m0, m1, m0, m1, Pol.zero, fun a => by rw [if_neg e1, if_neg e2, Ri.zero_mul, Ri.add_zero]⟩
def LB (c : Cnv) (Y : List (List (List Int))) (B : Nat) : Prop := ∀ a m : Int, 0 ≤ a → a < c.k + c.n → 0 ≤ m → m < c.n → (eL Y a m).length ≤ B
variable (c hF)
structure ClI (X Y : List (List (List Int))) (row i j : Int) (B : Nat) : Prop where
 tr : c.TrI hF Y
 ln : ∀ a m : Int, 0 ≤ a → a < c.k + c.n → 0 ≤ m → m < c.n → (eL Y a m).length + max (eL Y row i).length (eL Y row j).length ≤ 2 * B
 kp : ∀ a m : Int, 0 ≤ a → a < c.k + c.n → 0 ≤ m → m ≠ i → m ≠ j → eL Y a m = eL X a m
 zr : ∀ a : Int, 0 ≤ a → a < c.k + c.n → eL X a i = [] → eL X a j = [] → eL Y a i = [] ∧ eL Y a j = []
variable {c hF}
theorem ClI.start {X : List (List (List Int))} {row i j : Int} {B : Nat} (T : c.TrI hF X) (hB : c.LB X B) (r0 : 0 ≤ row) (r1 : row < c.k + c.n) (i0 : 0 ≤ i) (i1 : i < c.n) (j0 : 0 ≤ j) (j1 : j < c.n) : c.ClI hF X X row i j B where
 tr := T
 ln := fun a m a0 a1 m0 m1 => by
  have h1 := hB a m a0 a1 m0 m1
  have h2 := hB row i r0 r1 i0 i1
  have h3 := hB row j r0 r1 j0 j1
  omega
 kp := fun _ _ _ _ _ _ _ => rfl
 zr := fun _ _ _ h1 h2 => ⟨h1, h2⟩
theorem sub_rem {f : Fld} (h : FOk f) {a b : List Int} (hb : CnL f b) (b0 : 0 < b.length) : subP h a (mulP h (quoP h a b) b) = remP h a b := by
 have ht := cn_top h hb b0
 unfold subP remP
 rw [pS_mul, show pS h (quoP h a b) = dq (pS h a) (pS h b) from pS_lS h (dq_pol (pS_pol h a) (pS_pol h b) ht.ne)]
 rfl
theorem quoP_len {f : Fld} (h : FOk f) {a b : List Int} (hb : CnL f b) (b0 : 0 < b.length) : (quoP h a b).length ≤ a.length - (b.length - 1) := lS_len h (dq_low (pS_low h a) (cn_top h hb b0))
theorem ClI.next {X Y : List (List (List Int))} {row i j : Int} {B : Nat} (C : c.ClI hF X Y row i j B) (r0 : 0 ≤ row) (r1 : row < c.k + c.n) (i0 : 0 ≤ i) (i1 : i < c.n) (j0 : 0 ≤ j) (j1 : j < c.n) (hij : i ≠ j) (hb : 0 < (eL Y row j).length) :
  c.ClI hF X (Y.map (colR hF i j (quoP hF (eL Y row i) (eL Y row j)))) row i j B ∧ (eL (Y.map (colR hF i j (quoP hF (eL Y row i) (eL Y row j)))) row j).length < (eL Y row j).length := by
 have T := C.tr
 have cnj := T.cn row j r0 r1 j0 j1
 have hq := quoP_len hF (a := eL Y row i) cnj hb
 have hrem := remP_len hF (P := eL Y row i) cnj hb
 have e : ∀ a m : Int, 0 ≤ a → a < c.k + c.n → 0 ≤ m → _ := fun a m a0 a1 m0 => eL_col T (quoP hF (eL Y row i) (eL Y row j)) i0 i1 j0 j1 (a := a) (m := m) a0 a1 m0
 have ej : eL (Y.map (colR hF i j (quoP hF (eL Y row i) (eL Y row j)))) row j = remP hF (eL Y row i) (eL Y row j) := by
  rw [e row j r0 r1 j0, if_pos rfl, sub_rem hF cnj hb]
 have ei : eL (Y.map (colR hF i j (quoP hF (eL Y row i) (eL Y row j)))) row i = eL Y row j := by
  rw [e row i r0 r1 i0, if_neg hij, if_pos rfl]
 refine ⟨⟨T.step _ i0 i1 j0 j1 hij, fun a m a0 a1 m0 m1 => ?_, fun a m a0 a1 m0 hmi hmj => ?_, fun a a0 a1 h1 h2 => ?_⟩, by rw [ej]; exact hrem⟩
 ·rw [ej, ei, e a m a0 a1 m0]
  have h1 := C.ln a m a0 a1 m0 m1
  have h2 := C.ln a i a0 a1 i0 i1
  have h3 := C.ln a j a0 a1 j0 j1
  split
  ·have h4 := subP_len hF (eL Y a i) (mulP hF (quoP hF (eL Y row i) (eL Y row j)) (eL Y a j))
   have h5 := mulP_len hF (quoP hF (eL Y row i) (eL Y row j)) (eL Y a j)
   omega
  ·split <;> omega
 ·rw [e a m a0 a1 m0, if_neg hmj, if_neg hmi]
  exact C.kp a m a0 a1 m0 hmi hmj
 ·obtain ⟨g1, g2⟩ := C.zr a a0 a1 h1 h2
  rw [e a i a0 a1 i0, e a j a0 a1 j0, if_neg hij, if_pos rfl, if_pos rfl, g1, g2]
  refine ⟨rfl, ?_⟩
  unfold subP
  rw [pS_mul, pS_nil, Ri.mul_zero, Ri.neg_zero, Ri.add_zero, lS_zero]
def clN (i : Int) : Nat := if i ≤ 0 then 0 else if i = 1 then 5 else if i = 2 then 9 else 12
variable (c hF)
structure TgI (Y : List (List (List Int))) (i j : Int) : Prop where
 tr : c.TrI hF Y
 lb : c.LB Y (40 * 2 ^ (clN i + (j - i - 1).toNat))
 zr : ∀ a m : Int, 0 ≤ a → a < i → a < m → m < c.n → eL Y a m = []
 zi : ∀ m : Int, i < m → m < j → eL Y i m = []
variable {c hF}
theorem TgI.step {X Y : List (List (List Int))} {i j : Int} (T : c.TgI hF X i j) (hkn : c.k ≤ c.n) (i0 : 0 ≤ i) (i1 : i < c.k) (hij : i < j) (j1 : j < c.n) (C : c.ClI hF X Y i i j (40 * 2 ^ (clN i + (j - i - 1).toNat))) (hz : eL Y i j = []) : c.TgI hF Y i (j + 1) where
 tr := C.tr
 lb := fun a m a0 a1 m0 m1 => by
  have := C.ln a m a0 a1 m0 m1
  rw [show (j + 1 - i - 1).toNat = (j - i - 1).toNat + 1 by omega, ← Nat.add_assoc, Nat.pow_succ]
  omega
 zr := fun a m a0 a1 h1 h2 => by
  by_cases e1 : m = i
  ·rw [e1]; exact (C.zr a a0 (by omega) (T.zr a i a0 a1 a1 (by omega)) (T.zr a j a0 a1 (by omega) j1)).1
  ·by_cases e2 : m = j
   ·rw [e2]; exact (C.zr a a0 (by omega) (T.zr a i a0 a1 a1 (by omega)) (T.zr a j a0 a1 (by omega) j1)).2
   ·rw [C.kp a m a0 (by omega) (by omega) e1 e2]; exact T.zr a m a0 a1 h1 h2
 zi := fun m h1 h2 => by
  by_cases e : m = j
  ·rw [e]; exact hz
  ·rw [C.kp i m i0 (by omega) (by omega) (by omega) e]; exact T.zi m h1 (by omega)
theorem TgI.row {Y : List (List (List Int))} {i j : Int} (T : c.TgI hF Y i j) (hn6 : c.n ≤ 6) (i0 : 0 ≤ i) (i2 : i ≤ 2) (hin : i < c.n) (hj : c.n ≤ j) (hj2 : j ≤ c.n) : c.TgI hF Y (i + 1) (i + 1 + 1) where
 tr := T.tr
 lb := fun a m a0 a1 m0 m1 => by
  refine Nat.le_trans (T.lb a m a0 a1 m0 m1) (Nat.mul_le_mul_left _ (Nat.pow_le_pow_right (by omega) ?_))
  unfold clN
  rcases (show i = 0 ∨ i = 1 ∨ i = 2 by omega) with e | e | e <;> subst e <;> simp <;> omega
 zr := fun a m a0 a1 h1 h2 => by
  by_cases e : a = i
  ·rw [e]; exact T.zi m (by omega) (by omega)
  ·exact T.zr a m a0 (by omega) h1 h2
 zi := fun m h1 h2 => by omega
theorem clN_le (i : Int) : clN i ≤ 12 := by unfold clN; split <;> (try split) <;> (try split) <;> omega
theorem clN_pow {i j n : Int} (hn6 : n ≤ 6) (i0 : 0 ≤ i) (i2 : i ≤ 2) (hij : i < j) (hj : j ≤ n) : 40 * 2 ^ (clN i + (j - i - 1).toNat) ≤ 163840 := by
 have : 40 * 2 ^ (clN i + (j - i - 1).toNat) ≤ 40 * 2 ^ 12 := Nat.mul_le_mul_left _ (Nat.pow_le_pow_right (by omega) (by
  unfold clN
  rcases (show i = 0 ∨ i = 1 ∨ i = 2 by omega) with e | e | e <;> subst e <;> simp <;> omega))
 exact this
theorem TgI.short {Y : List (List (List Int))} {i j : Int} (T : c.TgI hF Y i j) (hn6 : c.n ≤ 6) (i0 : 0 ≤ i) (i2 : i ≤ 2) (hij : i < j) (hj : j ≤ c.n) : c.LB Y 163840 := fun a m a0 a1 m0 m1 => by
 refine Nat.le_trans (T.lb a m a0 a1 m0 m1) ?_
 have : 40 * 2 ^ (clN i + (j - i - 1).toNat) ≤ 40 * 2 ^ 12 := Nat.mul_le_mul_left _ (Nat.pow_le_pow_right (by omega) (by
  unfold clN
  rcases (show i = 0 ∨ i = 1 ∨ i = 2 by omega) with e | e | e <;> subst e <;> simp <;> omega))
 exact this
theorem TgI.shortE {Y : List (List (List Int))} {i : Int} (T : c.TgI hF Y i (i + 1)) : c.LB Y 163840 := fun a m a0 a1 m0 m1 => by
 refine Nat.le_trans (T.lb a m a0 a1 m0 m1) ?_
 have : 40 * 2 ^ (clN i + (i + 1 - i - 1).toNat) ≤ 40 * 2 ^ 12 := Nat.mul_le_mul_left _ (Nat.pow_le_pow_right (by omega) (by have := clN_le i; omega))
 exact this
def idR (n i : Int) : List (List Int) := (List.replicate n.toNat []).set i.toNat [1]
def triS (c : Cnv) : List (List (List Int)) := c.canon ++ mapR (idR c.n) c.n
theorem eL_idR {n i m : Int} (i0 : 0 ≤ i) (i1 : i < n) (m0 : 0 ≤ m) : ix [] (idR n i) m = if m = i then [1] else [] := by
 unfold idR
 rw [ixG_set [] _ i0 (by rw [List.length_replicate]; omega) m0]
 split
 ·rfl
 ·unfold ix
  simp only [List.getD, List.getElem?_replicate]
  split <;> rfl
theorem triS_lo (hOk : c.Ok) {i j : Int} (i0 : 0 ≤ i) (i1 : i < c.k) (j0 : 0 ≤ j) (j1 : j < c.n) : eL c.triS i j = trimL (ix [] (ix [] c.Gen i) j) := by
 have hik : c.k = (c.Gen.length : Int) := rfl
 have hrow := hOk.row i0 (by omega)
 unfold eL triS
 have hl : (c.canon.length : Int) = c.k := by unfold canon; rw [List.length_map]; rfl
 rw [ix_appL [] _ _ i0 (by omega)]
 unfold canon
 rw [ixG_map [] [] _ c.Gen i0 (by omega), ixG_map [] [] _ _ j0 (by omega)]
theorem triS_hi {t j : Int} (t0 : 0 ≤ t) (t1 : t < c.n) (j0 : 0 ≤ j) : eL c.triS (c.k + t) j = if j = t then [1] else [] := by
 unfold eL triS
 have hl : (c.canon.length : Int) = c.k := by unfold canon; rw [List.length_map]; rfl
 rw [← hl, ix_appR [] _ _ t0, ix_mapR [] _ t0 t1, eL_idR t0 t1 j0]
theorem TrI.start (hOk : c.Ok) : c.TrI hF c.triS := by
 have hik : c.k = (c.Gen.length : Int) := rfl
 have hkn := hOk.kn
 have hcl : (c.canon.length : Int) = c.k := by unfold canon; rw [List.length_map]; rfl
 have hpl : ∀ i j : Int, 0 ≤ i → i < c.k → 0 ≤ j → j < c.n → pS hF (eL c.triS i j) = c.cG hF i j := fun i j i0 i1 j0 j1 => by rw [triS_lo hOk i0 i1 j0 j1, pS_trim]; rfl
 refine ⟨?_, fun i i0 i1 => ?_, fun i j i0 i1 j0 j1 => ?_, fun i j i0 i1 j0 j1 => ?_, fun e => ?_⟩
 ·unfold triS; rw [List.length_append, length_mapR]; omega
 ·unfold triS
  by_cases h : i < c.k
  ·rw [ix_appL [] _ _ i0 (by omega)]
   unfold canon
   rw [ixG_map [] [] _ c.Gen i0 (by omega), List.length_map]
   exact hOk.row i0 (by omega)
  ·rw [show i = c.canon.length + (i - c.k) by omega, ix_appR [] _ _ (by omega), ix_mapR [] _ (by omega) (by omega)]
   unfold idR
   rw [List.length_set, List.length_replicate]; omega
 ·by_cases h : i < c.k
  ·have hrow := hOk.row i0 (by omega)
   rw [triS_lo hOk i0 h j0 j1]
   exact cn_trim (hOk.poly i0 (by omega) j0 (by omega))
  ·rw [show i = c.k + (i - c.k) by omega, triS_hi (by omega) (by omega) j0]
   split
   ·exact cn_one hF.1
   ·exact cn_nil
 ·rw [hpl i j i0 i1 j0 j1, Lr.sm_one (k := j.toNat) (by omega) fun t ht hne => ?_]
  ·rw [triS_hi (by omega) (by omega) j0, if_pos (by omega), pS_one, Ri.mul_one, show ((j.toNat : Nat) : Int) = j by omega]
  ·rw [triS_hi (by omega) (by omega) j0, if_neg (by omega), pS_nil, Ri.mul_zero]
 ·have : ∀ cs : List Int, cs.length = c.Gen.length → (∀ x ∈ cs, 0 ≤ x ∧ x < c.n) → dL c.Gen.length (c.vG hF) cs = dL c.Gen.length (c.vY hF c.triS) cs := fun cs hl hx => Lr.det_congr fun a b ha hb => by
   have hm := hx _ (ix_mem 0 cs (i := b) (by omega) (by omega))
   exact (hpl a (ix 0 cs b) (by omega) (by omega) hm.1 hm.2).symm
  exact ⟨fun h cs hl hx => by rw [← this cs hl hx]; exact h cs hl hx, fun h cs hl hx => by rw [this cs hl hx]; exact h cs hl hx⟩
theorem TgI.start (hFew : c.Few) (hOk : c.Ok) : c.TgI hF c.triS 0 1 where
 tr := TrI.start hOk
 lb := fun a m a0 a1 m0 m1 => by
  have hik : c.k = (c.Gen.length : Int) := rfl
  show _ ≤ 40
  by_cases h : a < c.k
  ·have hrow := hOk.row a0 (by omega)
   rw [triS_lo hOk a0 h m0 m1, length_trimL]
   have h1 := trimN_le (ix [] (ix [] c.Gen a) m)
   have h2 := (hFew.2 _ (ix_mem [] c.Gen a0 (by omega))).2 _ (ix_mem [] (ix [] c.Gen a) m0 (by omega))
   omega
  ·rw [show a = c.k + (a - c.k) by omega, triS_hi (by omega) (by omega) m0]
   split <;> simp
 zr := fun a m a0 a1 _ _ => by omega
 zi := fun m h1 h2 => by omega
theorem tri_min (hFew : c.Few) {Y : List (List (List Int))} (T : c.TrI hF Y) (hkn : c.k ≤ c.n) (hz : ∀ a m : Int, 0 ≤ a → a < c.k → a < m → m < c.n → eL Y a m = []) : mon (prD (fun a b => pS hF (eL Y a b)) c.Gen.length) = c.mP hF 0 [] := by
 have hik : c.k = (c.Gen.length : Int) := rfl
 have hpol : ∀ n, Pol (prD (fun a b => pS hF (eL Y (a : Int) (b : Int))) n) := by
  intro n
  induction n with
  | zero => exact Pol.one
  | succ n ih => exact ih.mul (pS_pol hF _)
 refine (mP_eq ⟨mon_pol (hpol _), mon_mon (hpol _), fun e _ => ?_⟩).symm
 rw [dv_mon (hpol _)]
 have h1 := tri_all (e := e) (k := c.Gen.length) (n := c.n) (V := c.vY hF Y) (by omega) fun a j ha h1 h2 => by
  unfold vY
  rw [hz a j (by omega) (by omega) h1 h2, pS_nil]
 have h2 := all_inc (e := e) (k := c.Gen.length) (n := c.n) (V := c.vG hF)
 rw [T.mi e] at h2
 constructor
 ·intro h t hi hl
  rw [List.nil_append, c.detD_dL hF]
  exact h2.1 (h1.1 h) t hi (by simpa using hl)
 ·intro h
  refine h1.2 (h2.2 fun t hi hl => ?_)
  have := h t hi (by simpa using hl)
  rwa [List.nil_append, c.detD_dL hF] at this
end Cnv
end
end Go.Cw
set_option linter.unusedVariables false
set_option linter.unusedSimpArgs false
set_option linter.unusedSectionVars false
namespace Go.Cw
section
open La Ps
namespace Cnv
variable {c : Cnv} {hF : FOk c.F}
open Classical in
noncomputable def minL (c : Cnv) : List Int := if h : c.Ok then lS h.fld (c.mP h.fld 0 []) else []
theorem minL_ok (hOk : c.Ok) : c.minL = lS hF (c.mP hF 0 []) := by unfold minL; rw [dif_pos hOk]
noncomputable def pdL (hF : FOk c.F) (Y : L3) (i : Int) : List Int := lS hF (prD (fun a b => pS hF (eL Y a b)) i.toNat)
theorem prD_pol (Y : L3) : ∀ n, Pol (prD (fun a b => pS hF (eL Y (a : Int) (b : Int))) n)
 | 0 => Pol.one
 | n + 1 => (prD_pol Y n).mul (pS_pol hF _)
theorem pd_zero (Y : L3) : pdL hF Y 0 = [1] := lS_one hF
theorem pd_succ (Y : L3) {i : Int} (i0 : 0 ≤ i) : mulP hF (pdL hF Y i) (ix [] (ix [] Y i) i) = pdL hF Y (i + 1) := by
 unfold pdL mulP
 rw [pS_lS hF (prD_pol Y _), show (i + 1).toNat = i.toNat + 1 by omega]
 show lS hF (_ * pS hF (eL Y i i)) = lS hF (_ * pS hF (eL Y (i.toNat : Int) (i.toNat : Int)))
 rw [show ((i.toNat : Nat) : Int) = i by omega]
theorem pd_low {Y : L3} (hB : c.LB Y 163840) (hkn : c.k ≤ c.n) : ∀ n : Nat, (n : Int) ≤ c.k → Low (prD (fun a b => pS hF (eL Y (a : Int) (b : Int))) n) (163840 * n + 1)
 | 0, _ => Low.one
 | n + 1, h => by
  have h1 := pd_low hB hkn n (by omega)
  have h2 := h1.mul (pS_low' hF (eL Y n n) 163840 (hB n n (by omega) (by omega) (by omega) (by omega)))
  exact h2.mono (by rw [Nat.mul_add]; omega)
theorem pd_len {Y : L3} (hB : c.LB Y 163840) (hkn : c.k ≤ c.n) {i : Int} (i0 : 0 ≤ i) (i1 : i ≤ c.k) : (pdL hF Y i).length ≤ 163840 * i.toNat + 1 := lS_len hF (pd_low hB hkn i.toNat (by omega))
theorem pd_end (hFew : c.Few) {Y : L3} (T : c.TgI hF Y c.k (c.k + 1)) (hkn : c.k ≤ c.n) {i : Int} (hi : i = c.k) : monP hF (pdL hF Y i) = lS hF (c.mP hF 0 []) := by
 unfold monP pdL
 rw [pS_lS hF (prD_pol Y _), hi]
 have := tri_min hFew T.tr hkn T.zr
 rw [← this]; rfl
theorem ix_takeL {α : Type} (d : α) (l : List α) {k : Nat} {i : Int} (i0 : 0 ≤ i) (i1 : i < k) : ix d (List.take k l) i = ix d l i := by
 unfold ix
 simp only [List.getD]
 rw [List.getElem?_take, if_pos (by omega)]
def catP (p : List Int) : Prop := p.length = 0 ∨ ∃ i : Int, 0 ≤ i ∧ i < (p.length : Int) - 1 ∧ ix 0 p i ≠ 0
open Classical in
noncomputable instance (p : List Int) : Decidable (catP p) := Classical.propDecidable _
def CatI (p : List Int) (i : Int) : Prop := ∀ z : Int, 0 ≤ z → z < i → z < (p.length : Int) - 1 → ix 0 p z = 0
theorem CatI.zero (p : List Int) : CatI p 0 := fun z z0 z1 => by omega
theorem CatI.next {p : List Int} {i : Int} (h : CatI p i) (hn : ¬ (ix 0 p i ≠ 0 ∧ i < (p.length : Int) - 1)) : CatI p (i + 1) := fun z z0 z1 z2 => by
 by_cases e : z = i
 ·subst e; exact Classical.byContradiction fun h2 => hn ⟨h2, z2⟩
 ·exact h z z0 (by omega) z2
theorem CatI.done {p : List Int} {i : Int} (h : CatI p i) (hi : (p.length : Int) ≤ i) : decide (catP p) = decide (p.length = 0) := decide_eq_decide.2 ⟨fun hc => hc.elim id fun ⟨z, z0, z1, z2⟩ => absurd (h z z0 (by omega) z1) z2, .inl⟩
end Cnv
end
end Go.Cw
set_option linter.unusedVariables false
set_option linter.unusedSimpArgs false
set_option linter.unusedSectionVars false
namespace Go.Cw
section
open La Ps
namespace Cnv
variable (c : Cnv) (hF : FOk c.F)
structure LnI (Y : L3) : Prop where
 len : (Y.length : Int) = c.k + c.n
 row : ∀ i, 0 ≤ i → i < c.k + c.n → ((ix [] Y i).length : Int) = c.n
 cn : ∀ i j, 0 ≤ i → i < c.k + c.n → 0 ≤ j → j < c.n → CnL c.F (eL Y i j)
 lin : ∀ i j : Int, 0 ≤ i → i < c.k → 0 ≤ j → j < c.n → pS hF (eL Y i j) = Lr.sm (fun t => c.cG hF i t * pS hF (eL Y (c.k + t) j)) c.n.toNat
variable {c hF}
theorem TrI.ln {Y : L3} (T : c.TrI hF Y) : c.LnI hF Y := ⟨T.len, T.row, T.cn, T.lin⟩
theorem eL_set {Y : L3} (T : c.LnI hF Y) {j : Int} (g : List (List Int) → List Int) (j0 : 0 ≤ j) (j1 : j < c.n) {a m : Int} (a0 : 0 ≤ a) (a1 : a < c.k + c.n) (m0 : 0 ≤ m) :
  eL (Y.map fun r => r.set j.toNat (g r)) a m = if m = j then g (ix [] Y a) else eL Y a m := by
 have hl := T.len
 have hr := T.row a a0 a1
 unfold eL
 rw [ixG_map [] [] _ Y a0 (by omega), ixG_set [] _ j0 (by omega) m0]
theorem LnI.col {Y : L3} (T : c.LnI hF Y) {i j : Int} (g : List (List Int) → List Int) (x y : Ps (KF c.F hF)) (i0 : 0 ≤ i) (i1 : i < c.n) (j0 : 0 ≤ j) (j1 : j < c.n)
  (hg : ∀ a : Int, 0 ≤ a → a < c.k + c.n → CnL c.F (g (ix [] Y a)) ∧ pS hF (g (ix [] Y a)) = x * pS hF (eL Y a j) + y * pS hF (eL Y a i)) : c.LnI hF (Y.map fun r => r.set j.toNat (g r)) := by
 have hk0 : 0 ≤ c.k := by unfold k; omega
 have hl := T.len
 refine ⟨by rw [List.length_map]; exact T.len, fun a a0 a1 => ?_, fun a m a0 a1 m0 m1 => ?_, fun a m a0 a1 m0 m1 => ?_⟩
 ·rw [ixG_map [] [] _ Y a0 (by omega), List.length_set]; exact T.row a a0 a1
 ·rw [eL_set T g j0 j1 a0 a1 m0]
  split
  ·exact (hg a a0 a1).1
  ·exact T.cn a m a0 a1 m0 m1
 ·rw [eL_set T g j0 j1 a0 (by omega) m0]
  rw [Lr.sm_congr (h := fun t => c.cG hF a t * pS hF (if m = j then g (ix [] Y (c.k + t)) else eL Y (c.k + t) m)) fun t ht => by rw [eL_set T g j0 j1 (by omega) (by omega) m0]]
  by_cases e1 : m = j
  ·simp only [if_pos e1]
   rw [(hg a a0 (by omega)).2, T.lin a i a0 a1 i0 i1, T.lin a j a0 a1 j0 j1, ← Lr.sm_mul, ← Lr.sm_mul, ← Lr.sm_add]
   refine Lr.sm_congr fun t ht => ?_
   rw [(hg (c.k + t) (by omega) (by omega)).2, Ri.mul_add]
   congr 1 <;> ac_rfl
  ·simp only [if_neg e1]; exact T.lin a m a0 a1 m0 m1
variable (c hF)
structure InvI (X Y : L3) (i : Int) : Prop where
 ln : c.LnI hF Y
 lo : ∀ a m : Int, 0 ≤ a → a < i → 0 ≤ m → m < c.n → eL Y a m = if m = a then [1] else []
 kp : ∀ a m : Int, 0 ≤ a → a < c.k + c.n → i ≤ m → m < c.n → eL Y a m = eL X a m
 lb : ∀ a m : Int, 0 ≤ a → a < c.k + c.n → 0 ≤ m → m < i → (eL Y a m).length ≤ 163840 * (i - m).toNat
structure InvJ (X Y : L3) (i j : Int) : Prop where
 ln : c.LnI hF Y
 lo : ∀ a m : Int, 0 ≤ a → a < i → 0 ≤ m → m < c.n → eL Y a m = if m = a then [1] else []
 di : eL Y i i = [1]
 dn : ∀ m : Int, 0 ≤ m → m < j → eL Y i m = []
 kp : ∀ a m : Int, 0 ≤ a → a < c.k + c.n → i < m → m < c.n → eL Y a m = eL X a m
 li : ∀ a : Int, 0 ≤ a → a < c.k + c.n → (eL Y a i).length ≤ 163840
 lb : ∀ a m : Int, 0 ≤ a → a < c.k + c.n → 0 ≤ m → m < i → (eL Y a m).length ≤ 163840 * (if m < j then (i + 1 - m).toNat else (i - m).toNat)
variable {c hF}
theorem InvI.start {X : L3} (T : c.TrI hF X) : c.InvI hF X X 0 := ⟨T.ln, fun a m a0 a1 => by omega, fun _ _ _ _ _ _ => rfl, fun a m a0 a1 m0 m1 => by omega⟩
theorem top_prD {K : Type} [Fi K] {A : Nat → Nat → Ps K} : ∀ {n : Nat}, (∀ i, i < n → Pol (A i i)) → Top (prD A n) 0 → ∀ i, i < n → Top (A i i) 0
 | n + 1, hp, h, i, hi => by
  have hne : prD A n * A n n ≠ 0 := h.ne
  have h1 : prD A n ≠ 0 := fun e => hne (by rw [e, Ri.zero_mul])
  have h2 : A n n ≠ 0 := fun e => hne (by rw [e, Ri.mul_zero])
  have hpp : ∀ m, m ≤ n → Pol (prD A m) := by
   intro m
   induction m with
   | zero => exact fun _ => Pol.one
   | succ m ih => exact fun hm => (ih (by omega)).mul (hp m (by omega))
  obtain ⟨s, hs⟩ := (hpp n (Nat.le_refl n)).top h1
  obtain ⟨t, ht⟩ := (hp n (by omega)).top h2
  have := (hs.mul ht).uniq h
  have hs0 : s = 0 := by omega
  have ht0 : t = 0 := by omega
  subst hs0 ht0
  by_cases e : i = n
  ·rw [e]; exact ht
  ·exact top_prD (n := n) (fun i hi => hp i (by omega)) hs i (by omega)
theorem diag_one (hFew : c.Few) (hOk : c.Ok) {Y : L3} (T : c.TgI hF Y c.k (c.k + 1)) (hkn : c.k ≤ c.n) (hm : c.minL.length = 1) {i : Int} (i0 : 0 ≤ i) (i1 : i < c.k) : (eL Y i i).length = 1 ∧ inF c.F (ix 0 (eL Y i i) 0) ≠ 0 := by
 have hik : c.k = (c.Gen.length : Int) := rfl
 rw [minL_ok hOk (hF := hF)] at hm
 have hme := tri_min hFew T.tr hkn T.zr
 rw [← hme] at hm
 have hpp := prD_pol (c := c) (hF := hF) Y c.Gen.length
 have hz : prD (fun a b => pS hF (eL Y (a : Int) (b : Int))) c.Gen.length ≠ 0 := fun e => by rw [e, mon_zero, lS_zero] at hm; simp at hm
 obtain ⟨n, hn⟩ := hpp.top hz
 have hmt : Top (mon (prD (fun a b => pS hF (eL Y (a : Int) (b : Int))) c.Gen.length)) n := by
  rw [mon_top hn]
  refine ⟨by rw [con_mul, Fi.inv_mul _ hn.1]; exact Fi.one_ne, ?_⟩
  have := (con_low (Fi.inv ((prD (fun a b => pS hF (eL Y (a : Int) (b : Int))) c.Gen.length).co n))).mul hn.2
  exact this.mono (by omega)
 have := lS_top hF hmt
 have hn0 : n = 0 := by omega
 subst hn0
 have ht := top_prD (fun i _ => pS_pol hF _) hn i.toNat (by omega)
 rw [show ((i.toNat : Nat) : Int) = i by omega] at ht
 have hc := T.tr.cn i i i0 (by omega) i0 (by omega)
 have hl := lS_top hF ht
 rw [lS_pS hF hc] at hl
 refine ⟨hl, fun e => ht.1 ?_⟩
 rw [co_pS]
 show ke hF (ix 0 (eL Y i i) ((0 : Nat) : Int)) = 0
 rw [← ke_in]
 show ke hF (inF c.F (ix 0 (eL Y i i) 0)) = 0
 rw [e, ke_zero]
theorem sclP_nil {f : Fld} (h : FOk f) (a : Int) : sclP h a [] = [] := by unfold sclP; rw [pS_nil, Ri.mul_zero, lS_zero]
theorem subP_nil {f : Fld} (h : FOk f) {p : List Int} (q : List Int) (hp : CnL f p) : subP h p (mulP h q []) = p := by
 unfold subP
 rw [pS_mul, pS_nil, Ri.mul_zero, Ri.neg_zero, Ri.add_zero, lS_pS h hp]
theorem subP_self {f : Fld} (h : FOk f) (p : List Int) : subP h p (mulP h p [1]) = [] := by
 unfold subP
 rw [pS_mul, pS_one, Ri.mul_one, Ri.add_neg, lS_zero]
theorem sclP_inv {f : Fld} (h : FOk f) {p : List Int} (hl : p.length = 1) (hx : inF f (ix 0 p 0) ≠ 0) : sclP h (invF f (ix 0 p 0)) p = [1] := by
 have hs := invF_spec h hx
 unfold sclP
 rw [← lS_one h]
 congr 1
 apply Ps.ext; funext n
 rw [con_mul, co_one, co_pS]
 by_cases e : n = 0
 ·rw [if_pos e, e]
  show ke h _ * ke h (ix 0 p 0) = 1
  rw [← ke_mul, show mulF f (invF f (ix 0 p 0)) (ix 0 p 0) = 1 from ?_, ke_one]
  have r1 := h.1.mulF_lt (invF f (ix 0 p 0)) (ix 0 p 0)
  have hq := h.1.bd
  refine ke_inj h r1.1 r1.2 (by omega) (by omega) ?_
  rw [ke_mul, Fi.mul_comm, ← ke_mul, hs.1]
 ·rw [if_neg e, ix_out p (by omega), ke_zero, Fi.mul_zero]
theorem InvI.scale {X Y : L3} {i : Int} (C : c.InvI hF X Y i) (hkn : c.k ≤ c.n) (hB : c.LB X 163840) (hX : ∀ a m : Int, 0 ≤ a → a < c.k → a < m → m < c.n → eL X a m = []) (i0 : 0 ≤ i) (i1 : i < c.k) (hl : (eL X i i).length = 1) (hx : inF c.F (ix 0 (eL X i i) 0) ≠ 0) :
  c.InvJ hF X (Y.map fun r => r.set i.toNat (sclP hF (invF c.F (ix 0 (eL Y i i) 0)) (ix [] r i))) i 0 := by
 have hin : i < c.n := by omega
 have hii := C.kp i i i0 (by omega) (Int.le_refl i) hin
 have e : ∀ a m : Int, 0 ≤ a → a < c.k + c.n → 0 ≤ m → _ := fun a m a0 a1 m0 => eL_set C.ln (fun r => sclP hF (invF c.F (ix 0 (eL Y i i) 0)) (ix [] r i)) i0 hin (a := a) (m := m) a0 a1 m0
 refine ⟨?_, fun a m a0 a1 m0 m1 => ?_, ?_, fun m m0 m1 => by omega, fun a m a0 a1 h1 h2 => ?_, fun a a0 a1 => ?_, fun a m a0 a1 m0 m1 => ?_⟩
 ·refine C.ln.col (i := i) (fun r => sclP hF (invF c.F (ix 0 (eL Y i i) 0)) (ix [] r i)) (con (ke hF (invF c.F (ix 0 (eL Y i i) 0)))) 0 i0 hin i0 hin fun a a0 a1 => ⟨lS_cn hF _, ?_⟩
  rw [pS_scl, Ri.zero_mul, Ri.add_zero]; rfl
 ·rw [e a m a0 (by omega) m0]
  split
  ·rename_i h
   have := C.lo a i a0 a1 i0 hin
   rw [if_neg (by omega)] at this
   show sclP hF _ (eL Y a i) = _
   rw [this, sclP_nil, if_neg (by omega)]
  ·exact C.lo a m a0 a1 m0 m1
 ·rw [e i i i0 (by omega) i0, if_pos rfl]
  show sclP hF (invF c.F (ix 0 (eL Y i i) 0)) (eL Y i i) = [1]
  rw [hii]; exact sclP_inv hF hl hx
 ·rw [e a m a0 a1 (by omega), if_neg (by omega)]
  exact C.kp a m a0 a1 (by omega) h2
 ·rw [e a i a0 a1 i0, if_pos rfl]
  have h1 := sclP_len hF (invF c.F (ix 0 (eL Y i i) 0)) (eL Y a i)
  have h2 := C.kp a i a0 a1 (Int.le_refl i) hin
  have h3 := hB a i a0 a1 i0 hin
  rw [← h2] at h3
  show (sclP hF _ (eL Y a i)).length ≤ _
  omega
 ·rw [e a m a0 a1 m0, if_neg (by omega), if_neg (by omega)]
  exact C.lb a m a0 a1 m0 m1
theorem InvJ.next {X Y : L3} {i j : Int} (C : c.InvJ hF X Y i j) (hkn : c.k ≤ c.n) (i1 : i < c.k) (j0 : 0 ≤ j) (j1 : j < i) :
  c.InvJ hF X (Y.map fun r => r.set j.toNat (subP hF (ix [] r j) (mulP hF (eL Y i j) (ix [] r i)))) i (j + 1) := by
 have i0 : 0 ≤ i := by omega
 have hin : i < c.n := by omega
 have e : ∀ a m : Int, 0 ≤ a → a < c.k + c.n → 0 ≤ m → _ := fun a m a0 a1 m0 => eL_set C.ln (fun r => subP hF (ix [] r j) (mulP hF (eL Y i j) (ix [] r i))) j0 (by omega) (a := a) (m := m) a0 a1 m0
 refine ⟨?_, fun a m a0 a1 m0 m1 => ?_, ?_, fun m m0 m1 => ?_, fun a m a0 a1 h1 h2 => ?_, fun a a0 a1 => ?_, fun a m a0 a1 m0 m1 => ?_⟩
 ·refine C.ln.col (i := i) (fun r => subP hF (ix [] r j) (mulP hF (eL Y i j) (ix [] r i))) 1 (-(pS hF (eL Y i j))) i0 hin j0 (by omega) fun a a0 a1 => ⟨lS_cn hF _, ?_⟩
  rw [pS_sub, pS_mul, Ri.one_mul, Ri.neg_mul]; rfl
 ·rw [e a m a0 (by omega) m0]
  split
  ·rename_i h
   have := C.lo a i a0 a1 i0 hin
   rw [if_neg (by omega)] at this
   show subP hF (eL Y a j) (mulP hF (eL Y i j) (eL Y a i)) = _
   rw [this, subP_nil hF _ (C.ln.cn a j a0 (by omega) j0 (by omega)), h]
   exact C.lo a j a0 a1 j0 (by omega)
  ·exact C.lo a m a0 a1 m0 m1
 ·rw [e i i i0 (by omega) i0, if_neg (by omega)]; exact C.di
 ·rw [e i m i0 (by omega) m0]
  split
  ·show subP hF (eL Y i j) (mulP hF (eL Y i j) (eL Y i i)) = []
   rw [C.di]; exact subP_self hF _
  ·exact C.dn m m0 (by omega)
 ·rw [e a m a0 a1 (by omega), if_neg (by omega)]
  exact C.kp a m a0 a1 h1 h2
 ·rw [e a i a0 a1 i0, if_neg (by omega)]; exact C.li a a0 a1
 ·rw [e a m a0 a1 m0]
  have h1 := C.lb a m a0 a1 m0 m1
  split
  ·rename_i h
   subst h
   rw [if_pos (by omega)]
   rw [if_neg (by omega)] at h1
   have h2 := C.lb i m i0 (by omega) m0 m1
   rw [if_neg (by omega)] at h2
   have h3 := C.li a a0 a1
   have h4 := subP_len hF (eL Y a m) (mulP hF (eL Y i m) (eL Y a i))
   have h5 := mulP_len hF (eL Y i m) (eL Y a i)
   show (subP hF (eL Y a m) (mulP hF (eL Y i m) (eL Y a i))).length ≤ _
   have h6 : (i + 1 - m).toNat = (i - m).toNat + 1 := by omega
   rw [h6, Nat.mul_add]
   omega
  ·rename_i h
   by_cases h2 : m < j
   ·rw [if_pos h2] at h1; rw [if_pos (by omega)]; exact h1
   ·rw [if_neg h2] at h1; rw [if_neg (by omega)]; exact h1
theorem InvJ.done {X Y : L3} {i j : Int} (C : c.InvJ hF X Y i j) (hkn : c.k ≤ c.n) (hX : ∀ a m : Int, 0 ≤ a → a < c.k → a < m → m < c.n → eL X a m = []) (i0 : 0 ≤ i) (i1 : i < c.k) (hj : j = i) : c.InvI hF X Y (i + 1) where
 ln := C.ln
 lo := fun a m a0 a1 m0 m1 => by
  by_cases h : a = i
  ·rw [h]
   by_cases h2 : m = i
   ·rw [if_pos h2, h2]; exact C.di
   ·rw [if_neg h2]
    by_cases h3 : m < i
    ·exact C.dn m m0 (by omega)
    ·rw [C.kp i m i0 (by omega) (by omega) m1]; exact hX i m i0 i1 (by omega) m1
  ·exact C.lo a m a0 (by omega) m0 m1
 kp := fun a m a0 a1 h1 h2 => C.kp a m a0 a1 (by omega) h2
 lb := fun a m a0 a1 m0 m1 => by
  by_cases h : m = i
  ·rw [h, show (i + 1 - i).toNat = 1 by omega]; exact C.li a a0 a1
  ·have := C.lb a m a0 a1 m0 (by omega)
   rwa [if_pos (by omega)] at this
variable (c hF)
structure RtI (R : L3) : Prop where
 len : (R.length : Int) = c.n
 row : ∀ t, 0 ≤ t → t < c.n → ((ix [] R t).length : Int) = c.k
 cn : ∀ t j, 0 ≤ t → t < c.n → 0 ≤ j → j < c.k → CnL c.F (eL R t j)
 lb : ∀ t j : Int, 0 ≤ t → t < c.n → 0 ≤ j → j < c.k → (eL R t j).length ≤ 491520
 pr : ∀ i j : Int, 0 ≤ i → i < c.k → 0 ≤ j → j < c.k → Lr.sm (fun t => c.cG hF i t * pS hF (eL R t j)) c.n.toNat = if j = i then 1 else 0
variable {c hF}
theorem ix_dropL {α : Type} (d : α) (l : List α) {k : Nat} {i : Int} (i0 : 0 ≤ i) : ix d (List.drop k l) i = ix d l (k + i) := by
 unfold ix
 simp only [List.getD]
 rw [List.getElem?_drop, show ((k : Int) + i).toNat = k + i.toNat by omega]
theorem InvI.done {X Y : L3} (C : c.InvI hF X Y c.k) (hk3 : c.k ≤ 3) (hkn : c.k ≤ c.n) : c.RtI hF ((List.drop c.Gen.length Y).map (List.take c.k.toNat)) := by
 have hik : c.k = (c.Gen.length : Int) := rfl
 have hl := C.ln.len
 have hdl : ((List.drop c.Gen.length Y).length : Int) = c.n := by rw [List.length_drop]; omega
 have e : ∀ t j : Int, 0 ≤ t → t < c.n → 0 ≤ j → j < c.k → eL ((List.drop c.Gen.length Y).map (List.take c.k.toNat)) t j = eL Y (c.k + t) j := fun t j t0 t1 j0 j1 => by
  unfold eL
  rw [ixG_map [] [] _ _ t0 (by omega), ix_dropL [] Y t0, ix_takeL [] _ j0 (by omega), ← hik]
 refine ⟨by rw [List.length_map]; exact hdl, fun t t0 t1 => ?_, fun t j t0 t1 j0 j1 => ?_, fun t j t0 t1 j0 j1 => ?_, fun i j i0 i1 j0 j1 => ?_⟩
 ·have := C.ln.row (c.k + t) (by omega) (by omega)
  rw [ixG_map [] [] _ _ t0 (by omega), ix_dropL [] Y t0, List.length_take, ← hik]; omega
 ·rw [e t j t0 t1 j0 j1]; exact C.ln.cn _ _ (by omega) (by omega) j0 (by omega)
 ·rw [e t j t0 t1 j0 j1]
  have := C.lb (c.k + t) j (by omega) (by omega) j0 j1
  refine Nat.le_trans this ?_
  have : (c.k - j).toNat ≤ 3 := by omega
  calc 163840 * (c.k - j).toNat ≤ 163840 * 3 := Nat.mul_le_mul_left _ this
   _ = 491520 := rfl
 ·rw [Lr.sm_congr (h := fun t => c.cG hF i t * pS hF (eL Y (c.k + t) j)) fun t ht => by rw [e t j (by omega) (by omega) j0 j1], ← C.ln.lin i j i0 i1 j0 (by omega), C.lo i j i0 i1 j0 (by omega)]
  split
  ·exact pS_one hF
  ·exact pS_nil hF
theorem minL_one (hFew : c.Few) (hOk : c.Ok) : c.minL.length = 1 ↔ c.minL = [1] := by
 constructor
 ·intro h
  have hkn := hOk.kn
  have hM := mP_spec (hF := hOk.fld) hFew (first := 0) (cs := []) (by simp) (by omega)
  rw [minL_ok hOk (hF := hOk.fld)] at h ⊢
  rcases hM.2.1 with e | ⟨n, h1, h2⟩
  ·rw [e, lS_zero] at h; simp at h
  ·have ht : Top (c.mP hOk.fld 0 []) n := ⟨by rw [h1]; exact Fi.one_ne, h2⟩
   have := lS_top hOk.fld ht
   have hn : n = 0 := by omega
   subst hn
   rw [← lS_one hOk.fld]
   congr 1
   apply Ps.ext; funext i
   rw [co_one]
   split
   ·rename_i e; rw [e]; exact h1
   ·exact h2 i (by omega)
 ·intro h; rw [h]; rfl
noncomputable def timS (c : Cnv) (hF : FOk c.F) (R : L3) (i j t : Int) : Ps (KF c.F hF) := Lr.sm (fun t => c.cG hF i t * pS hF (eL R t j)) t.toNat
theorem timS_pol (R : L3) (i j t : Int) : Pol (c.timS hF R i j t) := by
 unfold timS
 generalize t.toNat = n
 induction n with
 | zero => exact Pol.zero
 | succ n ih => exact ih.add ((pS_pol hF _).mul (pS_pol hF _))
theorem timS_zero (R : L3) (i j : Int) : lS hF (c.timS hF R i j 0) = [] := lS_zero hF
theorem timS_step (R : L3) (i j : Int) {t : Int} (t0 : 0 ≤ t) : addP hF (lS hF (c.timS hF R i j t)) (mulP hF (ix [] (ix [] c.Gen i) t) (ix [] (ix [] R t) j)) = lS hF (c.timS hF R i j (t + 1)) := by
 unfold addP
 rw [pS_lS hF (timS_pol R i j t), pS_mul]
 unfold timS
 rw [show (t + 1).toNat = t.toNat + 1 by omega]
 show _ = lS hF (_ + c.cG hF i (t.toNat : Int) * pS hF (eL R (t.toNat : Int) j))
 rw [show ((t.toNat : Nat) : Int) = t by omega]; rfl
theorem timS_len (hFew : c.Few) {R : L3} (T : c.RtI hF R) (i : Int) {j : Int} (j0 : 0 ≤ j) (j1 : j < c.k) {t : Int} (t1 : t ≤ c.n) : (lS hF (c.timS hF R i j t)).length ≤ 491559 := by
 refine lS_len hF ?_
 unfold timS
 refine lr_low fun z hz => ?_
 have := (Few.pol c hF hFew i z).mul (pS_low' hF (eL R z j) 491520 (T.lb z j (by omega) (by omega) j0 j1))
 exact this.mono (by omega)
theorem timS_done {R : L3} (T : c.RtI hF R) {i j : Int} (i0 : 0 ≤ i) (i1 : i < c.k) (j0 : 0 ≤ j) (j1 : j < c.k) : lS hF (c.timS hF R i j c.n) = if j = i then [1] else [] := by
 unfold timS
 rw [T.pr i j i0 i1 j0 j1]
 split
 ·exact lS_one hF
 ·exact lS_zero hF
noncomputable def timL (c : Cnv) (hF : FOk c.F) (R : L3) : L3 := mapR (fun i => mapR (fun j => lS hF (c.timS hF R i j c.n)) c.k) c.k
end Cnv
end
end Go.Cw
