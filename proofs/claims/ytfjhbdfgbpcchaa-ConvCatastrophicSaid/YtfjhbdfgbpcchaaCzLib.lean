/-
  Rules of a calculus for walks.
-/
import Derived.Test.YtfjhbdfgbpcchaaCyLib
set_option linter.unnecessarySimpa false
namespace Go.Cw
set_option linter.unusedSimpArgs false
set_option linter.unusedVariables false
section
variable {P : Program} {E : Env} {st : St} {Q : Exit → Act → World → Prop} {ops : Array Oper} {rest : List Oper} {s : List (Nat × AV)} {own : List Own}
variable {d : Nat} {ty : TypeId} {pos : String} {af : Array Edge} {g : Option (Nat × Bool)}
theorem OO_congr {own own' : List Own} (h : ∀ o, o ∈ own' ↔ o ∈ own) : OO E own' = OO E own := by
 funext b
 apply propext
 exact ⟨fun hb => hb.imp id fun ⟨o, ho, hob⟩ => ⟨o, (h o).1 ho, hob⟩, fun hb => hb.imp id fun ⟨o, ho, hob⟩ => ⟨o, (h o).2 ho, hob⟩⟩
theorem ent_perm {K : Act → World → Prop} (own' : List Own) (hp : own'.Perm st.own) (h : Ent E ⟨st.slots, own'⟩ K) : Ent E st K := by
 intro a w r
 have hm : ∀ o, o ∈ own' ↔ o ∈ st.own := fun o => hp.mem_iff
 have hO := OO_congr (E := E) hm
 refine h a w ⟨r.size, r.defers, fun i A hi => ?_, fun o ho => ?_, ?_, fun o ho => r.free o ((hm o).1 ho), r.xold, r.keep⟩
 ·obtain ⟨v, h1, h2⟩ := r.slots i A hi
  exact ⟨v, h1, by show A.holds _ (OO E own') v; rw [hO]; exact h2⟩
 ·show o.holds _ (OO E own'); rw [hO]; exact r.own o ((hm o).1 ho)
 ·exact (hp.pairwise_iff (fun {o o'} h b h1 h2 => h b h2 h1)).2 r.apart
theorem perm_ix {own : List Own} (is : List Nat) (h : is.Perm (List.range own.length)) : (is.filterMap (own[·]?)).Perm own := by
 have e : (List.range own.length).filterMap (own[·]?) = own := by
  apply List.ext_getElem?
  intro i
  clear h is
  induction own generalizing i with
  | nil => rfl
  | cons o l ih =>
   rw [List.length_cons, List.range_succ_eq_map, List.filterMap_cons]
   simp only [List.getElem?_cons_zero]
   rw [List.filterMap_map]
   have : ((fun x => (o :: l)[x]?) ∘ Nat.succ) = (fun x => l[x]?) := by funext x; simp
   rw [this]
   cases i with
   | zero => rfl
   | succ i => simpa using ih i
 exact (h.filterMap _).trans (by rw [e])
theorem Touch.refl (o : Own) (w : World) : Touch o w w := ⟨rfl, rfl, rfl, Nat.le_refl _, fun _ _ _ => rfl⟩
theorem Own.less {o : Own} {h : Heap} {O O' : Nat → Prop} (ho : o.holds h O) (hO : ∀ b, O' b → O b) : o.holds h O' := o.mono _ _ _ _ ho (Nat.le_refl _) (fun _ _ _ => rfl) (fun b _ hb => hO b hb)
theorem ent_asO {K : Act → World → Prop} (k : Nat) {o : Own} (o' : Own) (hk : st.own[k]? = some o) (hb : ∀ b, o'.has b → o.has b) (hh : ∀ h O, o.holds h O → o'.holds h O)
  (h : Ent E ⟨st.slots, st.own.set k o'⟩ K) : Ent E st K := by
 intro a w r
 refine h a w (r.change hk (Touch.refl _ _) (fun b hb' => .inl (hb b hb')) (hh _ _ (Own.less (r.own o (List.mem_of_getElem? hk)) ?_)))
 rintro b (hb' | ⟨o2, ho2, hb'⟩)
 ·exact .inl hb'
 ·rcases List.mem_or_eq_of_mem_set ho2 with h2 | h2
  ·exact .inr ⟨o2, h2, hb'⟩
  ·subst h2; exact .inr ⟨o, List.mem_of_getElem? hk, hb b hb'⟩
theorem ent_split {K : Act → World → Prop} (k : Nat) {o : Own} (o1 o2 : Own) (hk : st.own[k]? = some o) (hb1 : ∀ b, o1.has b → o.has b) (hb2 : ∀ b, o2.has b → o.has b)
  (hh : ∀ h O, o.holds h O → o1.holds h O ∧ o2.holds h O ∧ ∀ b, o1.has b → ¬ o2.has b) (h : Ent E ⟨st.slots, o2 :: st.own.set k o1⟩ K) : Ent E st K := by
 intro a w r
 have hmem := List.mem_of_getElem? hk
 have hsub : ∀ b, OO E (o2 :: st.own.set k o1) b → OO E st.own b := by
  rintro b (hb' | ⟨o3, ho3, hb'⟩)
  ·exact .inl hb'
  ·cases ho3 with
   | head => exact .inr ⟨o, hmem, hb2 b hb'⟩
   | tail _ ho3 =>
    rcases List.mem_or_eq_of_mem_set ho3 with h2 | h2
    ·exact .inr ⟨o3, h2, hb'⟩
    ·subst h2; exact .inr ⟨o, hmem, hb1 b hb'⟩
 obtain ⟨q1, q2, q3⟩ := hh _ _ (r.own o hmem)
 have r2 := r.change (o' := o1) hk (Touch.refl _ _) (fun b hb' => .inl (hb1 b hb')) (Own.less q1 fun b hb => hsub b (hb.imp id fun ⟨o3, h3, h4⟩ => ⟨o3, .tail _ h3, h4⟩))
 refine h a w ⟨r.size, r.defers, fun i A hi => ?_, fun o3 ho3 => ?_, List.Pairwise.cons (fun o3 ho3 b h1 h2 => ?_) r2.apart, fun o3 ho3 => ?_, r.xold, r.keep⟩
 ·obtain ⟨v, h1, h2⟩ := r.slots i A hi
  exact ⟨v, h1, AV.less h2 fun b _ hb => hsub b hb⟩
 ·cases ho3 with
  | head => exact Own.less q2 hsub
  | tail _ ho3 =>
   rcases List.mem_or_eq_of_mem_set ho3 with h2 | h2
   ·exact Own.less (r.own o3 h2) hsub
   ·subst h2; exact Own.less q1 hsub
 ·obtain ⟨i, hi, rfl⟩ := List.getElem_of_mem ho3
  rw [List.length_set] at hi
  by_cases hik : i = k
  ·subst hik
   rw [List.getElem_set_self] at h2
   exact q3 b h2 h1
  ·rw [List.getElem_set_ne (Ne.symm hik)] at h2
   have hap := List.pairwise_iff_getElem.1 r.apart
   have hkl : k < st.own.length := (List.getElem?_eq_some_iff.1 hk).1
   have hke : st.own[k] = o := (List.getElem?_eq_some_iff.1 hk).2
   rcases Nat.lt_or_gt_of_ne hik with h' | h'
   ·exact hap i k hi hkl h' b h2 (by rw [hke]; exact hb2 b h1)
   ·exact hap k i hkl hi h' b (by rw [hke]; exact hb2 b h1) h2
 ·cases ho3 with
  | head => exact fun b hb => r.free o hmem b (hb2 b hb)
  | tail _ ho3 => exact r2.free o3 ho3
theorem Rep.apart2 {a : Act} {w : World} (r : Rep E st a w) {i j : Nat} {o o' : Own} (hi : st.own[i]? = some o) (hj : st.own[j]? = some o') (hne : i ≠ j) : ∀ b, o.has b → ¬ o'.has b := by
 intro b h1 h2
 have hap := List.pairwise_iff_getElem.1 r.apart
 obtain ⟨hil, hie⟩ := List.getElem?_eq_some_iff.1 hi
 obtain ⟨hjl, hje⟩ := List.getElem?_eq_some_iff.1 hj
 rcases Nat.lt_or_gt_of_ne hne with h' | h'
 ·exact hap i j hil hjl h' b (by rw [hie]; exact h1) (by rw [hje]; exact h2)
 ·exact hap j i hjl hil h' b (by rw [hje]; exact h2) (by rw [hie]; exact h1)
theorem get_erase (l : List Own) (k i : Nat) (hi : i < (l.eraseIdx k).length) : ∃ p, l[p]? = some (l.eraseIdx k)[i] ∧ p ≠ k ∧ p = (if i < k then i else i + 1) := by
 refine ⟨if i < k then i else i + 1, ?_, ?_, rfl⟩
 ·have h := List.getElem?_eraseIdx (l := l) (i := k) (j := i)
  rw [List.getElem?_eq_getElem hi] at h
  rw [h]; split <;> rfl
 ·split <;> omega
theorem ent_join {K : Act → World → Prop} (k1 k2 : Nat) {o1 o2 : Own} (o' : Own) (hk1 : st.own[k1]? = some o1) (hk2 : st.own[k2]? = some o2) (hne : k1 ≠ k2) (hb : ∀ b, o'.has b → o1.has b ∨ o2.has b)
  (hh : ∀ h O, o1.holds h O → o2.holds h O → (∀ b, o1.has b → ¬ o2.has b) → o'.holds h O) (h : Ent E ⟨st.slots, (st.own.set k1 o').eraseIdx k2⟩ K) : Ent E st K := by
 intro a w r
 have hm1 := List.mem_of_getElem? hk1
 have hm2 := List.mem_of_getElem? hk2
 have hl1 : k1 < st.own.length := (List.getElem?_eq_some_iff.1 hk1).1
 have hmem : ∀ o3, o3 ∈ (st.own.set k1 o').eraseIdx k2 → o3 = o' ∨ ∃ i, i ≠ k1 ∧ i ≠ k2 ∧ st.own[i]? = some o3 := by
  intro o3 ho3
  obtain ⟨i, hi, hio⟩ := List.mem_eraseIdx_iff_getElem.1 ho3
  obtain ⟨hne2, rfl⟩ := hio
  by_cases hik : i = k1
  ·subst hik; left; rw [List.getElem_set_self]
  ·right
   rw [List.length_set] at hi
   exact ⟨i, hik, hne2, by rw [List.getElem_set_ne (Ne.symm hik)]; exact List.getElem?_eq_getElem hi⟩
 have hsub : ∀ b, OO E ((st.own.set k1 o').eraseIdx k2) b → OO E st.own b := by
  rintro b (hb' | ⟨o3, ho3, hb'⟩)
  ·exact .inl hb'
  ·rcases hmem o3 ho3 with rfl | ⟨i, _, _, hi⟩
   ·rcases hb b hb' with h2 | h2
    ·exact .inr ⟨o1, hm1, h2⟩
    ·exact .inr ⟨o2, hm2, h2⟩
   ·exact .inr ⟨o3, List.mem_of_getElem? hi, hb'⟩
 refine h a w ⟨r.size, r.defers, fun i A hi => ?_, fun o3 ho3 => ?_, ?_, fun o3 ho3 b hb' => ?_, r.xold, r.keep⟩
 ·obtain ⟨v, h1, h2⟩ := r.slots i A hi
  exact ⟨v, h1, AV.less h2 fun b _ hb => hsub b hb⟩
 ·rcases hmem o3 ho3 with rfl | ⟨i, _, _, hi⟩
  ·exact Own.less (hh _ _ (r.own _ hm1) (r.own _ hm2) (r.apart2 hk1 hk2 hne)) hsub
  ·exact Own.less (r.own _ (List.mem_of_getElem? hi)) hsub
 ·rw [List.pairwise_iff_getElem]
  intro i j hi hj hij b h1 h2
  obtain ⟨p, hp, hpk, hpe⟩ := get_erase _ _ _ hi
  obtain ⟨q, hq, hqk, hqe⟩ := get_erase _ _ _ hj
  have hpq : p ≠ q := by
   rw [hpe, hqe]; split <;> split <;> omega
  rw [List.getElem?_set] at hp hq
  by_cases hpk1 : k1 = p
  ·rw [if_pos hpk1, if_pos (by omega)] at hp
   rw [if_neg (by omega)] at hq
   have hp' := Option.some.inj hp
   rw [← hp'] at h1
   rcases hb b h1 with h3 | h3
   ·exact r.apart2 hk1 hq (by omega) b h3 h2
   ·exact r.apart2 hk2 hq (by omega) b h3 h2
  ·rw [if_neg hpk1] at hp
   by_cases hqk1 : k1 = q
   ·rw [if_pos hqk1, if_pos (by omega)] at hq
    have hq' := Option.some.inj hq
    rw [← hq'] at h2
    rcases hb b h2 with h3 | h3
    ·exact r.apart2 hk1 hp (by omega) b h3 h1
    ·exact r.apart2 hk2 hp (by omega) b h3 h1
   ·rw [if_neg hqk1] at hq
    exact r.apart2 hp hq hpq b h1 h2
 ·rcases hmem o3 ho3 with rfl | ⟨i, _, _, hi⟩
  ·rcases hb b hb' with h2 | h2
   ·exact r.free _ hm1 b h2
   ·exact r.free _ hm2 b h2
  ·exact r.free _ (List.mem_of_getElem? hi) b hb'
theorem ent_frz {K : Act → World → Prop} (k1 k2 : Nat) {o1 o2 : Own} (o' : Own) (hk1 : st.own[k1]? = some o1) (hk2 : st.own[k2]? = some o2) (hne : k1 ≠ k2) (hb : ∀ b, o'.has b → o1.has b)
  (hh : ∀ h O O', o1.holds h O → o2.holds h O → (∀ b, O' b → O b) → (∀ b, O' b → ¬ o2.has b) → o'.holds h O') (h : Ent E ⟨st.slots, (st.own.set k1 o').eraseIdx k2⟩ K) : Ent E st K := by
 intro a w r
 have hm1 := List.mem_of_getElem? hk1
 have hm2 := List.mem_of_getElem? hk2
 have hl1 : k1 < st.own.length := (List.getElem?_eq_some_iff.1 hk1).1
 have hmem : ∀ o3, o3 ∈ (st.own.set k1 o').eraseIdx k2 → o3 = o' ∨ ∃ i, i ≠ k1 ∧ i ≠ k2 ∧ st.own[i]? = some o3 := by
  intro o3 ho3
  obtain ⟨i, hi, hio⟩ := List.mem_eraseIdx_iff_getElem.1 ho3
  obtain ⟨hne2, rfl⟩ := hio
  by_cases hik : i = k1
  ·subst hik; left; rw [List.getElem_set_self]
  ·right
   rw [List.length_set] at hi
   exact ⟨i, hik, hne2, by rw [List.getElem_set_ne (Ne.symm hik)]; exact List.getElem?_eq_getElem hi⟩
 have hsub : ∀ b, OO E ((st.own.set k1 o').eraseIdx k2) b → OO E st.own b ∧ ¬ o2.has b := by
  rintro b (hb' | ⟨o3, ho3, hb'⟩)
  ·exact ⟨.inl hb', fun h2 => (r.free o2 hm2 b h2).1 hb'⟩
  ·rcases hmem o3 ho3 with rfl | ⟨i, _, hi2, hi⟩
   ·exact ⟨.inr ⟨o1, hm1, hb b hb'⟩, r.apart2 hk1 hk2 hne b (hb b hb')⟩
   ·exact ⟨.inr ⟨o3, List.mem_of_getElem? hi, hb'⟩, r.apart2 hi hk2 hi2 b hb'⟩
 have r2 := r.change (o' := o1) hk1 (Touch.refl _ _) (fun b hb' => .inl hb') (Own.less (r.own o1 hm1) fun b hb => by
  rcases hb with hb | ⟨o3, h3, h4⟩
  ·exact .inl hb
  ·rcases List.mem_or_eq_of_mem_set h3 with h5 | h5
   ·exact .inr ⟨o3, h5, h4⟩
   ·subst h5; exact .inr ⟨_, hm1, h4⟩)
 refine h a w ⟨r.size, r.defers, fun i A hi => ?_, fun o3 ho3 => ?_, ?_, fun o3 ho3 b hb' => ?_, r.xold, r.keep⟩
 ·obtain ⟨v, h1, h2⟩ := r.slots i A hi
  exact ⟨v, h1, AV.less h2 fun b _ hb => (hsub b hb).1⟩
 ·rcases hmem o3 ho3 with rfl | ⟨i, _, _, hi⟩
  ·exact hh _ _ _ (r.own _ hm1) (r.own _ hm2) (fun b hb => (hsub b hb).1) (fun b hb => (hsub b hb).2)
  ·exact Own.less (r.own _ (List.mem_of_getElem? hi)) (fun b hb => (hsub b hb).1)
 ·rw [List.pairwise_iff_getElem]
  intro i j hi hj hij b h1 h2
  obtain ⟨p, hp, hpk, hpe⟩ := get_erase _ _ _ hi
  obtain ⟨q, hq, hqk, hqe⟩ := get_erase _ _ _ hj
  have hpq : p ≠ q := by
   rw [hpe, hqe]; split <;> split <;> omega
  rw [List.getElem?_set] at hp hq
  by_cases hpk1 : k1 = p
  ·rw [if_pos hpk1, if_pos (by omega)] at hp
   rw [if_neg (by omega)] at hq
   have hp' := Option.some.inj hp
   rw [← hp'] at h1
   exact r.apart2 hk1 hq (by omega) b (hb b h1) h2
  ·rw [if_neg hpk1] at hp
   by_cases hqk1 : k1 = q
   ·rw [if_pos hqk1, if_pos (by omega)] at hq
    have hq' := Option.some.inj hq
    rw [← hq'] at h2
    exact r.apart2 hk1 hp (by omega) b (hb b h2) h1
   ·rw [if_neg hqk1] at hq
    exact r.apart2 hp hq hpq b h1 h2
 ·rcases hmem o3 ho3 with rfl | ⟨i, _, _, hi⟩
  ·exact r.free _ hm1 b (hb b hb')
  ·exact r.free _ (List.mem_of_getElem? hi) b hb'
theorem ent_ghost {K : Act → World → Prop} (o : Own) (hb : ∀ b, ¬ o.has b) (ho : ∀ h O, o.holds h O) (h : Ent E ⟨st.slots, o :: st.own⟩ K) : Ent E st K := by
 intro a w r
 have hO : ∀ b, OO E (o :: st.own) b → OO E st.own b := by
  rintro b (hb' | ⟨o3, ho3, hb'⟩)
  ·exact .inl hb'
  ·cases ho3 with
   | head => exact absurd hb' (hb b)
   | tail _ h => exact .inr ⟨o3, h, hb'⟩
 refine h a w ⟨r.size, r.defers, fun i A hi => ?_, fun o3 ho3 => ?_, List.Pairwise.cons (fun o3 _ b h1 _ => hb b h1) r.apart, fun o3 ho3 b hb' => ?_, r.xold, r.keep⟩
 ·obtain ⟨v, h1, h2⟩ := r.slots i A hi
  exact ⟨v, h1, AV.less h2 fun b _ hb => hO b hb⟩
 ·cases ho3 with
  | head => exact ho _ _
  | tail _ h => exact Own.less (r.own o3 h) hO
 ·cases ho3 with
  | head => exact absurd hb' (hb b)
  | tail _ h => exact r.free o3 h b hb'
structure Hdr where
 r : Option Nat
 n : Nat
 cap : Nat
def Hdr.val (H : Hdr) : Value := vec H.r H.n H.cap
def Hdr.no : Hdr := ⟨none, 0, 0⟩
abbrev aH (H : Hdr) : AV := aEx H.val
def oRws {α : Type} (er : TypeId) (enc : α → AV) (S : List Nat) (Hs : List Hdr) (xss : List (List α)) : Own where
 has b := ∃ i H, i ∉ S ∧ Hs[i]? = some H ∧ H.r = some b
 holds h O := Hs.length = xss.length ∧ (∀ (i : Nat) (H : Hdr), i ∉ S → Hs[i]? = some H → ∃ xs, xss[i]? = some xs ∧ H.n = xs.length ∧ (oVec H.r H.cap er 1 false enc xs).holds h O) ∧
  (∀ (i j : Nat) (H H' : Hdr), i ∉ S → j ∉ S → i ≠ j → Hs[i]? = some H → Hs[j]? = some H' → ∀ b, H.r = some b → H'.r ≠ some b)
 mono := by
  rintro h h' O O' ⟨h0, h1, h2⟩ hs hb ho
  refine ⟨h0, fun i H hi hH => ?_, h2⟩
  obtain ⟨xs, g1, g2, g3⟩ := h1 i H hi hH
  exact ⟨xs, g1, g2, (oVec H.r H.cap er 1 false enc xs).mono _ _ _ _ g3 hs (fun b hlt hn => hb b hlt (hn.imp id fun hn => ⟨i, H, hi, hH, hn⟩)) ho⟩
 lt := by
  rintro h O b ⟨h0, h1, h2⟩ ⟨i, H, hi, hH, hn⟩
  obtain ⟨xs, g1, g2, g3⟩ := h1 i H hi hH
  exact (oVec H.r H.cap er 1 false enc xs).lt h O b g3 hn
section
variable {α : Type} {er : TypeId} {enc : α → AV} {S : List Nat} {Hs : List Hdr} {xss : List (List α)} {n : Int}
theorem rws_get {h : Heap} {O : Nat → Prop} (ho : (oRws er enc S Hs xss).holds h O) (h0 : 0 ≤ n) (h1 : n < xss.length) (hS : n.toNat ∉ S) :
  Hs[n.toNat]? = some (ix Hdr.no Hs n) ∧ xss[n.toNat]? = some (ix [] xss n) ∧ (ix Hdr.no Hs n).n = (ix [] xss n).length ∧ (oVec (ix Hdr.no Hs n).r (ix Hdr.no Hs n).cap er 1 false enc (ix [] xss n)).holds h O := by
 obtain ⟨g0, g1, g2⟩ := ho
 have e1 := ix_get Hdr.no Hs n h0 (by omega)
 have e2 := ix_get [] xss n h0 h1
 obtain ⟨xs, k1, k2, k3⟩ := g1 _ _ hS e1
 rw [e2] at k1
 cases k1
 exact ⟨e1, e2, k2, k3⟩
theorem ent_rows0 {K : Act → World → Prop} (er : TypeId) (enc : α → AV) (h : Ent E ⟨st.slots, oRws er enc [] [] [] :: st.own⟩ K) : Ent E st K :=
 ent_ghost (oRws er enc [] [] []) (fun b ⟨i, H, _, h, _⟩ => by simp at h) (fun h O => ⟨rfl, fun i H _ h => by simp at h, fun i j H H' _ _ _ h => by simp at h⟩) h
theorem ent_takeRow {K : Act → World → Prop} (k : Nat) (n : Int) (hk : st.own[k]? = some (oRws er enc S Hs xss)) (h0 : 0 ≤ n) (h1 : n < xss.length) (hS : n.toNat ∉ S)
  (h : (ix Hdr.no Hs n).n = (ix [] xss n).length → Ent E ⟨st.slots, oVec (ix Hdr.no Hs n).r (ix Hdr.no Hs n).cap er 1 false enc (ix [] xss n) :: st.own.set k (oRws er enc (n.toNat :: S) Hs xss)⟩ K) : Ent E st K := by
 intro a w r
 have hn := (rws_get (r.own _ (List.mem_of_getElem? hk)) h0 h1 hS).2.2.1
 have hH := (rws_get (r.own _ (List.mem_of_getElem? hk)) h0 h1 hS).1
 refine ent_split k (oRws er enc (n.toNat :: S) Hs xss) _ hk ?_ ?_ ?_ (h hn) a w r
 ·rintro b ⟨i, H, hi, hH, hb⟩
  exact ⟨i, H, fun hi' => hi (.tail _ hi'), hH, hb⟩
 ·intro b hb
  exact ⟨_, _, hS, hH, hb⟩
 ·intro h O ho
  have g := rws_get ho h0 h1 hS
  refine ⟨⟨ho.1, fun i H hi hH => ho.2.1 i H (fun hi' => hi (.tail _ hi')) hH, fun i j H H' hi hj => ho.2.2 i j H H' (fun hi' => hi (.tail _ hi')) (fun hi' => hj (.tail _ hi'))⟩, g.2.2.2, ?_⟩
  rintro b ⟨i, H, hi, hH, hb⟩ hb'
  exact ho.2.2 i n.toNat H _ (fun hi' => hi (.tail _ hi')) hS (fun e => hi (by rw [e]; exact List.mem_cons_self)) hH g.1 b hb hb'
theorem get_set {β : Type} {l : List β} {i j : Nat} {x y : β} (h : (l.set i x)[j]? = some y) : (i = j ∧ y = x) ∨ (i ≠ j ∧ l[j]? = some y) := by
 rw [List.getElem?_set] at h
 by_cases hij : i = j
 ·rw [if_pos hij] at h
  split at h
  ·exact .inl ⟨hij, (Option.some.inj h).symm⟩
  ·cases h
 ·rw [if_neg hij] at h
  exact .inr ⟨hij, h⟩
theorem ent_putRow {K : Act → World → Prop} (k k2 : Nat) (n : Int) {r : Option Nat} {cap m : Nat} {ys : List α} (S' : List Nat) (hk : st.own[k]? = some (oRws er enc S Hs xss)) (hk2 : st.own[k2]? = some (oVec r cap er 1 false enc ys)) (hne : k ≠ k2)
  (hS : ∀ j, j ∈ S → j = n.toNat ∨ j ∈ S') (hm : m = ys.length) (h : Ent E ⟨st.slots, (st.own.set k (oRws er enc S' (Hs.set n.toNat ⟨r, m, cap⟩) (xss.set n.toNat ys))).eraseIdx k2⟩ K) : Ent E st K := by
 refine ent_join k k2 _ hk hk2 hne ?_ ?_ h
 ·rintro b ⟨i, H, hi, hH, hb⟩
  rcases get_set hH with ⟨_, rfl⟩ | ⟨hin, hH⟩
  ·exact .inr hb
  ·exact .inl ⟨i, H, fun hi' => (hS i hi').elim (fun e => hin e.symm) hi, hH, hb⟩
 ·rintro h O ⟨g0, g1, g2⟩ hv hap
  refine ⟨by simp [g0], fun i H hi hH => ?_, fun i j H H' hi hj hij hH hH' b hb hb' => ?_⟩
  ·rcases get_set hH with ⟨rfl, rfl⟩ | ⟨hin, hH2⟩
   ·refine ⟨ys, ?_, hm, hv⟩
    have hl : n.toNat < (Hs.set n.toNat ⟨r, m, cap⟩).length := (List.getElem?_eq_some_iff.1 hH).1
    rw [List.getElem?_set_self (by simpa [g0] using hl)]
   ·obtain ⟨xs, k1, k2, k3⟩ := g1 i H (fun hi' => (hS i hi').elim (fun e => hin e.symm) hi) hH2
    exact ⟨xs, by rw [List.getElem?_set_ne hin]; exact k1, k2, k3⟩
  ·rcases get_set hH with ⟨e1, rfl⟩ | ⟨hin, hH2⟩
   ·rcases get_set hH' with ⟨e2, _⟩ | ⟨hjn, hH3⟩
    ·exact hij (e1.symm.trans e2)
    ·exact hap b ⟨j, H', fun hj' => (hS j hj').elim (fun e => hjn e.symm) hj, hH3, hb'⟩ hb
   ·rcases get_set hH' with ⟨e2, rfl⟩ | ⟨hjn, hH3⟩
    ·exact hap b ⟨i, H, fun hi' => (hS i hi').elim (fun e => hin e.symm) hi, hH2, hb⟩ hb'
    ·exact g2 i j H H' (fun hi' => (hS i hi').elim (fun e => hin e.symm) hi) (fun hj' => (hS j hj').elim (fun e => hjn e.symm) hj) hij hH2 hH3 b hb hb'
theorem ent_pushRow {K : Act → World → Prop} (k k2 : Nat) {r : Option Nat} {cap m : Nat} {ys : List α} (hk : st.own[k]? = some (oRws er enc [] Hs xss)) (hk2 : st.own[k2]? = some (oVec r cap er 1 false enc ys)) (hne : k ≠ k2)
  (hm : m = ys.length) (h : Ent E ⟨st.slots, (st.own.set k (oRws er enc [] (Hs ++ [⟨r, m, cap⟩]) (xss ++ [ys]))).eraseIdx k2⟩ K) : Ent E st K := by
 have get_app : ∀ {i : Nat} {H : Hdr}, (Hs ++ [⟨r, m, cap⟩])[i]? = some H → Hs[i]? = some H ∨ (i = Hs.length ∧ H = ⟨r, m, cap⟩) := by
  intro i H hH
  rw [List.getElem?_append] at hH
  split at hH
  ·exact .inl hH
  ·rename_i hlt
   right
   have hz : i - Hs.length = 0 := by
    have := (List.getElem?_eq_some_iff.1 hH).1
    simp at this; omega
   rw [hz] at hH
   exact ⟨by omega, (Option.some.inj hH).symm⟩
 refine ent_join k k2 _ hk hk2 hne ?_ ?_ h
 ·rintro b ⟨i, H, hi, hH, hb⟩
  rcases get_app hH with hH | ⟨_, rfl⟩
  ·exact .inl ⟨i, H, hi, hH, hb⟩
  ·exact .inr hb
 ·rintro h O ⟨g0, g1, g2⟩ hv hap
  refine ⟨by simp [g0], fun i H hi hH => ?_, fun i j H H' hi hj hij hH hH' b hb hb' => ?_⟩
  ·rcases get_app hH with hH2 | ⟨rfl, rfl⟩
   ·obtain ⟨xs, k1, k2, k3⟩ := g1 i H hi hH2
    exact ⟨xs, by rw [List.getElem?_append_left (List.getElem?_eq_some_iff.1 k1).1]; exact k1, k2, k3⟩
   ·exact ⟨ys, by rw [g0]; simp, hm, hv⟩
  ·rcases get_app hH with hH2 | ⟨rfl, rfl⟩
   ·rcases get_app hH' with hH3 | ⟨rfl, rfl⟩
    ·exact g2 i j H H' hi hj hij hH2 hH3 b hb hb'
    ·exact hap b ⟨i, H, hi, hH2, hb⟩ hb'
   ·rcases get_app hH' with hH3 | ⟨rfl, rfl⟩
    ·exact hap b ⟨j, H', hj, hH3, hb'⟩ hb
    ·exact hij rfl
end
end
section
variable {P : Program} {E : Env} {st : St} {Q : Exit → Act → World → Prop} {ops : Array Oper} {rest : List Oper} {s : List (Nat × AV)} {own : List Own}
variable {d : Nat} {ty : TypeId} {pos : String} {af : Array Edge} {g : Option (Nat × Bool)}
variable {α : Type} {er : TypeId} {enc : α → AV} {S : List Nat} {Hs : List Hdr} {xss : List (List α)} {n : Int}
def Hdr.at (H : Hdr) (j : Int) : Value := .pointer (some ⟨H.r.getD 0, j.toNat * 1, none⟩)
theorem vec_some {r : Option Nat} {cap : Nat} {e : TypeId} {xs : List α} {h : Heap} {O : Nat → Prop} (ho : (oVec r cap e 1 false enc xs).holds h O) (hne : 0 < xs.length) : r = some (r.getD 0) := by
 obtain ⟨_, _, q⟩ := ho
 rcases q with ⟨_, hx, _⟩ | ⟨b, cur, hb, _⟩
 ·rw [hx] at hne; simp at hne
 ·rw [hb]; rfl
theorem ok_indexH {T e : TypeId} {x i : Operand} {k : Nat} {j : Int} (hs : SlInfo P T e 1) (hk : own[k]? = some (oRws er enc S Hs xss)) (hx : opd s x = some (aH (ix Hdr.no Hs n))) (hi : opd s i = some (aInt j))
  (h0 : 0 ≤ n) (h1 : n < xss.length) (hS : n.toNat ∉ S) (h2 : 0 ≤ j) (h3 : j < (ix [] xss n).length) : OpOK P E s own ⟨some d, .indexAddr T x i, ty, pos, af, g⟩ (aEx ((ix Hdr.no Hs n).at j)) := by
 intro a w r K Q hK
 obtain ⟨_, _, hn, hv⟩ := rws_get (r.world.own _ (List.mem_of_getElem? hk)) h0 h1 hS
 have hr := vec_some hv (by omega)
 have hx' : opd s x = some (aEx (vec (some ((ix Hdr.no Hs n).r.getD 0)) (ix Hdr.no Hs n).n (ix Hdr.no Hs n).cap)) := by
  rw [hx, ← hr]; rfl
 exact ok_indexV (P := P) (E := E) (s := s) (own := own) (d := d) (ty := ty) (pos := pos) (af := af) (g := g) hs hx' hi h2 (by rw [hn]; exact h3) a w r K Q hK
theorem ok_loadH {T : TypeId} {x : Operand} {k : Nat} {j : Int} (dflt : α) (ht : TyInfo P T 1 false) (hk : own[k]? = some (oRws er enc S Hs xss)) (hx : opd s x = some (aEx ((ix Hdr.no Hs n).at j)))
  (h0 : 0 ≤ n) (h1 : n < xss.length) (hS : n.toNat ∉ S) (h2 : 0 ≤ j) (h3 : j < (ix [] xss n).length) : OpOK P E s own ⟨some d, .load T x, ty, pos, af, g⟩ (enc (ix dflt (ix [] xss n) j)) :=
 ok_val (fun a w r => by
  obtain ⟨_, _, hn, hv⟩ := rws_get (r.world.own _ (List.mem_of_getElem? hk)) h0 h1 hS
  obtain ⟨g0, gone, g1⟩ := hv
  rcases g1 with ⟨_, hz, _⟩ | ⟨b', cur, hb', g2, g3, g4, g5, g6⟩
  ·rw [hz] at h3; simp at h3; omega
  obtain ⟨us, k1, k2, k3⟩ := g6 _ _ (ix_get dflt _ j h2 h3)
  refine ⟨mkV false us, ?_, k3⟩
  have hb : (ix Hdr.no Hs n).r.getD 0 = b' := by rw [hb']; rfl
  have hload : (loadVar T ⟨b', j.toNat * 1, none⟩).run P w = .ok (mkV false us) w := by
   unfold loadVar
   match us, k1 with
   | [u], k1 =>
    have hcell : w.cell? ⟨b', j.toNat * 1, none⟩ = some u := cell_of_block g2 (by have := (k2 0 u rfl).1; simpa using this)
    simp only [Nat.mul_one] at hcell
    simp [ht.agg, mkV, hcell]
  have hev : a.eval x = .pointer (some ⟨b', j.toNat * 1, none⟩) := by
   rw [r.ex hx (by simp [Op.operands, Call.operands])]; unfold Hdr.at; rw [hb]
  rw [Nat.mul_one] at hev hload
  simp [execOp, hev, Instr.loadAt, Instr.sureAddr, hload])
theorem set_same {β : Type} {l : List β} {i : Nat} {x : β} (h : l[i]? = some x) : l.set i x = l := by
 apply List.ext_getElem?
 intro j
 rw [List.getElem?_set]
 by_cases hij : i = j
 ·subst hij
  rw [if_pos rfl, if_pos (List.getElem?_eq_some_iff.1 h).1, h]
 ·rw [if_neg hij]
theorem ent_backRow {K : Act → World → Prop} (k k2 : Nat) (n : Int) {ys : List α} (S' : List Nat) (hk : st.own[k]? = some (oRws er enc S Hs xss)) (hk2 : st.own[k2]? = some (oVec (ix Hdr.no Hs n).r (ix Hdr.no Hs n).cap er 1 false enc ys)) (hne : k ≠ k2)
  (hS : ∀ j, j ∈ S → j = n.toNat ∨ j ∈ S') (h0 : 0 ≤ n) (h1 : n < Hs.length) (hm : (ix Hdr.no Hs n).n = ys.length) (h : Ent E ⟨st.slots, (st.own.set k (oRws er enc S' Hs (xss.set n.toNat ys))).eraseIdx k2⟩ K) : Ent E st K := by
 refine ent_putRow k k2 n S' hk hk2 hne hS hm ?_
 have e : Hs.set n.toNat ⟨(ix Hdr.no Hs n).r, (ix Hdr.no Hs n).n, (ix Hdr.no Hs n).cap⟩ = Hs := set_same (ix_get Hdr.no Hs n h0 h1)
 rw [e]; exact h
theorem ent_frzRows {K : Act → World → Prop} (k k2 : Nat) {r : Option Nat} {cap : Nat} {e : TypeId} (hk : st.own[k]? = some (oVec r cap e 1 false aH Hs)) (hk2 : st.own[k2]? = some (oRws er enc [] Hs xss)) (hne : k ≠ k2)
  (h : Ent E ⟨st.slots, (st.own.set k (oVec r cap e 1 false (aSl 1 false enc) xss)).eraseIdx k2⟩ K) : Ent E st K := by
 refine ent_frz k k2 (oVec r cap e 1 false (aSl 1 false enc) xss) hk hk2 hne (fun b hb => hb) ?_ h
 rintro h O O' ⟨q0, q1, q2⟩ ho hO hO2
 obtain ⟨g0, g1, g2⟩ := ho
 refine ⟨by rw [← g0]; exact q0, q1, ?_⟩
 rcases q2 with ⟨h1, h2, h3⟩ | ⟨b, cur, hb, c2, c3, c4, c5, c6⟩
 ·refine .inl ⟨h1, ?_, h3⟩
  subst h2
  exact List.length_eq_zero_iff.1 g0.symm
 ·refine .inr ⟨b, cur, hb, c2, by rw [← g0]; exact c3, c4, c5, fun i x hx => ?_⟩
  have hil : i < Hs.length := by rw [g0]; exact (List.getElem?_eq_some_iff.1 hx).1
  have hH := List.getElem?_eq_getElem hil
  obtain ⟨us, u1, u2, u3⟩ := c6 i _ hH
  obtain ⟨xs, k1, k3, k4⟩ := g1 i _ (by simp) hH
  rw [hx] at k1
  cases k1
  refine ⟨us, u1, u2, ?_⟩
  rw [show mkV false us = vec Hs[i].r Hs[i].n Hs[i].cap from u3, k3]
  exact vec_sl k4 hO (fun b hb hO' => hO2 b hO' ⟨i, _, by simp, hH, hb⟩)
end
section
variable {P : Program} {E : Env} {st : St} {Q : Exit → Act → World → Prop} {ops : Array Oper} {rest : List Oper} {s : List (Nat × AV)} {own : List Own}
variable {d : Nat} {ty : TypeId} {pos : String} {af : Array Edge} {g : Option (Nat × Bool)}
def Blks (Ws : List Own) (b : Nat) : Prop := ∃ o ∈ Ws, o.has b
structure Lends (Ws : List Own) (w : World) (O : Nat → Prop) : Prop where
 own : ∀ o ∈ Ws, o.holds w.heap (fun b => O b ∨ Blks Ws b)
 apart : Ws.Pairwise (fun o o' => ∀ b, o.has b → ¬ o'.has b)
 off : ∀ o ∈ Ws, ∀ b, o.has b → ¬ O b
def EndW {β : Type} (w : World) (O : Nat → Prop) (Ws : List Own) (φ : β → Prop) (A : β → AV) (Ws' : β → List Own) (e : Ending) (w' : World) : Prop :=
 ∃ v y, e = .returned v ∧ φ y ∧ (A y).holds w'.heap (fun b => O b ∨ Blks (Ws' y) b) v ∧ Lends (Ws' y) w' O ∧ (∀ o ∈ Ws' y, ∀ b, o.has b → Blks Ws b ∨ w.heap.size ≤ b) ∧ Keeps (Blks Ws) w w'
def CtrW {β : Type} (P : Program) (f : FuncId) (Ws : List Own) (As : List AV) (φ : β → Prop) (A : β → AV) (Ws' : β → List Own) : Prop :=
 (∀ args w, (callFunc f args).run P w = .ok (.enter f args) w) ∧
 ∀ (w : World) (O : Nat → Prop) (vs : List Value), (∀ b, O b → b < w.heap.size) → Lends Ws w O → HoldsAll As w.heap (fun b => O b ∨ Blks Ws b) vs →
  Calls P f vs.toArray w (EndW w O Ws φ A Ws')
theorem rep_enterW {w : World} {O : Nat → Prop} {Ws : List Own} {As : List AV} {vs : List Value} {n : Nat} (hn : As.length ≤ n) (hO : ∀ b, O b → b < w.heap.size) (hW : Lends Ws w O) (h : HoldsAll As w.heap (fun b => O b ∨ Blks Ws b) vs) :
  Rep ⟨w, O, Blks Ws, n, []⟩ ⟨numbered 0 As, Ws⟩ { tmps := vs.toArray ++ Array.replicate (n - vs.toArray.size) undef, defers := [] } w where
 size := by simp [h.1]; omega
 defers := rfl
 slots := fun i A hi => by
  obtain ⟨_, h2⟩ := look_numbered As 0 i A hi
  simp only [Nat.sub_zero] at h2
  have hlt : i < vs.length := by rw [h.1]; exact (List.getElem?_eq_some_iff.1 h2).1
  refine ⟨vs[i], ?_, ?_⟩
  ·rw [Array.getElem?_append_left (by simpa using hlt)]; simp [hlt]
  ·exact h.2 i A vs[i] h2 (List.getElem?_eq_getElem hlt)
 own := fun o ho => hW.own o ho
 apart := hW.apart
 free := fun o ho b hb => ⟨hW.off o ho b hb, .inr ⟨o, ho, hb⟩⟩
 xold := hO
 keep := Keeps.refl _ _
theorem ctrW_of {β : Type} {f : FuncId} {fn : Func} {c : Code} {Ws : List Own} {As : List AV} {φ : β → Prop} {A : β → AV} {Ws' : β → List Own} (hc : ∀ args w, (callFunc f args).run P w = .ok (.enter f args) w)
  (hf : P.funcs[f]? = some fn) (hb : fn.body = some c) (hn : Nat.ble As.length fn.ntmps = true)
  (h : ∀ (w : World) (O : Nat → Prop), Ent ⟨w, O, Blks Ws, fn.ntmps, []⟩ ⟨numbered 0 As, Ws⟩ (c.wp P (bodyPost P fn (EndW w O Ws φ A Ws')))) : CtrW P f Ws As φ A Ws' :=
 ⟨hc, fun w O _ hO hW ha => calls_of_wp hf hb (h w O _ w (rep_enterW (Nat.le_of_ble_eq_true hn) hO hW ha))⟩
theorem retW {β : Type} {fn : Func} {ex : Exit} {Ws : List Own} {φ : β → Prop} {A : β → AV} {Ws' : β → List Own} {w : World} {O : Nat → Prop} {m : Nat} (he : ex = .normal ∨ ex = .ret) (y : β) (hy : φ y) (hown : st.own = Ws' y)
  (hres : ∀ a w', Rep ⟨w, O, Blks Ws, m, []⟩ st a w' → ∃ v, (results fn a.tmps).run P w' = .ok v w' ∧ (A y).holds w'.heap (OO ⟨w, O, Blks Ws, m, []⟩ st.own) v) :
  Ent ⟨w, O, Blks Ws, m, []⟩ st (bodyPost P fn (EndW w O Ws φ A Ws') ex) := by
 intro a w' r
 obtain ⟨v, h1, h2⟩ := hres a w' r
 have key : EndW w O Ws φ A Ws' (.returned v) w' := by
  refine ⟨v, y, rfl, hy, by rw [hown] at h2; exact h2, ⟨fun o ho => ?_, by rw [← hown]; exact r.apart, fun o ho b hb => ?_⟩, fun o ho b hb => ?_, r.keep⟩
  ·have : o.holds w'.heap (OO ⟨w, O, Blks Ws, m, []⟩ st.own) := r.own o (by rw [hown]; exact ho)
   rw [hown] at this
   exact this
  ·exact (r.free o (by rw [hown]; exact ho) b hb).1
  ·exact ((r.free o (by rw [hown]; exact ho) b hb).2).symm
 rcases he with rfl | rfl
 ·exact ⟨r.defers, v, h1, key⟩
 ·exact ⟨r.defers, v, h1, key⟩
variable {O' : Nat → Prop}
theorem resW0 {fn : Func} {w : World} {O : Nat → Prop} {M : Nat → Prop} {m : Nat} (hres : fn.results = #[]) : ∀ a w', Rep ⟨w, O, M, m, []⟩ st a w' → ∃ v, (results fn a.tmps).run P w' = .ok v w' ∧ aAny.holds w'.heap O' v :=
 fun a w' _ => ⟨.tuple #[], by rw [results_map, hres]; simp, trivial⟩
theorem resW1 {fn : Func} {r1 : ResultVar} {A : AV} {w : World} {O : Nat → Prop} {M : Nat → Prop} {m : Nat} (hres : fn.results = #[r1]) (h1 : ResR P ⟨w, O, M, m, []⟩ st r1 A O') : ∀ a w', Rep ⟨w, O, M, m, []⟩ st a w' → ∃ v, (results fn a.tmps).run P w' = .ok v w' ∧ A.holds w'.heap O' v :=
 fun a w' r => by
  obtain ⟨v, v1, v2⟩ := h1 a w' r
  exact ⟨v, by rw [results_map, hres]; simp [v1], v2⟩
theorem resW2 {fn : Func} {r1 r2 : ResultVar} {A B : AV} {w : World} {O : Nat → Prop} {M : Nat → Prop} {m : Nat} (hres : fn.results = #[r1, r2]) (h1 : ResR P ⟨w, O, M, m, []⟩ st r1 A O') (h2 : ResR P ⟨w, O, M, m, []⟩ st r2 B O') : ∀ a w', Rep ⟨w, O, M, m, []⟩ st a w' → ∃ v, (results fn a.tmps).run P w' = .ok v w' ∧ (aTup [A, B]).holds w'.heap O' v :=
 fun a w' r => by
  obtain ⟨v, v1, v2⟩ := h1 a w' r
  obtain ⟨u, u1, u2⟩ := h2 a w' r
  exact ⟨.tuple #[v, u], by rw [results_map, hres]; simp [v1, u1], aTup_two v2 u2⟩
theorem flat_H : Flat aH := fun _ _ _ _ _ _ h => h
theorem ent_enterW {β : Type} {op : Op} {f : FuncId} {Ws rs : List Own} {As : List AV} {φ : β → Prop} {A : β → AV} {Ws' : β → List Own} (ls : List Nat) (hd : Nat.ble (d + 1) E.n = true) (c : CtrW P f Ws As φ A Ws') (how : st.own = Ws ++ rs)
  (hls : ls.all (fun k => Nat.ble Ws.length k) = true) (hf : ls = [] ∨ ((∀ y, Pl (A y)) ∧ ∀ y, ∀ o ∈ Ws' y, FlatOwn o))
  (hrun : ∀ a w, Rep E st a w → ∃ us, (execOp a.eval ⟨some d, op, ty, pos, af, none⟩).run P w = .ok (.enter f us.toArray) w ∧ HoldsAll As w.heap (fun b => OO E st.own b ∧ ¬ Lent st.own ls b) us)
  (k : ∀ y, φ y → Ent E ⟨(d, A y) :: st.slots, Ws' y ++ rs⟩ (wpList P ops Q rest)) :
  Ent E st (wpList P ops Q (⟨some d, op, ty, pos, af, none⟩ :: rest)) := by
 intro a w rp
 obtain ⟨us, hrun, hargs⟩ := hrun a w rp
 refine wpList_plain rfl fun K hK => ?_
 unfold Oper.wp
 rw [hrun, Oper.upon_enter]
 have hlt : ∀ b, OO E st.own b → b < w.heap.size := St.O_lt rp
 have hWown : ∀ o ∈ Ws, o ∈ st.own := fun o ho => by rw [how]; exact List.mem_append_left _ ho
 have hRown : ∀ o ∈ rs, o ∈ st.own := fun o ho => by rw [how]; exact List.mem_append_right _ ho
 have hap := rp.apart
 rw [how, List.pairwise_append] at hap
 have hWR : ∀ o ∈ Ws, ∀ o' ∈ rs, ∀ b, o.has b → ¬ o'.has b := hap.2.2
 have hlent : ∀ b, Lent st.own ls b → ∃ o ∈ rs, o.has b := by
  rintro b ⟨k, hk, o, hko, hob⟩
  have hkl : Ws.length ≤ k := Nat.le_of_ble_eq_true (List.all_eq_true.1 hls k hk)
  rw [how, List.getElem?_append_right hkl] at hko
  exact ⟨o, List.mem_of_getElem? hko, hob⟩
 let X : Nat → Prop := fun b => OO E st.own b ∧ ¬ Lent st.own ls b ∧ ¬ Blks Ws b
 have hX : ∀ b, X b → OO E st.own b := fun b hb => hb.1
 have hBO : ∀ b, Blks Ws b → OO E st.own b := fun b ⟨o, ho, hob⟩ => .inr ⟨o, hWown o ho, hob⟩
 have hsub : ∀ b, X b ∨ Blks Ws b → OO E st.own b ∧ ¬ Lent st.own ls b := by
  rintro b (hb | ⟨o, ho, hob⟩)
  ·exact ⟨hb.1, hb.2.1⟩
  ·refine ⟨hBO b ⟨o, ho, hob⟩, fun hl => ?_⟩
   obtain ⟨o', ho', hob'⟩ := hlent b hl
   exact hWR o ho o' ho' b hob hob'
 refine (c.2 w X us (fun b hb => hlt b hb.1) ⟨fun o ho => Own.less (rp.own o (hWown o ho)) (fun b hb => (hsub b hb).1), hap.1, fun o ho b hb hx => hx.2.2 ⟨o, ho, hb⟩⟩
  ⟨hargs.1, fun i A v hA hv => AV.less (hargs.2 i A v hA hv) (fun b _ hb => hsub b hb)⟩).mono ?_
 rintro en w' ⟨v, y, rfl, hy, hA, hL, hB, hK'⟩
 have hO' : ∀ b, b < w.heap.size → OO E (Ws' y ++ rs) b → OO E st.own b := by
  rintro b hb (h | ⟨o, ho, hob⟩)
  ·exact .inl h
  ·rcases List.mem_append.1 ho with ho | ho
   ·rcases hB o ho b hob with h | h
    ·exact hBO b h
    ·omega
   ·exact .inr ⟨o, hRown o ho, hob⟩
 have hO2 : ls = [] → ∀ b, OO E (Ws' y ++ rs) b → X b ∨ Blks (Ws' y) b := by
  intro hl b hb
  have hnl : ¬ Lent st.own ls b := by rw [hl]; rintro ⟨k, hk, _⟩; cases hk
  rcases hb with h | ⟨o, ho, hob⟩
  ·refine .inl ⟨.inl h, hnl, fun ⟨o, ho, hob⟩ => (rp.free o (hWown o ho) b hob).1 h⟩
  ·rcases List.mem_append.1 ho with ho | ho
   ·exact .inr ⟨o, ho, hob⟩
   ·exact .inl ⟨.inr ⟨o, hRown o ho, hob⟩, hnl, fun ⟨o', ho', hob'⟩ => hWR o' ho' o ho b hob' hob⟩
 have hsame : ∀ b, b < w.heap.size → ¬ OO E st.own b → w'.heap[b]? = w.heap[b]? := fun b hb hn => hK'.block b hb fun h => hn (hBO b h)
 refine hK _ _ (k y hy _ _ ?_)
 have r2 : Rep E ⟨st.slots, Ws' y ++ rs⟩ a w' := by
  refine ⟨rp.size, rp.defers, fun i A hi => ?_, fun o ho => ?_, ?_, fun o ho b hb => ?_, rp.xold, ?_⟩
  ·obtain ⟨v, h1, h2⟩ := rp.slots i A hi
   exact ⟨v, h1, A.mono _ _ _ _ _ h2 hK'.size hsame hO'⟩
  ·rcases List.mem_append.1 ho with ho | ho
   ·rcases hf with hf | hf
    ·exact Own.less (hL.own o ho) (hO2 hf)
    ·exact hf.2 y o ho _ _ _ (hL.own o ho)
   ·refine o.mono _ _ _ _ (rp.own o (hRown o ho)) hK'.size (fun b hb hn => ?_) hO'
    rcases hn with hn | hn
    ·exact hsame b hb hn
    ·exact hK'.block b hb fun ⟨o', ho', hob'⟩ => hWR o' ho' o ho b hob' hn
  ·rw [List.pairwise_append]
   refine ⟨hL.apart, hap.2.1, fun o ho o' ho' b hb hb' => ?_⟩
   rcases hB o ho b hb with ⟨o2, ho2, h2⟩ | h2
   ·exact hWR o2 ho2 o' ho' b h2 hb'
   ·exact absurd (hlt b (.inr ⟨o', hRown o' ho', hb'⟩)) (by omega)
  ·rcases List.mem_append.1 ho with ho | ho
   ·rcases hB o ho b hb with ⟨o2, ho2, h2⟩ | h2
    ·exact rp.free o2 (hWown o2 ho2) b h2
    ·exact ⟨fun hx => absurd (hlt _ (.inl hx)) (by omega), .inl (Nat.le_trans rp.keep.size h2)⟩
   ·exact rp.free o (hRown o ho) b hb
  ·refine ⟨hK'.os.trans rp.keep.os, hK'.tape.trans rp.keep.tape, hK'.output.trans rp.keep.output, Nat.le_trans rp.keep.size hK'.size, fun b hb hm => ?_⟩
   rw [hK'.block b (Nat.lt_of_lt_of_le hb rp.keep.size) ?_, rp.keep.block b hb hm]
   rintro ⟨o, ho, hob⟩
   rcases (rp.free o (hWown o ho) b hob).2 with h | h
   ·omega
   ·exact hm h
 refine r2.put (Nat.le_of_ble_eq_true hd) (A := A y) ?_
 rcases hf with hf | hf
 ·exact AV.less hA (fun b _ hb => hO2 hf b hb)
 ·exact hf.1 y _ _ _ _ _ hA
theorem ent_callW {β : Type} {f : FuncId} {xs : List Operand} {tys : Array TypeId} {Ws rs : List Own} {As : List AV} {φ : β → Prop} {A : β → AV} {Ws' : β → List Own} (ls : List Nat) (hd : Nat.ble (d + 1) E.n = true) (c : CtrW P f Ws As φ A Ws') (how : st.own = Ws ++ rs)
  (hls : ls.all (fun k => Nat.ble Ws.length k) = true) (hf : ls = [] ∨ ((∀ y, Pl (A y)) ∧ ∀ y, ∀ o ∈ Ws' y, FlatOwn o)) (hx : ArgsA E st.slots st.own (fun b => OO E st.own b ∧ ¬ Lent st.own ls b) xs As)
  (k : ∀ y, φ y → Ent E ⟨(d, A y) :: st.slots, Ws' y ++ rs⟩ (wpList P ops Q rest)) :
  Ent E st (wpList P ops Q (⟨some d, .call { callee := .value (.func f), args := xs.toArray, argTypes := tys }, ty, pos, af, none⟩ :: rest)) := by
 refine ent_enterW ls hd c how hls hf (fun a w rp => ?_) k
 have r := rp.opR ⟨some d, .call { callee := .value (.func f), args := xs.toArray, argTypes := tys }, ty, pos, af, none⟩
 refine ⟨xs.map a.eval, ?_, ?_⟩
 ·simp [execOp, resolve, Act.eval, Deferred.ofValue, invoke, c.1]
 ·exact hx.holds r (fun x hx => by simp [Op.operands, Call.operands, hx])
end
section
variable {P : Program} {E : Env} {st : St} {Q : Exit → Act → World → Prop} {ops : Array Oper} {rest : List Oper} {s : List (Nat × AV)} {own : List Own}
variable {d : Nat} {ty : TypeId} {pos : String} {af : Array Edge} {g : Option (Nat × Bool)}
theorem HoldsAll.append {As Bs : List AV} {h : Heap} {O : Nat → Prop} {vs us : List Value} (h1 : HoldsAll As h O vs) (h2 : HoldsAll Bs h O us) : HoldsAll (As ++ Bs) h O (vs ++ us) := by
 refine ⟨by simp [h1.1, h2.1], fun i A v hA hv => ?_⟩
 by_cases hi : i < As.length
 ·rw [List.getElem?_append_left hi] at hA
  rw [List.getElem?_append_left (by rw [h1.1]; exact hi)] at hv
  exact h1.2 i A v hA hv
 ·rw [List.getElem?_append_right (by omega)] at hA
  rw [List.getElem?_append_right (by rw [h1.1]; omega), h1.1] at hv
  exact h2.2 _ A v hA hv
end
section
variable {P : Program} {E : Env} {st : St} {Q : Exit → Act → World → Prop} {ops : Array Oper} {rest : List Oper} {s : List (Nat × AV)} {own : List Own}
variable {d : Nat} {ty : TypeId} {pos : String} {af : Array Edge} {g : Option (Nat × Bool)}
variable {α : Type} {enc : α → AV} {xs : List α} {n : Int} {r : Option Nat} {cap : Nat}
theorem ok_indexV0 {T e : TypeId} {x i : Operand} {k m : Nat} (hs : SlInfo P T e 1) (hk : own[k]? = some (oVec r cap e 1 false enc xs)) (hx : opd s x = some (aEx (vec r m cap))) (hm : m = xs.length) (hi : opd s i = some (aInt n))
  (h0 : 0 ≤ n) (h1 : n < xs.length) : OpOK P E s own ⟨some d, .indexAddr T x i, ty, pos, af, g⟩ (aEx (.pointer (some ⟨r.getD 0, n.toNat * 1, none⟩))) := by
 intro a w rp K Q hK
 have hr := vec_some (rp.world.own _ (List.mem_of_getElem? hk)) (by omega)
 have hx' : opd s x = some (aEx (vec (some (r.getD 0)) m cap)) := by rw [hx, ← hr]
 exact ok_indexV (P := P) (E := E) (s := s) (own := own) (d := d) (ty := ty) (pos := pos) (af := af) (g := g) hs hx' hi h0 (by omega) a w rp K Q hK
theorem ok_loadV0 {T e : TypeId} {x : Operand} {k : Nat} (dflt : α) (ht : TyInfo P T 1 false) (hk : own[k]? = some (oVec r cap e 1 false enc xs)) (hx : opd s x = some (aEx (.pointer (some ⟨r.getD 0, n.toNat * 1, none⟩))))
  (h0 : 0 ≤ n) (h1 : n < xs.length) : OpOK P E s own ⟨some d, .load T x, ty, pos, af, g⟩ (enc (ix dflt xs n)) := by
 intro a w rp K Q hK
 have hr := vec_some (rp.world.own _ (List.mem_of_getElem? hk)) (by omega)
 have hk2 : own[k]? = some (oVec (some (r.getD 0)) cap e 1 false enc xs) := by rw [hk, ← hr]
 exact ok_loadV (P := P) (E := E) (s := s) (own := own) (d := d) (ty := ty) (pos := pos) (af := af) (g := g) dflt ht hk2 hx h0 h1 a w rp K Q hK
theorem ent_storeV0 {T e : TypeId} {x y : Operand} {k : Nat} {z : α} (ht : TyInfo P T 1 false) (hk : st.own[k]? = some (oVec r cap e 1 false enc xs)) (hx : opd st.slots x = some (aEx (.pointer (some ⟨r.getD 0, n.toNat * 1, none⟩)))) (hy : opd st.slots y = some (enc z)) (he : ElemOK (enc z) false 1)
  (h0 : 0 ≤ n) (h1 : n < xs.length) (kk : Ent E ⟨st.slots, st.own.set k (oVec r cap e 1 false enc (xs.set n.toNat z))⟩ (wpList P ops Q rest)) :
  Ent E st (wpList P ops Q (⟨none, .store T x y, ty, pos, af, none⟩ :: rest)) := by
 intro a w rp
 have hr := vec_some (rp.own _ (List.mem_of_getElem? hk)) (by omega)
 have hk2 : st.own[k]? = some (oVec (some (r.getD 0)) cap e 1 false enc xs) := by rw [hk, ← hr]
 exact ent_storeV ht hk2 hx hy he h0 h1 (by rw [← hr]; exact kk) a w rp
theorem own_rws {er : TypeId} {S : List Nat} {Hs Hs' : List Hdr} {xss xss' : List (List α)} (h : Hs = Hs') (h2 : xss = xss') : oRws er enc S Hs xss = oRws er enc S Hs' xss' := by rw [h, h2]
end
section
variable {P : Program} {E : Env} {st : St} {Q : Exit → Act → World → Prop} {ops : Array Oper} {rest : List Oper} {s : List (Nat × AV)} {own : List Own}
variable {d : Nat} {ty : TypeId} {pos : String} {af : Array Edge} {g : Option (Nat × Bool)}
end
theorem perm_ix2 {own : List Own} (n : Nat) (is : List Nat) (hl : own.length = n) (h : is.Perm (List.range n)) : (is.filterMap (own[·]?)).Perm own := perm_ix is (by rw [hl]; exact h)
theorem ent_pm {E : Env} {st : St} {own' : List Own} {K : Act → World → Prop} (n : Nat) (is : List Nat) (hl : st.own.length = n) (hp : is.reverse.Perm (List.range n)) (he : pmA st.own is [] = some own') (h : Ent E ⟨st.slots, own'⟩ K) : Ent E st K :=
 ent_perm own' (by rw [pmA_eq is [] he, List.append_nil]; exact perm_ix2 n _ hl hp) h
section drawsO
variable {P : Program} {E : Env}
theorem ent_drawO {st : St} {Q : Exit → Act → World → Prop} {id : Nat} {l : List Oper} (n : Nat) (fl : List Nat) (hm : P.follows .mixedOrders = true) (hn : Nat.ble n l.length = true) (hB : drawF l n n = true) (hF : flB l n fl = true) (hsel : Region.noSelect l.toArray = true)
  (hS : Region.seqB .any l.toArray (l.length - n) n (Array.replicate n true ++ Array.replicate (l.length - n) false) = true) (hQ : ∀ c a w (d : Nat) v, Q (.panic c) (a.put (some d) v) w → Q (.panic c) a w)
  (h : ∀ (a : Act) (w : World), Rep E st a w → DW P (E.re w st.own) st.own l.toArray (l.take n) st.slots (fun s' => ∀ (a' : Act) (w' : World), Rep (E.re w st.own) ⟨s', st.own⟩ a' w' → Grow w w' → agreeOff (dstsOf l) a a' → wpList P l.toArray Q (l.drop n) a' w')) :
  Ent E st ((Code.region id l.toArray true).wp P Q) := by
 intro a w r
 have hnl : n ≤ l.length := Nat.le_of_ble_eq_true hn
 refine wp_region_any hm ?_
 have rr := (r.grow (Grow.drew w)).re
 obtain ⟨D, A, h1, h2⟩ := dw_fun l.toArray _ _ _ (h a w.drew (r.grow (Grow.drew w)))
 have hlen : (l.take n).length = n := by simp [hnl]
 rw [hlen] at h2
 have hspec : ∀ k o, k < n → l[k]? = some o → o.dst = some (D k) ∧ D k < (E.re w.drew st.own).n ∧ Spec P (E.re w.drew st.own) st.own l.toArray (stt st.slots D A k) o (A k) := fun k o hk ho => h1 k o (by rw [List.getElem?_take, if_pos hk]; exact ho)
 have inv := rep_start (D := D) (A := A) (l := l) (n := n) rr
 have h0 : (Array.replicate 0 true ++ Array.replicate (l.length - 0) false) = Array.replicate l.length false := by simp
 rw [h0] at inv
 have hcount : ((List.range n).filter fun i => !((Array.replicate l.length false).getD i false)).length = n := by
  have : ∀ i, (Array.replicate l.length false).getD i false = false := fun i => by
   rw [Array.getD_eq_getD_getElem?]
   by_cases hi : i < l.length
   ·simp [hi]
   ·simp [hi]
  rw [List.filter_eq_self.2 (fun i _ => by simp [this i])]; simp
 have := draw_go2 (P := P) (Q := Q) (g := l.length - n) hB hF hsel hQ hnl hspec (fun a' w' => Grow w.drew w' ∧ agreeOff (dstsOf l) a a') ?_ ?_ n _ a w.drew hcount ⟨Grow.refl _, fun _ _ => rfl⟩ inv
 ·rw [show n + (l.length - n) = l.length by omega] at this
  simpa using this
 ·intro j oj v a' w1 w2 hj hoj g ⟨hg, ha⟩
  refine ⟨hg.trans g, fun i hi => ?_⟩
  rw [put_tmps a' _ v i (fun e => hi ?_)]
  ·exact ha i hi
  ·exact List.mem_filterMap.2 ⟨oj, List.mem_of_getElem? hoj, e⟩
 ·intro listed a' w' ⟨hg, ha⟩ inv' hall
  have hrep := inv'.end2 hB hnl hspec hall
  have hlisted : listed = Array.replicate n true ++ Array.replicate (l.length - n) false := by
   apply Array.ext
   ·simp [inv'.sz]; omega
   ·intro i hi1 hi2
    have hd : listed.getD i false = listed[i] := by simp [hi1]
    rcases Nat.lt_or_ge i n with h | h
    ·rw [← hd, hall i h, Array.getElem_append_left (by simpa using h)]; simp
    ·rw [← hd, inv'.tail i h, Array.getElem_append_right (by simpa using h)]; simp
  have hdl : (l.drop n).length = l.length - n := by simp
  rw [← hdl]
  refine wpAny_of_seq (l.drop n) n listed a' w' (fun j => by simp [List.getElem?_drop]) ?_ (h2 a' w' hrep hg ha)
  rw [hdl, hlisted]
  exact hS
theorem rep_own {st : St} {s' : List (Nat × AV)} {a a' : Act} {w w' : World} {l : List Oper} {d : Nat} {v : Value} {o : Own} {keep old : List (Nat × AV)} (r : Rep E st a w) (r' : Rep (E.re w st.own) ⟨s', st.own⟩ a' w') (g : Grow w w') (ag : agreeOff (dstsOf l) a a')
  (hv : a'.tmps[d]? = some v) (hnew : ∀ b, o.has b → w.heap.size ≤ b ∧ ¬ OO E st.own b) (ho : o.holds w'.heap (OO E (o :: st.own))) (hkeep : SubS keep s') (hpl : ∀ p ∈ keep, Pl p.2) (hold : SubS old st.slots) (hoff : offB (dstsOf l) old = true) :
  Rep E ⟨(d, aEx v) :: (keep ++ old), o :: st.own⟩ a' w' := by
 have hlt : ∀ b, OO E st.own b → b < w.heap.size := St.O_lt r
 have hla := Own.later r g (news := [o]) (fun o' ho' b hb => by
  simp only [List.mem_cons, List.not_mem_nil, or_false] at ho'
  subst ho'; exact (hnew b hb).1)
 refine ⟨r'.size, r'.defers, fun i A hi => ?_, fun o' ho' => ?_, List.Pairwise.cons (fun o' ho' b h1 h2 => (hnew b h1).2 (.inr ⟨o', ho', h2⟩)) r.apart, fun o' ho' b hb => ?_, r.xold, Keeps.re r r'.keep⟩
 ·unfold Cw.look at hi
  cases hb1 : Nat.beq d i with
  | true =>
   have := Nat.eq_of_beq_eq_true hb1
   subst this
   rw [hb1] at hi
   simp only [cond_true, Option.some.injEq] at hi
   subst hi
   exact ⟨_, hv, rfl⟩
  | false =>
   rw [hb1] at hi
   simp only [cond_false] at hi
   rw [look_append] at hi
   cases hk : look keep i with
   | some B =>
    rw [hk] at hi
    simp only [Option.some_or, Option.some.injEq] at hi
    subst hi
    obtain ⟨u, u1, u2⟩ := r'.slots i B (hkeep.look hk)
    have hmem : ∃ p ∈ keep, p.2 = B := by
     clear hkeep
     induction keep with
     | nil => cases hk
     | cons p k ih =>
      obtain ⟨j, C⟩ := p
      unfold Cw.look at hk
      cases hb : Nat.beq j i with
      | true => rw [hb] at hk; simp only [cond_true, Option.some.injEq] at hk; exact ⟨_, List.mem_cons_self, hk⟩
      | false =>
       rw [hb] at hk
       obtain ⟨p, hp, hpe⟩ := ih (fun p hp => hpl p (List.mem_cons_of_mem _ hp)) hk
       exact ⟨p, List.mem_cons_of_mem _ hp, hpe⟩
    obtain ⟨p, hp, rfl⟩ := hmem
    exact ⟨u, u1, hpl p hp _ _ _ _ _ u2⟩
   | none =>
    rw [hk] at hi
    simp only [Option.none_or] at hi
    obtain ⟨u, u1, u2⟩ := hla.2 i A (hold.look hi)
    exact ⟨u, by rw [ag i (look_off hoff hi)]; exact u1, u2⟩
 ·rcases List.mem_cons.1 ho' with rfl | ho'
  ·exact ho
  ·exact hla.1 o' ho'
 ·rcases List.mem_cons.1 ho' with rfl | ho'
  ·exact ⟨fun hx => (hnew b hb).2 (.inl hx), .inl (Nat.le_trans r.keep.size (hnew b hb).1)⟩
  ·exact r.free o' ho' b hb
end drawsO
section
variable {P : Program} {E : Env} {st : St} {ops : Array Oper} {rest : List Oper} {s : List (Nat × AV)} {own : List Own}
variable {d : Nat} {ty : TypeId} {pos : String} {af : Array Edge} {g : Option (Nat × Bool)}
end
section
variable {P : Program} {E : Env} {st : St} {ops : Array Oper} {rest : List Oper} {s : List (Nat × AV)} {own : List Own}
variable {d : Nat} {ty : TypeId} {pos : String} {af : Array Edge} {g : Option (Nat × Bool)}
end
section draws4
variable {P : Program} {E : Env} {own : List Own}
variable {s : List (Nat × AV)} {D : Nat → Nat} {A : Nat → AV} {l : List Oper} {n f f2 : Nat} {listed : Array Bool} {a : Act} {w : World}
def QK (Q : Exit → Act → World → Prop) (K : Act → World → Prop) : Exit → Act → World → Prop
 | .normal => K
 | e => Q e
theorem wpList_QK {ops : Array Oper} {Q : Exit → Act → World → Prop} {K : Act → World → Prop} {j : Nat} {o : Oper} (ho : ops[j]? = some o) (h : wpList P ops (QK Q K) [o] a w) : wpOp P ops Q j K a w := by
 have hw : wpOp P ops (QK Q K) j (wpList P ops (QK Q K) []) a w := by unfold wpOp; simp only [ho]; exact h
 exact wpOp_fr (fun a' w' _ h => h) (fun _ _ _ h => h) (fun h => h) hw
def headL (n m : Nat) : Array Bool := Array.replicate n true ++ Array.replicate m false
theorem headL_get (n m i : Nat) : (headL n m)[i]? = if i < n then some true else if i < n + m then some false else none := by
 unfold headL
 rw [Array.getElem?_append]
 simp only [Array.size_replicate, Array.getElem?_replicate]
 by_cases h : i < n
 ·simp [h]
 ·simp only [if_neg h]
  by_cases h2 : i < n + m
  ·rw [if_pos h2, if_pos (by omega)]
  ·rw [if_neg h2, if_neg (by omega)]
end draws4
section
variable {E : Env} {st : St}
theorem ent_QK {Q : Exit → Act → World → Prop} {K : Act → World → Prop} (h : Ent E st K) : Ent E st (QK Q K .normal) := h
end
section
variable {P : Program} {E : Env} {st : St} {Q : Exit → Act → World → Prop}
end
section draws5
variable {P : Program} {E : Env} {own : List Own}
variable {s : List (Nat × AV)} {D : Nat → Nat} {A : Nat → AV} {l : List Oper} {n f f2 : Nat} {listed : Array Bool} {a : Act} {w : World}
def DWL (P : Program) (E : Env) (own : List Own) : List Oper → List (Nat × AV) → List (Nat × AV) → (List (Nat × AV) → Prop) → Prop
 | [], [], s, K => K s
 | o :: r, (d, A) :: ls, s, K => o.dst = some d ∧ o.guard = none ∧ OpOK P E s own o A ∧ DWL P E own r ls ((d, A) :: s) K
 | _, _, _, _ => False
def DWI (P : Program) (E : Env) (own : List Own) (l : List Oper) : List Nat → List (Nat × AV) → List (Nat × AV) → (List (Nat × AV) → Prop) → Prop
 | [], [], s, K => K s
 | i :: r, (d, A) :: ls, s, K => (∃ o, l[i]? = some o ∧ o.dst = some d ∧ o.guard = none ∧ OpOK P E s own o A) ∧ DWI P E own l r ls ((d, A) :: s) K
 | _, _, _, _ => False
theorem dwi_o {l : List Oper} {i : Nat} {r : List Nat} {d : Nat} {A : AV} {ls s : List (Nat × AV)} {K : List (Nat × AV) → Prop} {o : Oper} (h1 : l[i]? = some o) (h2 : o.dst = some d) (h3 : o.guard = none) (h4 : OpOK P E s own o A) (h5 : DWI P E own l r ls ((d, A) :: s) K) :
  DWI P E own l (i :: r) ((d, A) :: ls) s K := ⟨⟨o, h1, h2, h3, h4⟩, h5⟩
theorem dwi_dwl {l : List Oper} : ∀ {is : List Nat} {ls s : List (Nat × AV)} {K : List (Nat × AV) → Prop}, DWI P E own l is ls s K → DWL P E own (is.filterMap (l[·]?)) ls s K
 | [], [], s, K, h => h
 | i :: r, (d, A) :: ls, s, K, ⟨⟨o, h1, h2, h3, h4⟩, h5⟩ => by
  rw [List.filterMap_cons]
  simp only [h1]
  exact ⟨h2, h3, h4, dwi_dwl h5⟩
 | [], _ :: _, _, _, h => h.elim
 | _ :: _, [], _, _, h => h.elim
theorem OpOK.eqv {o : Oper} {B C : AV} (h : OpOK P E s own o B) (e : B = C) : OpOK P E s own o C := e ▸ h
def sttL (s : List (Nat × AV)) (Ls : List (Nat × AV)) : Nat → List (Nat × AV)
 | 0 => s
 | k + 1 => match Ls[k]? with
  | some p => p :: sttL s Ls k
  | none => sttL s Ls k
theorem sttL_shift (s : List (Nat × AV)) (p : Nat × AV) (Ls : List (Nat × AV)) : ∀ k, sttL s (p :: Ls) (k + 1) = sttL (p :: s) Ls k
 | 0 => rfl
 | k + 1 => by
  have := sttL_shift s p Ls k
  show (match (p :: Ls)[k + 1]? with | some q => q :: sttL s (p :: Ls) (k + 1) | none => sttL s (p :: Ls) (k + 1)) = _
  rw [List.getElem?_cons_succ, this]
  rfl
theorem dwl_fun : ∀ (os : List Oper) (Ls s : List (Nat × AV)) (K : List (Nat × AV) → Prop), DWL P E own os Ls s K →
  os.length = Ls.length ∧ (∀ (k : Nat) (o : Oper) (p : Nat × AV), os[k]? = some o → Ls[k]? = some p → o.dst = some p.1 ∧ o.guard = none ∧ OpOK P E (sttL s Ls k) own o p.2) ∧ K (sttL s Ls os.length)
 | [], [], s, K, h => ⟨rfl, fun k o p hk => by simp at hk, h⟩
 | o :: os, (d, A) :: Ls, s, K, h => by
  obtain ⟨h1, h2, h3, h4⟩ := h
  obtain ⟨g1, g2, g3⟩ := dwl_fun os Ls _ K h4
  refine ⟨by simp [g1], fun k o' p hk hp => ?_, ?_⟩
  ·cases k with
   | zero =>
    simp only [List.getElem?_cons_zero, Option.some.injEq] at hk hp
    subst hk; subst hp
    exact ⟨h1, h2, h3⟩
   | succ k =>
    simp only [List.getElem?_cons_succ] at hk hp
    rw [sttL_shift]
    exact g2 k o' p hk hp
  ·rw [List.length_cons, sttL_shift]; exact g3
 | [], _ :: _, _, _, h => h.elim
 | _ :: _, [], _, _, h => h.elim
theorem look_sttL {s Ls : List (Nat × AV)} {t : Nat} {B : AV} : ∀ k, look (sttL s Ls k) t = some B → (∃ i, i < k ∧ Ls[i]? = some (t, B)) ∨ look s t = some B
 | 0, h => .inr h
 | k + 1, h => by
  unfold sttL at h
  cases hp : Ls[k]? with
  | none =>
   rw [hp] at h
   rcases look_sttL k h with ⟨i, h1, h2⟩ | h
   ·exact .inl ⟨i, by omega, h2⟩
   ·exact .inr h
  | some p =>
   rw [hp] at h
   obtain ⟨d, C⟩ := p
   simp only at h
   rw [look_cons] at h
   split at h
   ·rename_i e
    subst e
    cases h
    exact .inl ⟨k, by omega, hp⟩
   ·rcases look_sttL k h with ⟨i, h1, h2⟩ | h
    ·exact .inl ⟨i, by omega, h2⟩
    ·exact .inr h
def lateB (l : List Oper) (n : Nat) (late : List Nat) (t0 : Option Nat) (Ls : List (Nat × AV)) : Bool :=
 let ops := l.toArray
 Nat.ble (n + 1) l.length && (late.all fun i => Nat.ble (i + 1) n) &&
 ((List.range n).all fun i => late.contains i || waits ops l.length n i) &&
 ((List.range l.length).all fun j => !(Nat.ble (n + 1) j) || ((List.range (n + 1)).all fun i => waits ops l.length j i)) &&
 (match t0 with | some d => Ls.all (fun p => !(Nat.beq p.1 d)) | none => true)
theorem lateB_spec {late : List Nat} {t0 : Option Nat} {Ls : List (Nat × AV)} (h : lateB l n late t0 Ls = true) :
  n < l.length ∧ (∀ i ∈ late, i < n) ∧ (∀ i, i < n → i ∉ late → waits l.toArray l.length n i = true) ∧ (∀ j, n < j → j < l.length → ∀ i, i ≤ n → waits l.toArray l.length j i = true) ∧ (∀ d, t0 = some d → ∀ p ∈ Ls, p.1 ≠ d) := by
 unfold lateB at h
 simp only [Bool.and_eq_true] at h
 obtain ⟨⟨⟨⟨h1, h2⟩, h3⟩, h4⟩, h5⟩ := h
 refine ⟨Nat.le_of_ble_eq_true h1, fun i hi => Nat.le_of_ble_eq_true (List.all_eq_true.1 h2 i hi), fun i hi hl => ?_, fun j hj hjl i hi => ?_, fun d hd p hp e => ?_⟩
 ·have := List.all_eq_true.1 h3 i (List.mem_range.2 hi)
  rw [Bool.or_eq_true] at this
  rcases this with h | h
  ·exact absurd (by simpa using h) hl
  ·exact h
 ·have := List.all_eq_true.1 h4 j (List.mem_range.2 hjl)
  rw [Nat.ble_eq_true_of_le hj] at this
  simp only [Bool.not_true, Bool.false_or] at this
  exact List.all_eq_true.1 this i (List.mem_range.2 (by omega))
 ·subst hd
  have := List.all_eq_true.1 h5 p hp
  subst e
  simp at this
def PH1 (P : Program) (ops : Array Oper) (Q : Exit → Act → World → Prop) (n : Nat) (late : List Nat) (Ls : List (Nat × AV)) (a : Act) (w : World) : Prop :=
 ∀ listed : Array Bool, listed.size = ops.size → Closed ops listed → (∀ i, i < n → i ∉ late → listed.getD i false = true) → listed.getD n false = true → (∀ t, n < t → listed.getD t false = false) →
  (∀ (k i : Nat) (p : Nat × AV), late[k]? = some i → Ls[k]? = some p → listed.getD i false = true → ∃ v, a.tmps[p.1]? = some v ∧ ∀ h O, p.2.holds h O v) →
  wpAny P .any ops Q ((late.filter fun i => !(listed.getD i false)).length + (ops.size - (n + 1))) listed a w
theorem filter_set_len : ∀ (late : List Nat) (listed : Array Bool) (j : Nat), late.Nodup → j ∈ late → j < listed.size → listed.getD j false = false →
  (late.filter fun i => !(listed.getD i false)).length = (late.filter fun i => !((listed.setIfInBounds j true).getD i false)).length + 1
 | [], _, _, _, h, _, _ => by cases h
 | x :: late, listed, j, hn, hj, hs, hu => by
  obtain ⟨hx, hn2⟩ := List.nodup_cons.1 hn
  by_cases hxj : x = j
  ·subst hxj
   have h1 : (listed.setIfInBounds x true).getD x false = true := by simp [hs]
   have h2 : (late.filter fun i => !((listed.setIfInBounds x true).getD i false)) = late.filter fun i => !(listed.getD i false) := by
    apply List.filter_congr
    intro i hi
    rw [getD_set_ne false (fun e => hx (by rw [e]; exact hi))]
   rw [List.filter_cons, List.filter_cons, h1, hu, h2]
   simp
  ·have ih := filter_set_len late listed j hn2 ((List.mem_cons.1 hj).resolve_left fun e => hxj e.symm) hs hu
   have h1 : (listed.setIfInBounds j true).getD x false = listed.getD x false := getD_set_ne false (fun e => hxj e.symm)
   rw [List.filter_cons, List.filter_cons, h1]
   split
   ·rw [List.length_cons, List.length_cons, ih]
   ·exact ih
theorem ent_ph1 {st : St} {Q : Exit → Act → World → Prop} (n : Nat) (late : List Nat) (Ls : List (Nat × AV)) {t0 : Option Nat} (hB : drawF l n n = true) (hL : lateB l n late t0 Ls = true) (hnd : late.Nodup) (hsort : late.Pairwise (· < ·)) (hoff : offB (Ls.map (·.1)) st.slots = true) (hlt : Ls.all (fun p => Nat.ble (p.1 + 1) E.n) = true) (hpl : ∀ p ∈ Ls, Pl p.2)
  (hS : Region.seqB .any l.toArray (l.length - (n + 1)) (n + 1) (headL (n + 1) (l.length - (n + 1))) = true)
  (h : DWI P E st.own l late Ls st.slots (fun s' => Ent E ⟨s', st.own⟩ (wpList P l.toArray Q (l.drop (n + 1))))) : Ent E st (PH1 P l.toArray Q n late Ls) := by
 obtain ⟨hord, hlow⟩ := drawB_spec hB
 obtain ⟨hnl, hl1, hl2, hl3, _⟩ := lateB_spec hL
 obtain ⟨e1, e2, e3⟩ := dwl_fun _ _ _ _ (dwi_dwl h)
 have hfm : ∀ k i : Nat, late[k]? = some i → ∃ o, l[i]? = some o ∧ (late.filterMap (l[·]?))[k]? = some o := by
  have key : ∀ (la : List Nat), (∀ i ∈ la, i < n) → ∀ k i : Nat, la[k]? = some i → ∃ o, l[i]? = some o ∧ (la.filterMap (l[·]?))[k]? = some o := by
   intro la
   induction la with
   | nil => intro _ k i hk; simp at hk
   | cons x la ih =>
    intro hb k i hk
    have hx : x < l.length := by have := hb x (by simp); omega
    have hox : l[x]? = some l[x] := List.getElem?_eq_getElem hx
    rw [List.filterMap_cons]
    simp only [hox]
    cases k with
    | zero =>
     simp only [List.getElem?_cons_zero, Option.some.injEq] at hk
     subst hk
     exact ⟨_, hox, rfl⟩
    | succ k =>
     simp only [List.getElem?_cons_succ] at hk ⊢
     exact ih (fun i hi => hb i (by simp [hi])) k i hk
  exact key late hl1
 have hlen : (late.filterMap (l[·]?)).length = late.length := by
  have key : ∀ (la : List Nat), (∀ i ∈ la, i < n) → (la.filterMap (l[·]?)).length = la.length := by
   intro la
   induction la with
   | nil => intro _; rfl
   | cons x la ih =>
    intro hb
    have hx : x < l.length := by have := hb x (by simp); omega
    have hox : l[x]? = some l[x] := List.getElem?_eq_getElem hx
    rw [List.filterMap_cons]
    simp only [hox, List.length_cons]
    rw [ih fun i hi => hb i (by simp [hi])]
  exact key late hl1
 have hdst : ∀ (k i : Nat) (p : Nat × AV), late[k]? = some i → Ls[k]? = some p → ∃ o, l[i]? = some o ∧ o.dst = some p.1 ∧ o.guard = none ∧ OpOK P E (sttL st.slots Ls k) st.own o p.2 := by
  intro k i p hk hp
  obtain ⟨o, ho1, ho2⟩ := hfm k i hk
  obtain ⟨q1, q2, q3⟩ := e2 k o p ho2 hp
  exact ⟨o, ho1, q1, q2, q3⟩
 have hidx : ∀ {k k' i i' : Nat}, k < k' → late[k]? = some i → late[k']? = some i' → i < i' := by
  intro k k' i i' hkk hk hk'
  obtain ⟨b1, rfl⟩ := List.getElem?_eq_some_iff.1 hk
  obtain ⟨b2, rfl⟩ := List.getElem?_eq_some_iff.1 hk'
  exact List.pairwise_iff_getElem.1 hsort k k' b1 b2 hkk
 have hLs : ∀ {k i : Nat}, late[k]? = some i → ∃ p, Ls[k]? = some p := by
  intro k i hk
  have := (List.getElem?_eq_some_iff.1 hk).1
  exact ⟨_, List.getElem?_eq_getElem (by omega)⟩
 have hapart : ∀ {k k' : Nat} {p p' : Nat × AV}, k < k' → Ls[k]? = some p → Ls[k']? = some p' → p.1 ≠ p'.1 := by
  intro k k' p p' hkk hp hp'
  have b1 := (List.getElem?_eq_some_iff.1 hp).1
  have b2 := (List.getElem?_eq_some_iff.1 hp').1
  have c1 : late[k]? = some late[k] := List.getElem?_eq_getElem (by omega)
  have c2 : late[k']? = some late[k'] := List.getElem?_eq_getElem (by omega)
  obtain ⟨o, ho, hd, _⟩ := hdst k _ p c1 hp
  obtain ⟨o', ho', hd', _⟩ := hdst k' _ p' c2 hp'
  have := (hord _ _ o o' (hidx hkk c1 c2) ho ho').2.2 (hl1 _ (List.mem_of_getElem? c2)) p.1 hd
  rw [hd'] at this
  exact fun e => this (by rw [e])
 intro a w r listed hsz hcl hH hn0 htl hdone
 rw [show l.toArray.size = l.length by simp] at hsz ⊢
 clear h
 generalize hc : (late.filter fun i => !(listed.getD i false)).length = c
 induction c generalizing listed a w with
 | zero =>
  have hall : ∀ i ∈ late, listed.getD i false = true := fun i hi => by
   have := List.filter_eq_nil_iff.1 (List.eq_nil_of_length_eq_zero hc) i hi
   simpa using this
  have hrep : Rep E ⟨sttL st.slots Ls (late.filterMap (l[·]?)).length, st.own⟩ a w := by
   refine ⟨r.size, r.defers, fun t B hlook => ?_, r.own, r.apart, r.free, r.xold, r.keep⟩
   rcases look_sttL _ hlook with ⟨k, hk, hp⟩ | hb
   ·have hk2 : late[k]? = some late[k] := List.getElem?_eq_getElem (by omega)
    obtain ⟨v, v1, v2⟩ := hdone k _ _ hk2 hp (hall _ (List.mem_of_getElem? hk2))
    exact ⟨v, v1, v2 _ _⟩
   ·exact r.slots t B hb
  have hlisted : listed = headL (n + 1) (l.length - (n + 1)) := by
   apply Array.ext_getElem?
   intro i
   rw [headL_get]
   by_cases hil : i < l.length
   ·have hi1 : i < listed.size := by omega
    have hd : listed.getD i false = listed[i] := by simp [hi1]
    rw [Array.getElem?_eq_getElem hi1, ← hd]
    rcases Nat.lt_trichotomy i n with h | h | h
    ·rw [if_pos (by omega)]
     by_cases hi : i ∈ late
     ·rw [hall i hi]
     ·rw [hH i h hi]
    ·subst h; rw [if_pos (by omega), hn0]
    ·rw [if_neg (by omega), if_pos (by omega), htl i h]
   ·rw [Array.getElem?_eq_none (by omega), if_neg (by omega), if_neg (by omega)]
  have hdl : (l.drop (n + 1)).length = l.length - (n + 1) := by simp
  have := wpAny_of_seq (Q' := Q) (l.drop (n + 1)) (n + 1) listed a w (fun j => by simp [List.getElem?_drop]) (by rw [hdl, hlisted]; exact hS) (e3 a w hrep)
  rw [hdl] at this
  rw [Nat.zero_add]; exact this
 | succ c ih =>
  rw [show c + 1 + (l.length - (n + 1)) = (c + (l.length - (n + 1))) + 1 by omega]
  have hex : ∃ j, j ∈ late ∧ listed.getD j false = false := by
   cases hl : late.filter fun i => !(listed.getD i false) with
   | nil => rw [hl] at hc; simp at hc
   | cons j r =>
    have : j ∈ late.filter fun i => !(listed.getD i false) := by rw [hl]; simp
    rw [List.mem_filter] at this
    exact ⟨j, this.1, by simpa using this.2⟩
  have hready : Region.ready .any l.toArray listed ≠ [] := by
   obtain ⟨j, hj1, hj2⟩ := hex
   have hjn := hl1 j hj1
   have hleast : ∃ k, k < n ∧ listed.getD k false = false ∧ ∀ i, i < k → listed.getD i false = true := by
    clear hc hj1
    induction j using Nat.strongRecOn with
    | _ j ih2 =>
     by_cases h : ∀ i, i < j → listed.getD i false = true
     ·exact ⟨j, hjn, hj2, h⟩
     ·simp only [Classical.not_forall] at h
      obtain ⟨i, h1, h2⟩ := h
      exact ih2 i h1 (by simpa using h2) (by omega)
   obtain ⟨k, hk1, hk2, hk3⟩ := hleast
   have hkl : k < l.length := by omega
   have hok : l[k]? = some l[k] := List.getElem?_eq_getElem hkl
   have : k ∈ Region.ready .any l.toArray listed := mem_ready.2 ⟨by rw [getD_tf (by omega)]; exact hk2, l[k], by simpa using hok, fun e he hb => hk3 _ (hlow k _ hok e he hb)⟩
   intro h0
   rw [h0] at this; cases this
  refine ⟨fun h0 => absurd h0 hready, fun j hj => ?_⟩
  obtain ⟨hun', oj, hoj', hall⟩ := mem_ready.1 hj
  have hoj : l[j]? = some oj := by simpa using hoj'
  have hjl : j < l.length := (List.getElem?_eq_some_iff.1 hoj).1
  have hun : listed.getD j false = false := by rw [← getD_tf (by omega)]; exact hun'
  have hwl : ∀ i, waits l.toArray l.length j i = true → listed.getD i false = true := fun i hw => waits_listed hcl _ j i hw (fun oj' h' => by
   have : oj' = oj := by simp only [List.getElem?_toArray] at h'; rw [hoj] at h'; exact (Option.some.inj h').symm
   subst this; exact hall)
  have hjlate : j ∈ late := by
   refine Classical.byContradiction fun hjn => ?_
   rcases Nat.lt_trichotomy j n with h | h | h
   ·rw [hH j h hjn] at hun; cases hun
   ·subst h; rw [hn0] at hun; cases hun
   ·obtain ⟨i, hi1, hi2⟩ := hex
    have := hwl i (hl3 j h hjl i (by have := hl1 i hi1; omega))
    rw [hi2] at this; cases this
  have hjn := hl1 j hjlate
  obtain ⟨k, hk⟩ := List.getElem?_of_mem hjlate
  obtain ⟨p, hp⟩ := hLs hk
  obtain ⟨o, ho, hd, hg, hok⟩ := hdst k j p hk hp
  have : o = oj := by rw [hoj] at ho; exact (Option.some.inj ho).symm
  subst this
  have hopR : OpR E (sttL st.slots Ls k) st.own o a w := ⟨⟨r.own, r.apart, r.free, r.xold, r.keep⟩, fun x hx B hB' => by
   cases x with
   | tmp t =>
    have ht : t ∈ namesOf l.toArray o := by
     unfold namesOf
     refine List.mem_append_left _ (List.mem_append_right _ ?_)
     exact List.mem_filterMap.2 ⟨.tmp t, by simpa using hx, rfl⟩
    have hv : ∃ v, a.tmps[t]? = some v ∧ B.holds w.heap (OO E st.own) v := by
     rcases look_sttL _ hB' with ⟨k', hk', hp'⟩ | hb
     ·have hkb : k' < late.length := by have := (List.getElem?_eq_some_iff.1 hk).1; omega
      have hki : late[k']? = some late[k'] := List.getElem?_eq_getElem hkb
      obtain ⟨o', ho', hd', _⟩ := hdst k' _ _ hki hp'
      have hw := (hord _ _ o' o (hidx hk' hki hk) ho' hoj).1.1 t hd' ht
      obtain ⟨v, v1, v2⟩ := hdone k' _ _ hki hp' (hwl _ hw)
      exact ⟨v, v1, v2 _ _⟩
     ·exact r.slots t B hb
    obtain ⟨v, h1, h2⟩ := hv
    show B.holds _ _ (a.tmps.getD t undef)
    rw [Array.getD_eq_getD_getElem?, h1]
    exact h2
   | const v => simp only [opd, Option.some.injEq] at hB'; subst hB'; rfl
   | global g => simp only [opd, Option.some.injEq] at hB'; subst hB'; rfl
   | func f => simp only [opd, Option.some.injEq] at hB'; subst hB'; rfl⟩
  unfold wpOp
  rw [hoj']
  dsimp only
  rw [if_pos (by simp [Region.wanted, hg])]
  refine .inl (hok a w hopR _ _ fun v w' gr hv => ?_)
  have hpm : p ∈ Ls := List.mem_of_getElem? hp
  have hpn : p.1 < E.n := Nat.le_of_ble_eq_true (List.all_eq_true.1 hlt p hpm)
  have hput : ∀ t, t ≠ p.1 → (a.put o.dst v).tmps[t]? = a.tmps[t]? := fun t ht => put_tmps a _ v t (fun e => by rw [hd] at e; exact ht (Option.some.inj e).symm)
  have hself : (a.put o.dst v).tmps[p.1]? = some v := by
   rw [hd]
   simp only [Act.put]
   rw [Array.getElem?_setIfInBounds_self, if_pos (by rw [r.size]; exact hpn)]
  have hset : ∀ i, i ≠ j → (listed.setIfInBounds j true).getD i false = listed.getD i false := fun i hi => getD_set_ne false (Ne.symm hi)
  have rg := r.grow gr
  have hrep : Rep E st (a.put o.dst v) w' := by
   refine ⟨by rw [hd]; simp [Act.put, r.size], by rw [hd]; simpa [Act.put] using r.defers, fun t B hlook => ?_, rg.own, rg.apart, rg.free, rg.xold, rg.keep⟩
   obtain ⟨u, u1, u2⟩ := rg.slots t B hlook
   refine ⟨u, ?_, u2⟩
   rw [hput t (fun e => look_off hoff hlook (by rw [e]; exact List.mem_map.2 ⟨p, hpm, rfl⟩))]
   exact u1
  have hcount := filter_set_len late listed j hnd hjlate (by omega) hun
  refine ih (a.put o.dst v) w' hrep (listed.setIfInBounds j true) (by simpa using hsz) ?_ ?_ ?_ ?_ ?_ (by omega)
  ·intro k2 ok2 hk2 hl2' e he hb
   by_cases hkj : k2 = j
   ·subst hkj
    have : ok2 = o := by rw [hoj'] at hk2; exact (Option.some.inj hk2).symm
    subst this
    exact getD_set_true (hall e he hb)
   ·rw [hset k2 hkj] at hl2'
    exact getD_set_true (hcl k2 ok2 hk2 hl2' e he hb)
  ·exact fun i h1 h2 => getD_set_true (hH i h1 h2)
  ·exact getD_set_true hn0
  ·intro t ht
   rw [hset t (by omega)]; exact htl t ht
  ·intro k2 i2 p2 hk2 hp2 hl2'
   by_cases hkk : k2 = k
   ·subst hkk
    rw [hp] at hp2
    cases hp2
    exact ⟨v, hself, fun h O => hpl p hpm _ _ _ _ _ hv⟩
   ·have hi2 : i2 ≠ j := by
     rcases Nat.lt_or_gt_of_ne hkk with h | h
     ·have := hidx h hk2 hk; omega
     ·have := hidx h hk hk2; omega
    rw [hset i2 hi2] at hl2'
    obtain ⟨u, u1, u2⟩ := hdone k2 i2 p2 hk2 hp2 hl2'
    refine ⟨u, ?_, u2⟩
    rw [hput _ ?_]
    ·exact u1
    ·rcases Nat.lt_or_gt_of_ne hkk with h | h
     ·exact hapart h hp2 hp
     ·exact fun e => hapart h hp hp2 e.symm
theorem DInv.endL {late : List Nat} {sm : List (Nat × AV)} (inv : DInv E own s D A l n f listed a w) (hB : drawF l n f2 = true) (hn : n ≤ l.length) (hspec : ∀ k o, k < n → l[k]? = some o → o.dst = some (D k) ∧ D k < E.n ∧ Spec P E own l.toArray (stt s D A k) o (A k))
  (hall : ∀ i, i < n → i ∉ late → listed.getD i false = true) (hsm : SubS sm (stt s D A n)) (hoff : ∀ i ∈ late, ∀ t B, look sm t = some B → t ≠ D i) : Rep E ⟨sm, own⟩ a w := by
 obtain ⟨hord, _⟩ := drawB_spec hB
 refine ⟨inv.size, inv.defers, fun t B hlook0 => ?_, inv.world.own, inv.world.apart, inv.world.free, inv.world.xold, inv.world.keep⟩
 have hlook : look (stt s D A n) t = some B := hsm.look hlook0
 by_cases hex : ∃ i, i < n ∧ D i = t
 ·obtain ⟨i, hin, hit⟩ := hex
  have hil : i < l.length := by omega
  have hoi : l[i]? = some l[i] := List.getElem?_eq_getElem hil
  have hdi := (hspec i _ (by omega) hoi).1
  have hl2 : look (stt s D A n) (D i) = some (A i) := look_stt_some n hin fun k hk1 hk2 hk3 => by
   have hkl : k < l.length := by omega
   have hok : l[k]? = some l[k] := List.getElem?_eq_getElem hkl
   have := (hord i k _ _ hk1 hoi hok).2.2 (by omega) (D i) hdi
   rw [(hspec k _ (by omega) hok).1] at this
   exact this (by rw [hk3])
  rw [← hit, hl2] at hlook
  cases hlook
  rw [← hit]
  exact inv.done i hin (hall i hin fun hm => hoff i hm t _ hlook0 hit.symm)
 ·have hno : ∀ i, i < n → D i ≠ t := fun i h1 h2 => hex ⟨i, h1, h2⟩
  rw [look_stt_none n hno] at hlook
  exact inv.base t B hlook fun i hin _ => hno i hin
theorem ent_drawP2 {st : St} {Q : Exit → Act → World → Prop} {id : Nat} {l : List Oper} (n : Nat) (late : List Nat) (Ls sm : List (Nat × AV)) {t0 : Oper} (hm : P.follows .mixedOrders = true) (hB : drawF l n n = true) (hL : lateB l n late t0.dst Ls = true) (ht0 : l[n]? = some t0)
  (hsort : decide (late.Pairwise (· < ·)) = true) (hll : (late.map fun i => ((l[i]?).bind (·.dst))) = Ls.map fun p => some p.1) (hoff : offB (Ls.map (·.1)) sm = true) (hpl : ∀ p ∈ Ls, Pl p.2)
  (h : DW P E st.own l.toArray (l.take n) st.slots (fun s' => SubS sm s' ∧ SubS Ls s'))
  (k : Ent E ⟨sm, st.own⟩ (wpList P l.toArray (QK Q (PH1 P l.toArray Q n late Ls)) [t0])) :
  Ent E st ((Code.region id l.toArray true).wp P Q) := by
 intro a w r
 obtain ⟨hnl, hl1, hl2, hl3, hl5⟩ := lateB_spec hL
 have hnl' : n ≤ l.length := by omega
 obtain ⟨D, A, h1, h2, h3⟩ := dw_fun l.toArray _ _ _ h
 have hlen : (l.take n).length = n := by simp [hnl']
 rw [hlen] at h2 h3
 have hspec : ∀ k o, k < n → l[k]? = some o → o.dst = some (D k) ∧ D k < E.n ∧ Spec P E st.own l.toArray (stt st.slots D A k) o (A k) := fun k o hk ho => h1 k o (by rw [List.getElem?_take, if_pos hk]; exact ho)
 obtain ⟨hord, hlow⟩ := drawB_spec hB
 refine wp_region_any hm ?_
 have r1 : Rep E st a w.drew := r.grow (Grow.drew w)
 have inv := rep_start (D := D) (A := A) (l := l) (n := n) r1
 have h0 : (Array.replicate 0 true ++ Array.replicate (l.length - 0) false) = Array.replicate l.length false := by simp
 rw [h0] at inv
 have hDk : ∀ (k i : Nat) (p : Nat × AV), late[k]? = some i → Ls[k]? = some p → D i = p.1 ∧ A i = p.2 := by
  intro k i p hk hp
  have hin := hl1 i (List.mem_of_getElem? hk)
  have hil : i < l.length := by omega
  have hoi : l[i]? = some l[i] := List.getElem?_eq_getElem hil
  have hd := (hspec i _ hin hoi).1
  have e : (late.map fun i => ((l[i]?).bind (·.dst)))[k]? = (Ls.map fun p => some p.1)[k]? := by rw [hll]
  rw [List.getElem?_map, List.getElem?_map, hk, hp] at e
  simp only [Option.map_some, Option.some.injEq, hoi, Option.bind_some] at e
  rw [hd] at e
  have hD : D i = p.1 := Option.some.inj e
  refine ⟨hD, ?_⟩
  have hl : look (stt st.slots D A n) (D i) = some (A i) := look_stt_some n hin fun k hk1 hk2 hk3 => by
   have hkl : k < l.length := by omega
   have hok : l[k]? = some l[k] := List.getElem?_eq_getElem hkl
   have := (hord i k _ _ hk1 hoi hok).2.2 (by omega) (D i) hd
   rw [(hspec k _ (by omega) hok).1] at this
   exact this (by rw [hk3])
  have hp2 : look Ls p.1 = some p.2 → A i = p.2 := fun hh => by
   have := h3.look hh
   rw [← hD, hl] at this
   exact Option.some.inj this
  refine hp2 ?_
  have hap : ∀ (k2 : Nat) (p2 : Nat × AV), k2 < k → Ls[k2]? = some p2 → p2.1 ≠ p.1 := by
   intro k2 p2 hkk hp2 e2
   have b2 := (List.getElem?_eq_some_iff.1 hk).1
   have hk2 : late[k2]? = some late[k2] := List.getElem?_eq_getElem (by omega)
   have hin2 := hl1 _ (List.mem_of_getElem? hk2)
   have hoi2 : l[late[k2]]? = some l[late[k2]] := List.getElem?_eq_getElem (by omega)
   have hd2 := (hspec _ _ hin2 hoi2).1
   have e' : (late.map fun i => ((l[i]?).bind (·.dst)))[k2]? = (Ls.map fun p => some p.1)[k2]? := by rw [hll]
   rw [List.getElem?_map, List.getElem?_map, hk2, hp2] at e'
   simp only [Option.map_some, Option.some.injEq, hoi2, Option.bind_some] at e'
   rw [hd2] at e'
   have hD2 : D late[k2] = p2.1 := Option.some.inj e'
   have hlt : late[k2] < i := by
    obtain ⟨b1, hb1⟩ := List.getElem?_eq_some_iff.1 hk
    have := List.pairwise_iff_getElem.1 (of_decide_eq_true hsort) k2 k (by omega) b1 hkk
    rw [hb1] at this; exact this
   have := (hord _ _ _ _ hlt hoi2 hoi).2.2 hin _ hd2
   rw [hd] at this
   exact this (by rw [hD, hD2, e2])
  clear hp2 hl hD e h3 hll hoff hpl
  clear hL
  have key : ∀ (L : List (Nat × AV)) (k : Nat), L[k]? = some p → (∀ (k2 : Nat) (p2 : Nat × AV), k2 < k → L[k2]? = some p2 → p2.1 ≠ p.1) → look L p.1 = some p.2 := by
   intro L
   induction L with
   | nil => intro k hk; simp at hk
   | cons q L ih =>
    intro k hk hap
    obtain ⟨qd, qA⟩ := q
    rw [look_cons]
    cases k with
    | zero =>
     simp only [List.getElem?_cons_zero, Option.some.injEq] at hk
     subst hk; rw [if_pos rfl]
    | succ k =>
     have := hap 0 (qd, qA) (by omega) rfl
     rw [if_neg this]
     exact ih k (by simpa using hk) fun k2 p2 h2 h3 => hap (k2 + 1) p2 (by omega) (by simpa using h3)
  exact key Ls k hp hap
 have hLs : ∀ {k i : Nat}, late[k]? = some i → ∃ p, Ls[k]? = some p := by
  intro k i hk
  have b := (List.getElem?_eq_some_iff.1 hk).1
  have : late.length = Ls.length := by simpa using congrArg List.length hll
  exact ⟨_, List.getElem?_eq_getElem (by omega)⟩
 have notlater : ∀ (listed : Array Bool) (a : Act) (w : World), DInv E st.own st.slots D A l n 0 listed a w → ∀ j, j ∈ Region.ready .any l.toArray listed → j ≤ n := by
  intro listed a w inv j hj
  refine Classical.byContradiction fun hjn => ?_
  obtain ⟨hun', oj, hoj', hall⟩ := mem_ready.1 hj
  have hoj : l[j]? = some oj := by simpa using hoj'
  have hjl : j < l.length := (List.getElem?_eq_some_iff.1 hoj).1
  have := waits_listed inv.closed _ j n (hl3 j (by omega) hjl n (Nat.le_refl _)) (fun oj' h' => by
   have : oj' = oj := by simp only [List.getElem?_toArray] at h'; rw [hoj] at h'; exact (Option.some.inj h').symm
   subst this; exact hall)
  rw [inv.tail n (Nat.le_refl _)] at this; cases this
 have cross : ∀ (listed : Array Bool) (a : Act) (w : World), DInv E st.own st.slots D A l n 0 listed a w → n ∈ Region.ready .any l.toArray listed →
   wpOp P l.toArray Q n (wpAny P .any l.toArray Q (((List.range n).filter fun i => !(listed.getD i false)).length + (l.length - (n + 1))) (listed.setIfInBounds n true)) a w := by
  intro listed a w inv hj
  obtain ⟨hun', oj, hoj', hall⟩ := mem_ready.1 hj
  have hoe : oj = t0 := by simp only [List.getElem?_toArray] at hoj'; rw [ht0] at hoj'; exact (Option.some.inj hoj').symm
  subst hoe
  have hnon : ∀ i, i < n → i ∉ late → listed.getD i false = true := fun i hi hlt => waits_listed inv.closed _ n i (hl2 i hi hlt) (fun oj' h' => by
   have : oj' = oj := by simp only [List.getElem?_toArray] at h'; rw [ht0] at h'; exact (Option.some.inj h').symm
   subst this; exact hall)
  have hrep : Rep E ⟨sm, st.own⟩ a w := inv.endL hB hnl' hspec hnon h2 fun i hi t B hlk e => by
   obtain ⟨k, hk⟩ := List.getElem?_of_mem hi
   obtain ⟨p, hp⟩ := hLs hk
   exact look_off hoff hlk (by rw [e, (hDk k i p hk hp).1]; exact List.mem_map.2 ⟨p, List.mem_of_getElem? hp, rfl⟩)
  have hcnt : ((List.range n).filter fun i => !(listed.getD i false)).length = (late.filter fun i => !((listed.setIfInBounds n true).getD i false)).length := by
   have e1 : (late.filter fun i => !((listed.setIfInBounds n true).getD i false)) = late.filter fun i => !(listed.getD i false) := by
    apply List.filter_congr
    intro i hi
    rw [getD_set_ne false (by have := hl1 i hi; omega)]
   rw [e1]
   have hnd : late.Nodup := by
    rw [List.nodup_iff_pairwise_ne]
    exact (of_decide_eq_true hsort).imp fun {a b} h => by omega
   refine List.Perm.length_eq ((List.perm_ext_iff_of_nodup (List.nodup_range.sublist List.filter_sublist) (hnd.sublist List.filter_sublist)).2 fun i => ?_)
   simp only [List.mem_filter, List.mem_range]
   constructor
   ·rintro ⟨h1, h2⟩
    exact ⟨Classical.byContradiction fun hn => (by rw [hnon i h1 hn] at h2; cases h2), h2⟩
   ·rintro ⟨h1, h2⟩
    exact ⟨hl1 i h1, h2⟩
  rw [hcnt]
  refine wpOp_fr (fun a' w' hfr hph => ?_) (fun _ _ _ h => h) (fun h => h) (wpList_QK (show l.toArray[n]? = some oj by simpa using ht0) (k a w hrep))
  have hset : ∀ i, i ≠ n → (listed.setIfInBounds n true).getD i false = listed.getD i false := fun i hi => getD_set_ne false (Ne.symm hi)
  have hsz : l.toArray.size = l.length := by simp
  rw [← hsz]
  refine hph (listed.setIfInBounds n true) (by simpa using inv.sz) ?_ ?_ ?_ ?_ ?_
  ·intro k2 ok2 hk2 hl2' e he hb
   by_cases hkj : k2 = n
   ·subst hkj
    have : ok2 = oj := by simp only [List.getElem?_toArray] at hk2; rw [ht0] at hk2; exact (Option.some.inj hk2).symm
    subst this
    exact getD_set_true (hall e he hb)
   ·rw [hset k2 hkj] at hl2'
    exact getD_set_true (inv.closed k2 ok2 hk2 hl2' e he hb)
  ·exact fun i h1 h2 => getD_set_true (hnon i h1 h2)
  ·have : n < listed.size := by rw [inv.sz]; exact hnl
   simp [this]
  ·intro t ht
   rw [hset t (by omega)]; exact inv.tail t (by omega)
  ·intro k2 i2 p2 hk2 hp2 hl2'
   have hin := hl1 i2 (List.mem_of_getElem? hk2)
   rw [hset i2 (by omega)] at hl2'
   obtain ⟨e1, e2⟩ := hDk k2 i2 p2 hk2 hp2
   obtain ⟨v, v1, v2⟩ := inv.done i2 hin hl2'
   rw [e1] at v1
   rw [e2] at v2
   refine ⟨v, ?_, fun h O => hpl p2 (List.mem_of_getElem? hp2) _ _ _ _ _ v2⟩
   rw [hfr p2.1 fun o ho hd => by
    have : o = oj := by simp only [List.getElem?_toArray] at ho; rw [ht0] at ho; exact (Option.some.inj ho).symm
    subst this
    exact hl5 _ hd p2 (List.mem_of_getElem? hp2) rfl]
   exact v1
 have go : ∀ (c : Nat) (listed : Array Bool) (a : Act) (w : World), ((List.range n).filter fun i => !(listed.getD i false)).length = c → DInv E st.own st.slots D A l n 0 listed a w →
   wpAny P .any l.toArray Q (c + (l.length - n)) listed a w := by
  intro c
  induction c with
  | zero =>
   intro listed a w hc inv
   have hall : ∀ i, i < n → listed.getD i false = true := fun i hi => by
    have := List.filter_eq_nil_iff.1 (List.eq_nil_of_length_eq_zero hc) i (List.mem_range.2 hi)
    simpa using this
   have hrn : n ∈ Region.ready .any l.toArray listed := mem_ready.2 ⟨by rw [getD_tf (by rw [inv.sz]; exact hnl)]; exact inv.tail n (Nat.le_refl _), t0, by simpa using ht0, fun e he hb => hall _ (hlow n _ ht0 e he hb)⟩
   rw [show 0 + (l.length - n) = (l.length - (n + 1)) + 1 by omega]
   refine ⟨fun h0 => (by rw [h0] at hrn; cases hrn), fun j hj => ?_⟩
   have hjn := notlater listed a w inv j hj
   by_cases hjn2 : j = n
   ·subst hjn2
    have := cross listed a w inv hj
    rw [hc, Nat.zero_add] at this
    exact this
   ·exfalso
    obtain ⟨hun', oj, hoj', hall'⟩ := mem_ready.1 hj
    rw [getD_tf (by rw [inv.sz]; omega), hall j (by omega)] at hun'
    cases hun'
  | succ c ih =>
   intro listed a w hc inv
   have hex : ∃ j, j < n ∧ listed.getD j false = false := by
    cases hl : (List.range n).filter fun i => !(listed.getD i false) with
    | nil => rw [hl] at hc; simp at hc
    | cons j r =>
     have : j ∈ (List.range n).filter fun i => !(listed.getD i false) := by rw [hl]; simp
     simp only [List.mem_filter, List.mem_range] at this
     exact ⟨j, this.1, by simpa using this.2⟩
   have hready : Region.ready .any l.toArray listed ≠ [] := by
    obtain ⟨j, hj1, hj2⟩ := hex
    have hleast : ∃ k, k < n ∧ listed.getD k false = false ∧ ∀ i, i < k → listed.getD i false = true := by
     clear hc
     induction j using Nat.strongRecOn with
     | _ j ih2 =>
      by_cases h : ∀ i, i < j → listed.getD i false = true
      ·exact ⟨j, hj1, hj2, h⟩
      ·simp only [Classical.not_forall] at h
       obtain ⟨i, h1, h2⟩ := h
       exact ih2 i h1 (by omega) (by simpa using h2)
    obtain ⟨k, hk1, hk2, hk3⟩ := hleast
    have hkl : k < l.length := by omega
    have hok : l[k]? = some l[k] := List.getElem?_eq_getElem hkl
    have : k ∈ Region.ready .any l.toArray listed := mem_ready.2 ⟨by rw [getD_tf (by rw [inv.sz]; exact hkl)]; exact hk2, l[k], by simpa using hok, fun e he hb => hk3 _ (hlow k _ hok e he hb)⟩
    intro h0
    rw [h0] at this; cases this
   rw [show c + 1 + (l.length - n) = (c + (l.length - n)) + 1 by omega]
   refine ⟨fun h0 => absurd h0 hready, fun j hj => ?_⟩
   have hjn := notlater listed a w inv j hj
   by_cases hjn2 : j = n
   ·subst hjn2
    have := cross listed a w inv hj
    rw [hc, show c + 1 + (l.length - (j + 1)) = c + (l.length - j) by omega] at this
    exact this
   ·obtain ⟨hun', oj, hoj', hall⟩ := mem_ready.1 hj
    have hoj : l[j]? = some oj := by simpa using hoj'
    have hjl : j < l.length := (List.getElem?_eq_some_iff.1 hoj).1
    have hun : listed.getD j false = false := by rw [← getD_tf (by rw [inv.sz]; exact hjl)]; exact hun'
    have hjn : j < n := by omega
    obtain ⟨hd1, hd2, hsp⟩ := hspec j oj hjn hoj
    have hcount : ((List.range n).filter fun i => !((listed.setIfInBounds j true).getD i false)).length = c := by
     have := filter_set_len (List.range n) listed j List.nodup_range (List.mem_range.2 hjn) (by rw [inv.sz]; exact hjl) hun
     omega
    have hnext : ∀ v w', Grow w w' → (A j).holds w'.heap (OO E st.own) v → wpAny P .any l.toArray Q (c + (l.length - n)) (listed.setIfInBounds j true) (a.put oj.dst v) w' :=
     fun v w' gr hv => ih _ _ _ hcount (inv.step2 hB hnl' hspec hoj hjn hall gr hv)
    have hopR : OpR E (stt st.slots D A j) st.own oj a w := ⟨inv.world, fun x hx B hB' => by
     cases x with
     | tmp t =>
      have ht : t ∈ namesOf l.toArray oj := by
       unfold namesOf
       refine List.mem_append_left _ (List.mem_append_right _ ?_)
       exact List.mem_filterMap.2 ⟨.tmp t, by simpa using hx, rfl⟩
      obtain ⟨v, h1, h2⟩ := inv.slot2 hnl' hB hspec hoj hjn hun hall ht hB'
      show B.holds _ _ (a.tmps.getD t undef)
      rw [Array.getD_eq_getD_getElem?, h1]
      exact h2
     | const v => simp only [opd, Option.some.injEq] at hB'; subst hB'; rfl
     | global g => simp only [opd, Option.some.injEq] at hB'; subst hB'; rfl
     | func f => simp only [opd, Option.some.injEq] at hB'; subst hB'; rfl⟩
    unfold wpOp
    rw [hoj']
    dsimp only
    unfold Spec at hsp
    split at hsp
    ·rename_i hgd
     rw [if_pos (by simp [Region.wanted, hgd])]
     exact .inl (hsp a w hopR _ _ hnext)
    ·rename_i jg want hgd
     obtain ⟨dj, gg, h1, h2, h3⟩ := hsp
     have hname : dj ∈ namesOf l.toArray oj := by
      unfold namesOf
      refine List.mem_append_right _ ?_
      rw [hgd]
      simp only [h1]
      simp
     obtain ⟨v, hv1, hv2⟩ := inv.slot2 hnl' hB hspec hoj hjn hun hall hname h2
     have hy : yielded l.toArray a.tmps jg = gg := yield_of h1 hv1 hv2
     rcases h3 with ⟨h4, h5⟩ | ⟨h4, h5⟩
     ·rw [if_pos (by simp [Region.wanted, hgd, hy, h4])]
      exact .inl (h5 a w hopR _ _ hnext)
     ·rw [if_neg (by simp [Region.wanted, hgd, hy, h4])]
      exact hnext undef w (Grow.refl w) (h5.holds _ _)
 have hcount : ((List.range n).filter fun i => !((Array.replicate l.length false).getD i false)).length = n := by
  have : ∀ i, (Array.replicate l.length false).getD i false = false := fun i => by
   rw [Array.getD_eq_getD_getElem?]
   by_cases hi : i < l.length
   ·simp [hi]
   ·simp [hi]
  rw [List.filter_eq_self.2 (fun i _ => by simp [this i])]; simp
 have := go n _ a w.drew hcount inv
 rw [show n + (l.length - n) = l.length by omega] at this
 simpa using this
end draws5
section
variable {P : Program} {E : Env}
end
theorem AllPlS.mem : ∀ {T : List (Nat × AV)}, AllPlS T → ∀ p ∈ T, Pl p.2
 | _ :: _, h, _, .head _ => h.1
 | _ :: _, h, p, .tail _ hm => AllPlS.mem h.2 p hm
section
variable {P : Program} {E : Env} {s : List (Nat × AV)} {own : List Own}
variable {d : Nat} {ty : TypeId} {pos : String} {af : Array Edge} {g : Option (Nat × Bool)}
end
section
variable {P : Program} {E : Env}
variable {s : List (Nat × AV)} {own : List Own} {d : Nat} {ty : TypeId} {pos : String} {af : Array Edge} {g : Option (Nat × Bool)}
end
section
variable {P : Program} {E : Env} {s : List (Nat × AV)} {own : List Own}
variable {d : Nat} {ty : TypeId} {pos : String} {af : Array Edge} {g : Option (Nat × Bool)}
end
section draws6
variable {P : Program} {E : Env} {own : List Own}
variable {s : List (Nat × AV)} {D : Nat → Nat} {A : Nat → AV} {l : List Oper} {n f f2 : Nat} {listed : Array Bool} {a : Act} {w : World}
end draws6
section
variable {P : Program} {E : Env}
end
def aNilF (n : Nat) (e : TypeId) : AV where
 holds h O v := ∃ b : Nat, v = .slice (some ⟨b, 0, none⟩) 0 0 ∧ ¬ O b ∧ n ≤ b ∧ h[b]? = some (.cells #[] e (0, 0))
 mono := by
  rintro h h' O O' v ⟨b, h1, h2, h3, h4⟩ hs hb ho
  have hlt : b < h.size := (Array.getElem?_eq_some_iff.1 h4).1
  exact ⟨b, h1, fun h => h2 (ho b hlt h), h3, (hb b hlt h2).trans h4⟩
section nilF
variable {P : Program} {E : Env} {s : List (Nat × AV)} {own : List Own} {d : Nat} {ty : TypeId} {pos : String} {af : Array Edge} {g : Option (Nat × Bool)}
theorem ok_build0F {T e : TypeId} {sz bytes : Nat} {agg : Bool} {z : Value} (ht : VecTy P T e sz bytes agg z) : OpOK P E s own ⟨some d, .buildSlice T 0 #[], ty, pos, af, g⟩ (aNilF E.w0.heap.size e) := by
 intro a w r K Q hK
 have hz : Array.map (fun x => (default : Value)) (Array.range 0) = #[] := by simp
 have hrun : (execOp a.eval ⟨some d, .buildSlice T 0 #[], ty, pos, af, g⟩).run P w = .ok (.value (.slice (some ⟨w.heap.size, 0, none⟩) 0 0)) (w.alloc (.cells #[] e)) := by
  simp [execOp, Instr.buildSlice, run_underlying ht.und, ht.sl.size, newRow, Instr.fill, hz]
 unfold Oper.wp
 rw [hrun, Oper.upon_value]
 exact hK _ _ (Grow.alloc _ _) ⟨w.heap.size, rfl, fun hO => absurd (r.lt _ hO) (by omega), r.world.keep.size, heap_alloc_new w _⟩
theorem ok_append0F {α : Type} {T e : TypeId} {bytes : Nat} {z : Value} {enc : α → AV} {ys : List α} {x yv : Operand} {B : AV}
  (ht : VecTy P T e 1 bytes false z) (hpl : ∀ y, Pl (enc y)) (hx : opd s x = some (aNilF E.w0.heap.size e)) (hy : opd s yv = some B) (hc : Cv E own (OO E own) B (aSl 1 false enc ys))
  (hn : ys.length * bytes ≤ 140737488355328) (hn2 : ys.length ≤ 140737488355328) (hone : ∀ y ∈ ys, One (enc y) := by simp [one_int, one_bool, one_sl]) :
  OpOK P E s own ⟨some d, .call { callee := .builtin .append, args := #[x, yv], argTypes := #[T, T] }, ty, pos, af, g⟩ (aFr E.w0.heap.size (aVec e 1 false enc ys)) := by
 intro a w r K Q hK
 obtain ⟨ii, i1, i2, i3, i4⟩ := ht.info
 obtain ⟨p, c, hv, hle, hmax, _, hel⟩ := hc w _ r.world (r.ev yv (by simp [Op.operands, Call.operands]) B hy)
 obtain ⟨nb, hxe, hnO, hnn, hnh⟩ := r.ev x (by simp [Op.operands, Call.operands]) _ hx
 unfold Oper.wp
 by_cases h0 : ys = []
 ·subst h0
  have hrun : (Builtin.append_ #[T, T] ty #[.slice (some ⟨nb, 0, none⟩) 0 0, .slice p 0 c]).run P w = .ok (.slice (some ⟨nb, 0, none⟩) 0 0) w := by
   cases p <;> simp [Builtin.append_, run_underlying ht.und, sizeOf, typeInfo, i1, i3, Builtin.lenOf, Builtin.firstCells, loadCells, loadCellsFrom, storeCells]
  have : (execOp a.eval ⟨some d, .call { callee := .builtin .append, args := #[x, yv], argTypes := #[T, T] }, ty, pos, af, g⟩).run P w = .ok (.value (.slice (some ⟨nb, 0, none⟩) 0 0)) w := by
   simp only [List.length_nil] at hv
   simp only [execOp, resolve, invoke, builtin, Sem.run_bind, Sem.run_pure, Result.andThen_ok, List.map_toArray, List.map_cons, List.map_nil, hxe, hv, hrun]
  rw [this, Oper.upon_value]
  refine hK _ _ (Grow.refl w) ⟨some nb, 0, rfl, ⟨by simp, fun _ => rfl, .inr ⟨nb, #[], rfl, hnh, Nat.le_refl _, Nat.zero_le _, by simp, fun i x hx => by simp at hx⟩⟩, ?_⟩
  rintro b hb (hO | hO)
  ·cases hb; exact hnO hO
  ·cases hb; omega
 ·have hpos : 0 < ys.length := List.length_pos_iff.2 h0
  obtain ⟨b0, off0, us0, hp, _, _, _⟩ := hel 0 ys[0] (List.getElem?_eq_getElem hpos)
  have hcell : ∀ i, ∃ u, ∀ y, ys[i]? = some y → w.cell? ⟨b0, off0 + i, none⟩ = some u ∧ (enc y).holds w.heap (OO E own) u := by
   intro i
   by_cases hi : i < ys.length
   ·obtain ⟨b, off, us, hp', hl, hcc, henc⟩ := hel i ys[i] (List.getElem?_eq_getElem hi)
    rw [hp] at hp'; cases hp'
    match us, hl with
    | [u], _ =>
     refine ⟨u, fun y hy => ?_⟩
     rw [List.getElem?_eq_getElem hi] at hy; cases hy
     have := hcc.cell (j := 0) (u := u) rfl
     exact ⟨by simpa using this, henc⟩
   ·exact ⟨undef, fun y hy => by rw [List.getElem?_eq_none (by omega)] at hy; cases hy⟩
  let f : Nat → Value := fun i => Classical.choose (hcell i)
  have hf : ∀ i y, ys[i]? = some y → w.cell? ⟨b0, off0 + i, none⟩ = some (f i) ∧ (enc y).holds w.heap (OO E own) (f i) := fun i => Classical.choose_spec (hcell i)
  let news := (List.range ys.length).map f
  have hlen : news.length = ys.length := by simp [news]
  have hget : ∀ (j : Nat) u, news[j]? = some u → ∃ hj : j < ys.length, u = f j := by
   intro j u hu
   have hj : j < ys.length := by rw [← hlen]; exact (List.getElem?_eq_some_iff.1 hu).1
   refine ⟨hj, ?_⟩
   have : news[j]? = some (f j) := by simp [news, hj]
   rw [this] at hu; cases hu; rfl
  have hr := run_append_grow (P := P) w T ty e ii z ht.und i1 i2 ⟨nb, 0, none⟩ 0 0 [] (by simp) (fun j u hu => by simp at hu) ⟨b0, off0, none⟩ ys.length c news (by rw [i3, hlen, Nat.mul_one])
   (fun j u hu => by
    obtain ⟨hj, rfl⟩ := hget j u hu
    rw [addr_add]; exact (hf j _ (List.getElem?_eq_getElem hj)).1) (by omega) (by omega) (by rw [i4]; exact growslice_fits (by omega) (by rw [Nat.zero_add]; exact hn))
  have hge := grownCap_ge w (0 + ys.length) 0 e
  have hle2 := grownCap_le_maxLen w (0 + ys.length) 0 e (by simp only [maxLen]; omega)
  have hrun : (execOp a.eval ⟨some d, .call { callee := .builtin .append, args := #[x, yv], argTypes := #[T, T] }, ty, pos, af, g⟩).run P w =
    .ok (.value (.slice (some ⟨w.heap.size, 0, none⟩) (0 + ys.length) (grownCap w (0 + ys.length) 0 e))) (w.drew.alloc (.cells (([] : List Value).toArray ++ news.toArray ++ Builtin.zeroCells z.cells (grownCap w (0 + ys.length) 0 e - (0 + ys.length))) e)) := by
   simp only [execOp, resolve, invoke, builtin, Sem.run_bind, Sem.run_pure, Result.andThen_ok, List.map_toArray, List.map_cons, List.map_nil, hxe, hv, hp, hr]
  rw [hrun, Oper.upon_value]
  have gr := (Grow.drew w).trans (Grow.alloc w.drew (.cells (([] : List Value).toArray ++ news.toArray ++ Builtin.zeroCells z.cells (grownCap w (0 + ys.length) 0 e - (0 + ys.length))) e))
  refine hK _ _ gr ⟨some w.heap.size, grownCap w (0 + ys.length) 0 e, by rw [Nat.zero_add]; rfl, ⟨hn2, fun _ => rfl, .inr ⟨w.heap.size, _, rfl, heap_alloc_new w.drew _, by omega, hle2, ?_, fun i y hy => ?_⟩⟩, ?_⟩
  ·rw [Array.size_append, size_zeroCells, ht.zs]
   simp only [List.size_toArray, List.nil_append, List.append_toArray, hlen]
   omega
  ·have hi : i < ys.length := (List.getElem?_eq_some_iff.1 hy).1
   refine ⟨[f i], rfl, fun j u hu => ?_, hpl y _ _ _ _ _ (hf i y hy).2⟩
   match j, hu with
   | 0, hu =>
    simp only [List.getElem?_cons_zero, Option.some.injEq] at hu
    subst hu
    refine ⟨?_, hone y (List.mem_of_getElem? hy) _ _ _ (hf i y hy).2⟩
    have h5 : i < news.length := by omega
    rw [Array.getElem?_append_left (by simp; omega)]
    simp [news, hi]
   | j + 1, hu => simp at hu
  ·rintro b hb (hO | hO)
   ·cases hb; exact absurd (r.lt _ hO) (by omega)
   ·cases hb; have := r.world.keep.size; omega
end nilF
section newRows
variable {P : Program} {E : Env} {s : List (Nat × AV)} {own : List Own} {d : Nat} {ty : TypeId} {pos : String} {af : Array Edge} {g : Option (Nat × Bool)}
end newRows
section
variable {P : Program} {E : Env} {st : St} {Q : Exit → Act → World → Prop} {ops : Array Oper} {rest : List Oper} {s : List (Nat × AV)} {own : List Own}
variable {d : Nat} {ty : TypeId} {pos : String} {af : Array Edge}
theorem app_at {α : Type} {T e : TypeId} {bytes : Nat} {z : Value} {enc : α → AV} {xs ys : List α} {r : Option Nat} {n cap k : Nat} {x yv : Operand} {O' : Nat → Prop} {a : Act} {w : World} (hf : Flat enc) (rp : Rep E st a w)
  (hd : Nat.ble (d + 1) E.n = true) (ht : VecTy P T e 1 bytes false z)
  (hk : st.own[k]? = some (oVec r cap e 1 false enc xs)) (hx : opd st.slots x = some (aEx (vec r n cap))) (hnn : n = xs.length)
  (hyv : (aSl 1 false enc ys).holds w.heap O' (a.eval yv))
  (hn : (xs.length + ys.length) * bytes ≤ 140737488355328) (hn2 : xs.length + ys.length ≤ 140737488355328)
  (kk : ∀ r' cap', Ent E ⟨(d, aEx (vec r' (xs ++ ys).length cap')) :: st.slots, st.own.set k (oVec r' cap' e 1 false enc (xs ++ ys))⟩ (wpList P ops Q rest)) (hone : ∀ y ∈ ys, One (enc y) := by simp [one_int, one_bool, one_sl]) :
  wpList P ops Q (⟨some d, .call { callee := .builtin .append, args := #[x, yv], argTypes := #[T, T] }, ty, pos, af, none⟩ :: rest) a w := by
 subst hnn
 obtain ⟨ii, i1, i2, i3, i4⟩ := ht.info
 obtain ⟨p, c, hv, hle, hmax, _, hel⟩ := hyv
 have hxe : a.eval x = vec r xs.length cap := rp.evalEx hx
 refine wpList_plain rfl fun K hK => ?_
 unfold Oper.wp
 by_cases h0 : ys = []
 ·subst h0
  have hown := rp.own _ (List.mem_of_getElem? hk)
  have hcap : xs.length ≤ cap := by
   rcases hown.2.2 with ⟨_, h2, _⟩ | ⟨b, cur, _, _, g3, _⟩
   ·rw [h2]; exact Nat.zero_le _
   ·exact g3
  have hrun : (Builtin.append_ #[T, T] ty #[vec r xs.length cap, .slice p 0 c]).run P w = .ok (vec r xs.length cap) w := by
   cases r <;> cases p <;> simp [Builtin.append_, run_underlying ht.und, sizeOf, typeInfo, i1, i3, Builtin.lenOf, Builtin.firstCells, loadCells, loadCellsFrom, hcap, storeCells, vec]
  have : (execOp a.eval ⟨some d, .call { callee := .builtin .append, args := #[x, yv], argTypes := #[T, T] }, ty, pos, af, none⟩).run P w = .ok (.value (vec r xs.length cap)) w := by
   simp only [List.length_nil] at hv
   simp only [execOp, resolve, invoke, builtin, Sem.run_bind, Sem.run_pure, Result.andThen_ok, List.map_toArray, List.map_cons, List.map_nil, hxe, hv, hrun]
  rw [this, Oper.upon_value]
  have k2 := kk r cap
  rw [List.append_nil, list_set_self hk] at k2
  exact hK _ _ (k2 _ _ (rp.put (Nat.le_of_ble_eq_true hd) (A := aEx (vec r xs.length cap)) rfl))
 ·have hpos : 0 < ys.length := List.length_pos_iff.2 h0
  obtain ⟨b0, off0, us0, hp, _, _, _⟩ := hel 0 ys[0] (List.getElem?_eq_getElem hpos)
  have hcell : ∀ i, ∃ u, ∀ y, ys[i]? = some y → w.cell? ⟨b0, off0 + i, none⟩ = some u ∧ (enc y).holds w.heap (OO E st.own) u := by
   intro i
   by_cases hi : i < ys.length
   ·obtain ⟨b, off, us, hp', hl, hcc, henc⟩ := hel i ys[i] (List.getElem?_eq_getElem hi)
    rw [hp] at hp'; cases hp'
    match us, hl with
    | [u], _ =>
     refine ⟨u, fun y hy => ?_⟩
     rw [List.getElem?_eq_getElem hi] at hy; cases hy
     have := hcc.cell (j := 0) (u := u) rfl
     exact ⟨by simpa using this, hf _ _ _ _ _ _ henc⟩
   ·exact ⟨undef, fun y hy => by rw [List.getElem?_eq_none (by omega)] at hy; cases hy⟩
  let g : Nat → Value := fun i => Classical.choose (hcell i)
  have hg : ∀ i y, ys[i]? = some y → w.cell? ⟨b0, off0 + i, none⟩ = some (g i) ∧ (enc y).holds w.heap (OO E st.own) (g i) := fun i => Classical.choose_spec (hcell i)
  have hlen : ((List.range ys.length).map g).length = ys.length := by simp
  have hget : ∀ j u, ((List.range ys.length).map g)[j]? = some u → ∃ hj : j < ys.length, u = g j := by
   intro j u hu
   rw [List.getElem?_map] at hu
   cases hr : (List.range ys.length)[j]? with
   | none => rw [hr] at hu; cases hu
   | some i =>
    rw [hr] at hu
    obtain ⟨h1, h2⟩ := List.getElem?_eq_some_iff.1 hr
    rw [List.getElem_range] at h2
    subst h2
    exact ⟨by simpa using h1, by simpa using hu.symm⟩
  have hsrc : Src w (OO E st.own) 1 false enc ys ⟨b0, off0, none⟩ ((List.range ys.length).map g) := by
   refine ⟨by simp, fun j u hu => ?_, fun u hu => ?_, fun i y hy => ?_⟩
   ·obtain ⟨hj, rfl⟩ := hget j u hu
    rw [addr_add]; exact (hg j _ (List.getElem?_eq_getElem hj)).1
   ·obtain ⟨j, hj0⟩ := List.mem_iff_getElem?.1 hu
    obtain ⟨hj, rfl⟩ := hget j u hj0
    exact hone _ (List.getElem_mem hj) _ _ _ (hg j _ (List.getElem?_eq_getElem hj)).2
   ·have hi : i < ys.length := (List.getElem?_eq_some_iff.1 hy).1
    have : ((List.range ys.length).map g)[i]? = some (g i) := by simp [hi]
    rw [Nat.mul_one, drop_take_one _ _ _ this]
    exact (hg i y hy).2
  obtain ⟨b', cap', w', h1, h2, h3, h4⟩ := append_core (P := P) (E := E) (own := st.own) (c := c) ht hk (rp.own _ (List.mem_of_getElem? hk)) hsrc hn hn2 hpos ty
  have hrun : (execOp a.eval ⟨some d, .call { callee := .builtin .append, args := #[x, yv], argTypes := #[T, T] }, ty, pos, af, none⟩).run P w = .ok (.value (vec (some b') (xs.length + ys.length) cap')) w' := by
   simp only [execOp, resolve, invoke, builtin, Sem.run_bind, Sem.run_pure, Result.andThen_ok, List.map_toArray, List.map_cons, List.map_nil, hxe, hv, hp, h1]
  rw [hrun, Oper.upon_value]
  have k2 := kk (some b') cap'
  rw [List.length_append] at k2
  have r3 := rp.change (o' := oVec (some b') cap' e 1 false enc (xs ++ ys)) hk h2 (fun b hb => by cases hb; exact h3) h4
  exact hK _ _ (k2 _ _ (r3.put (Nat.le_of_ble_eq_true hd) (A := aEx (vec (some b') (xs.length + ys.length) cap')) rfl))
def ReadSl {α : Type} (enc : α → AV) (ys : List α) (B : AV) : Prop := ∀ h O v, B.holds h O v → ∃ O', (aSl 1 false enc ys).holds h O' v
theorem read_sl {α : Type} {enc : α → AV} {ys : List α} : ReadSl enc ys (aSl 1 false enc ys) := fun _ O _ h => ⟨O, h⟩
theorem ent_drawV1A {id : Nat} {l : List Oper} {α : Type} {T e : TypeId} {bytes : Nat} {z : Value} {enc : α → AV} {xs ys : List α} {B : AV} {dy d2 : Nat} (n : Nat) (fl : List Nat) (d : Nat) (keep old : List (Nat × AV)) (hm : P.follows .mixedOrders = true) (hn : Nat.ble n l.length = true) (hB : drawF l n n = true) (hF : flB l n fl = true) (hsel : Region.noSelect l.toArray = true)
  (hS : Region.seqB .any l.toArray (l.length - n) n (Array.replicate n true ++ Array.replicate (l.length - n) false) = true) (hQ : ∀ c a w (d : Nat) v, Q (.panic c) (a.put (some d) v) w → Q (.panic c) a w)
  (hl : l.drop n = ⟨some d2, .call { callee := .builtin .append, args := #[.tmp d, .tmp dy], argTypes := #[T, T] }, ty, pos, af, none⟩ :: rest) (hd2 : Nat.ble (d2 + 1) E.n = true) (ht : VecTy P T e 1 bytes false z)
  (hf : Flat enc) (hone : ∀ y ∈ ys, One (enc y)) (hpl : ∀ p ∈ keep, Pl p.2) (hold : SubS old st.slots) (hoff : offB (dstsOf l) old = true) (hr : ReadSl enc ys B)
  (hz : (xs.length + ys.length) * bytes ≤ 140737488355328) (hz2 : xs.length + ys.length ≤ 140737488355328)
  (h : ∀ w : World, DW P (E.re w st.own) st.own l.toArray (l.take n) st.slots (fun s' => look s' d = some (aFr w.heap.size (aVec e 1 false enc xs)) ∧ look s' dy = some B ∧ SubS keep s'))
  (k : ∀ r c r0 c0, Ent E ⟨(d2, aEx (vec r (xs ++ ys).length c)) :: (d, aEx (vec r0 xs.length c0)) :: (keep ++ old), oVec r c e 1 false enc (xs ++ ys) :: st.own⟩ (wpList P l.toArray Q rest)) :
  Ent E st ((Code.region id l.toArray true).wp P Q) := by
 refine ent_drawO n fl hm hn hB hF hsel hS hQ fun a w r => ?_
 refine DW.mono (h w) ?_
 rintro s' ⟨h1, h2, h3⟩ a' w' r' g ag
 obtain ⟨v1, p1, rr1, c1, rfl, q1, n1⟩ := r'.slots d _ h1
 obtain ⟨v2, p2, q2⟩ := r'.slots dy _ h2
 obtain ⟨O', q2'⟩ := hr _ _ _ q2
 have f1 : ∀ b, rr1 = some b → w.heap.size ≤ b ∧ ¬ OO E st.own b := fun b hb => by
  have := n1 b hb
  exact ⟨Nat.le_of_not_lt fun hlt => this (.inr hlt), fun hO => this (.inl hO)⟩
 have rp := rep_own (l := l) (o := oVec rr1 c1 e 1 false enc xs) r r' g ag p1 f1 (oVec_flat hf q1) h3 hpl hold hoff
 rw [hl]
 refine app_at (k := 0) (n := xs.length) (O' := O') hf rp hd2 ht rfl (show opd _ (.tmp d) = some _ from ?_) rfl ?_ hz hz2 (fun r2 c2 => k r2 c2 rr1 c1) hone
 ·show (bif Nat.beq d d then some _ else _) = some _
  simp
 ·show (aSl 1 false enc ys).holds w'.heap O' (a'.tmps.getD dy undef)
  rw [Array.getD_eq_getD_getElem?, p2]; exact q2'
end
section arrays
variable {P : Program} {E : Env} {st : St} {s : List (Nat × AV)} {own : List Own} {d : Nat} {ty : TypeId} {pos : String} {af : Array Edge} {g : Option (Nat × Bool)}
end arrays
section arrays
open Go.ChangeShapes Go.WideShapes Go.ChangeAt Go.RowKit Go.Deep
variable {H : Type} {encH : TypeId × Value → H} {P : Program} {W : World}
theorem rdl_arr3 {α : Type} {t e : TypeId} {enc : α → AV} {good : α → Prop} (hu : P.underlying t = some (.array 3 e)) (hc : P.cellsOf t = 3) (he : P.cellsOf e = 1) (h : RdC encH P W e 1 false enc good) :
  RdL encH P W t 3 (fun p : α × α × α => [enc p.1, enc p.2.1, enc p.2.2]) (fun p => good p.1 ∧ good p.2.1 ∧ good p.2.2) := by
 intro fuel cs x ht
 obtain ⟨xs, m, rfl, _, hl, hxl, hx⟩ := DataW.trod_array hu ht
 rw [hc] at hl
 have key : ∀ i, i < 3 → ∃ a, good a ∧ (enc a).holds W.heap (fun _ => False) (mkV false ((cs.drop i).take 1)) := fun i hi => by
  have := hx i hi
  rw [he, Nat.mul_one] at this
  obtain ⟨_, a, ha, hb⟩ := h m _ (xs[i]'(by omega)) (by rw [this]; exact List.getElem?_eq_getElem _)
  exact ⟨a, ha, hb⟩
 match cs, hl with
 | [c0, c1, c2], _ =>
  obtain ⟨a0, g0, h0⟩ := key 0 (by omega)
  obtain ⟨a1, g1, h1⟩ := key 1 (by omega)
  obtain ⟨a2, g2, h2⟩ := key 2 (by omega)
  refine ⟨rfl, (a0, a1, a2), ⟨g0, g1, g2⟩, rfl, fun i A c hA hcc => ?_⟩
  match i, hA, hcc with
  | 0, hA, hcc => simp only [List.getElem?_cons_zero, Option.some.injEq] at hA hcc; subst hA hcc; exact h0
  | 1, hA, hcc => simp only [List.getElem?_cons_succ, List.getElem?_cons_zero, Option.some.injEq] at hA hcc; subst hA hcc; exact h1
  | 2, hA, hcc => simp only [List.getElem?_cons_succ, List.getElem?_cons_zero, Option.some.injEq] at hA hcc; subst hA hcc; exact h2
  | i + 3, hA, _ => simp at hA
theorem mk_array {t e : TypeId} {n base : Nat} {v : Value} (hu : P.underlying t = some (.array n e)) (h : Value.okWide P W .any base t v) : v = mkV true v.cells.toList := by
 simp only [Value.okWide, hu] at h
 obtain ⟨cs, rfl, _⟩ := h; rfl
end arrays
section
variable {P : Program} {E : Env}
end
section drawsB
variable {P : Program} {E : Env} {own : List Own}
variable {s : List (Nat × AV)} {D : Nat → Nat} {A : Nat → AV} {l : List Oper} {n f f2 : Nat} {listed : Array Bool} {a : Act} {w : World}
def DLs (Ls : List (Nat × AV)) (k : Nat) : Nat := (Ls.getD k (0, aAny)).1
def ALs (Ls : List (Nat × AV)) (k : Nat) : AV := (Ls.getD k (0, aAny)).2
theorem sttL_stt (s : List (Nat × AV)) {Ls : List (Nat × AV)} : ∀ k, k ≤ Ls.length → sttL s Ls k = stt s (DLs Ls) (ALs Ls) k
 | 0, _ => rfl
 | k + 1, h => by
  have hk : Ls[k]? = some Ls[k] := List.getElem?_eq_getElem (by omega)
  show (match Ls[k]? with | some q => q :: sttL s Ls k | none => sttL s Ls k) = (DLs Ls k, ALs Ls k) :: stt s (DLs Ls) (ALs Ls) k
  rw [hk, sttL_stt s k (by omega)]
  simp [DLs, ALs, List.getD, hk]
theorem RepW.new {w w' : World} (r : RepW E own w) (g : Grow w w') (o : Own) (hb : ∀ b, o.has b → w.heap.size ≤ b) (ho : o.holds w'.heap (OO E (o :: own))) (a : Act) (ha : a.tmps.size = E.n) (hd : a.defers = E.ds) : RepW E (o :: own) w' := by
 have r0 : Rep E ⟨[], own⟩ a w := ⟨ha, hd, (fun i A h => by cases h), r.own, r.apart, r.free, r.xold, r.keep⟩
 have r1 := r0.new g o hb ho
 exact ⟨r1.own, r1.apart, r1.free, r1.xold, r1.keep⟩
end drawsB
section drawsW
variable {P : Program} {E : Env} {own : List Own}
theorem RepW.news {w w' : World} {news : List Own} (r : RepW E own w) (g : Grow w w') (hb : ∀ o ∈ news, ∀ b, o.has b → w.heap.size ≤ b) (ho : ∀ o ∈ news, o.holds w'.heap (OO E (news ++ own))) (hap : news.Pairwise fun o o' => ∀ b, o.has b → ¬ o'.has b) (a : Act) (ha : a.tmps.size = E.n) (hd : a.defers = E.ds) :
  RepW E (news ++ own) w' ∧ ∀ (A : AV) v, A.holds w.heap (OO E own) v → A.holds w'.heap (OO E (news ++ own)) v := by
 have r0 : Rep E ⟨[], own⟩ a w := ⟨ha, hd, (fun i A h => by cases h), r.own, r.apart, r.free, r.xold, r.keep⟩
 have hlt : ∀ b, OO E own b → b < w.heap.size := St.O_lt r0
 have hO : ∀ b, b < w.heap.size → OO E (news ++ own) b → OO E own b := by
  rintro b hbs (h | ⟨o, hm, hob⟩)
  ·exact .inl h
  ·rcases List.mem_append.1 hm with hm | hm
   ·have := hb o hm b hob; omega
   ·exact .inr ⟨o, hm, hob⟩
 have hav : ∀ (A : AV) v, A.holds w.heap (OO E own) v → A.holds w'.heap (OO E (news ++ own)) v := fun A v h => A.mono _ _ _ _ _ h g.size (fun b hbs _ => g.block b hbs) hO
 refine ⟨⟨fun o hm => ?_, ?_, fun o hm b hob => ?_, r.xold, ?_⟩, hav⟩
 ·rcases List.mem_append.1 hm with hm | hm
  ·exact ho o hm
  ·exact o.mono _ _ _ _ (r.own o hm) g.size (fun b hbs _ => g.block b hbs) hO
 ·rw [List.pairwise_append]
  exact ⟨hap, r.apart, fun o h1 o' h2 b hb1 hb2 => by have := hb o h1 b hb1; have := hlt b (.inr ⟨o', h2, hb2⟩); omega⟩
 ·rcases List.mem_append.1 hm with hm | hm
  ·have h1 := hb o hm b hob
   have h2 := r.keep.size
   exact ⟨fun hx => by have := r.xold b hx; omega, .inl (by omega)⟩
  ·exact r.free o hm b hob
 ·have hk := r.keep
  exact ⟨g.os.trans hk.os, g.tape.trans hk.tape, g.output.trans hk.output, Nat.le_trans hk.size g.size, fun b hbs hm => by rw [g.block b (Nat.lt_of_lt_of_le hbs hk.size), hk.block b hbs hm]⟩
end drawsW
end Go.Cw
