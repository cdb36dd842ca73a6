/-
  Rules of a calculus for walks.
-/
import Derived.Test.YtfjhbdfgbpcchaaClLib
namespace Go.Cw
set_option linter.unusedSimpArgs false
set_option linter.unnecessarySimpa false
set_option linter.unusedVariables false
section
variable {P : Program} {E : Env} {st : St} {Q : Exit → Act → World → Prop} {ops : Array Oper} {rest : List Oper} {s : List (Nat × AV)} {own : List Own}
variable {d : Nat} {ty : TypeId} {pos : String} {af : Array Edge} {g : Option (Nat × Bool)}
theorem subV_vec (b h cap : Nat) : subV b 1 0 h cap = vec (some b) h cap := by
 unfold subV; simp; rfl
theorem ok_cutV {T El : TypeId} {x hi : Operand} {b n cap : Nat} {h : Int} (hs : SlInfo P T El 1) (hx : opd s x = some (aEx (vec (some b) n cap))) (hh : opd s hi = some (aInt h)) (h0 : 0 ≤ h) (h1 : h ≤ n) (h2 : n ≤ cap) :
  OpOK P E s own ⟨some d, .slice T x none (some hi) none, ty, pos, af, g⟩ (aEx (vec (some b) h.toNat cap)) := by
 rw [← subV_vec]; exact ok_subTo hs hx hh h0 (by omega)
theorem oVec_take {α : Type} {r : Option Nat} {cap : Nat} {e : TypeId} {sz : Nat} {agg : Bool} {enc : α → AV} {xs : List α} (n : Nat) : ∀ h O, (oVec r cap e sz agg enc xs).holds h O → (oVec r cap e sz agg enc (xs.take n)).holds h O := by
 rintro h O ⟨h1, h2, h3⟩
 have hl : (xs.take n).length ≤ xs.length := by rw [List.length_take]; omega
 refine ⟨by omega, h2, ?_⟩
 rcases h3 with ⟨a, b, c⟩ | ⟨b, cur, rfl, g2, g3, g4, g5, g6⟩
 ·exact .inl ⟨a, by rw [b]; simp, c⟩
 ·refine .inr ⟨b, cur, rfl, g2, by omega, g4, g5, fun i x hx => ?_⟩
  rw [List.getElem?_take] at hx
  split at hx
  ·exact g6 i x hx
  ·cases hx
theorem ent_short {α : Type} {K : Act → World → Prop} (k n : Nat) {r : Option Nat} {cap : Nat} {e : TypeId} {sz : Nat} {agg : Bool} {enc : α → AV} {xs : List α} (hk : st.own[k]? = some (oVec r cap e sz agg enc xs))
  (h : Ent E ⟨st.slots, st.own.set k (oVec r cap e sz agg enc (xs.take n))⟩ K) : Ent E st K :=
 ent_asO k (oVec r cap e sz agg enc (xs.take n)) hk (fun _ hb => hb) (oVec_take n) h
theorem ent_cutV {α : Type} {T El : TypeId} {x hi : Operand} {k n : Nat} {h : Int} {r : Option Nat} {cap : Nat} {e : TypeId} {enc : α → AV} {xs : List α} (hs : SlInfo P T El 1) (hd : Nat.ble (d + 1) E.n = true)
  (hk : st.own[k]? = some (oVec r cap e 1 false enc xs)) (hx : opd st.slots x = some (aEx (vec r n cap))) (hn : n = xs.length) (hh : opd st.slots hi = some (aInt h)) (h0 : 0 ≤ h) (h1 : h ≤ xs.length)
  (kk : Ent E ⟨(d, aEx (vec r h.toNat cap)) :: st.slots, st.own.set k (oVec r cap e 1 false enc (xs.take h.toNat))⟩ (wpList P ops Q rest)) :
  Ent E st (wpList P ops Q (⟨some d, .slice T x none (some hi) none, ty, pos, af, none⟩ :: rest)) := by
 intro a w r2
 obtain ⟨_, _, h3⟩ := r2.own _ (List.mem_of_getElem? hk)
 rcases h3 with ⟨rfl, b, c⟩ | ⟨b, cur, rfl, _, g3, _⟩
 ·subst b c
  have hz : h = ((0 : Nat) : Int) := by simp at h1; omega
  subst hz
  simp at hn; subst hn
  exact ent_o hd (ok_cutNil hs hx hh) (ent_short k 0 hk kk) a w r2
 ·exact ent_o hd (ok_cutV hs hx hh h0 (by omega) (by omega)) (ent_short k h.toNat hk kk) a w r2
theorem ent_appendW {α : Type} {O' : Nat → Prop} {T e : TypeId} {bytes : Nat} {z : Value} {enc : α → AV} {xs ys : List α} {r : Option Nat} {n cap k : Nat} {x yv : Operand} {B : AV}
  (hd : Nat.ble (d + 1) E.n = true) (ht : VecTy P T e 1 bytes false z)
  (hk : st.own[k]? = some (oVec r cap e 1 false enc xs)) (hx : opd st.slots x = some (aEx (vec r n cap))) (hnn : n = xs.length)
  (hy : opd st.slots yv = some B) (hfl : Flat enc) (hc : Cv E st.own O' B (aSl 1 false enc ys))
  (hn : (xs.length + ys.length) * bytes ≤ 140737488355328) (hn2 : xs.length + ys.length ≤ 140737488355328)
  (kk : ∀ r' cap', Ent E ⟨(d, aEx (vec r' (xs ++ ys).length cap')) :: st.slots, st.own.set k (oVec r' cap' e 1 false enc (xs ++ ys))⟩ (wpList P ops Q rest)) (hone : ∀ y ∈ ys, One (enc y) := by simp [one_int, one_bool, one_sl]) :
  Ent E st (wpList P ops Q (⟨some d, .call { callee := .builtin .append, args := #[x, yv], argTypes := #[T, T] }, ty, pos, af, none⟩ :: rest)) := by
 subst hnn
 intro a w rp
 obtain ⟨ii, i1, i2, i3, i4⟩ := ht.info
 obtain ⟨p, c, hv, hle, hmax, _, hel⟩ := hc w _ rp.w (rp.eval hy)
 have hxe : a.eval x = vec r xs.length cap := rp.evalEx hx
 refine wpList_plain rfl fun K hK => ?_
 unfold Oper.wp
 by_cases h0 : ys = []
 ·subst h0
  have hown := rp.own _ (List.mem_of_getElem? hk)
  have hcap : xs.length ≤ cap := by
   rcases hown.2.2 with ⟨_, h2, _⟩ | ⟨b, cur, _, _, g3, _⟩
   ·rw [h2]; exact Nat.zero_le _
   ·exact g3
  have hrun : (Builtin.append_ #[T, T] ty #[vec r xs.length cap, .slice p 0 c]).run P w = .ok (vec r xs.length cap) w := by
   cases r <;> cases p <;> simp [Builtin.append_, run_underlying ht.und, sizeOf, typeInfo, i1, i3, Builtin.lenOf, Builtin.firstCells, loadCells, loadCellsFrom, hcap, storeCells, vec]
  have : (execOp a.eval ⟨some d, .call { callee := .builtin .append, args := #[x, yv], argTypes := #[T, T] }, ty, pos, af, none⟩).run P w = .ok (.value (vec r xs.length cap)) w := by
   simp only [List.length_nil] at hv
   simp only [execOp, resolve, invoke, builtin, Sem.run_bind, Sem.run_pure, Result.andThen_ok, List.map_toArray, List.map_cons, List.map_nil, hxe, hv, hrun]
  rw [this, Oper.upon_value]
  have k2 := kk r cap
  rw [List.append_nil, list_set_self hk] at k2
  exact hK _ _ (k2 _ _ (rp.put (Nat.le_of_ble_eq_true hd) (A := aEx (vec r xs.length cap)) rfl))
 ·have hpos : 0 < ys.length := List.length_pos_iff.2 h0
  obtain ⟨b0, off0, us0, hp, _, _, _⟩ := hel 0 ys[0] (List.getElem?_eq_getElem hpos)
  have hcell : ∀ i, ∃ u, ∀ y, ys[i]? = some y → w.cell? ⟨b0, off0 + i, none⟩ = some u ∧ (enc y).holds w.heap (OO E st.own) u := by
   intro i
   by_cases hi : i < ys.length
   ·obtain ⟨b, off, us, hp', hl, hcc, henc⟩ := hel i ys[i] (List.getElem?_eq_getElem hi)
    rw [hp] at hp'; cases hp'
    match us, hl with
    | [u], _ =>
     refine ⟨u, fun y hy => ?_⟩
     rw [List.getElem?_eq_getElem hi] at hy; cases hy
     have := hcc.cell (j := 0) (u := u) rfl
     exact ⟨by simpa using this, hfl _ _ _ _ _ _ henc⟩
   ·exact ⟨undef, fun y hy => by rw [List.getElem?_eq_none (by omega)] at hy; cases hy⟩
  let f : Nat → Value := fun i => Classical.choose (hcell i)
  have hf : ∀ i y, ys[i]? = some y → w.cell? ⟨b0, off0 + i, none⟩ = some (f i) ∧ (enc y).holds w.heap (OO E st.own) (f i) := fun i => Classical.choose_spec (hcell i)
  have hlen : ((List.range ys.length).map f).length = ys.length := by simp
  have hget : ∀ j u, ((List.range ys.length).map f)[j]? = some u → ∃ hj : j < ys.length, u = f j := by
   intro j u hu
   rw [List.getElem?_map] at hu
   cases hr : (List.range ys.length)[j]? with
   | none => rw [hr] at hu; cases hu
   | some i =>
    rw [hr] at hu
    obtain ⟨h1, h2⟩ := List.getElem?_eq_some_iff.1 hr
    rw [List.getElem_range] at h2
    subst h2
    exact ⟨by simpa using h1, by simpa using hu.symm⟩
  have hsrc : Src w (OO E st.own) 1 false enc ys ⟨b0, off0, none⟩ ((List.range ys.length).map f) := by
   refine ⟨by simp, fun j u hu => ?_, fun u hu => ?_, fun i y hy => ?_⟩
   ·obtain ⟨hj, rfl⟩ := hget j u hu
    rw [addr_add]; exact (hf j _ (List.getElem?_eq_getElem hj)).1
   ·obtain ⟨j, hj0⟩ := List.mem_iff_getElem?.1 hu
    obtain ⟨hj, rfl⟩ := hget j u hj0
    exact hone _ (List.getElem_mem hj) _ _ _ (hf j _ (List.getElem?_eq_getElem hj)).2
   ·have hi : i < ys.length := (List.getElem?_eq_some_iff.1 hy).1
    have : ((List.range ys.length).map f)[i]? = some (f i) := by simp [hi]
    rw [Nat.mul_one, drop_take_one _ _ _ this]
    exact (hf i y hy).2
  obtain ⟨b', cap', w', h1, h2, h3, h4⟩ := append_core (P := P) (E := E) (own := st.own) (c := c) ht hk (rp.own _ (List.mem_of_getElem? hk)) hsrc hn hn2 hpos ty
  have hrun : (execOp a.eval ⟨some d, .call { callee := .builtin .append, args := #[x, yv], argTypes := #[T, T] }, ty, pos, af, none⟩).run P w = .ok (.value (vec (some b') (xs.length + ys.length) cap')) w' := by
   simp only [execOp, resolve, invoke, builtin, Sem.run_bind, Sem.run_pure, Result.andThen_ok, List.map_toArray, List.map_cons, List.map_nil, hxe, hv, hp, h1]
  rw [hrun, Oper.upon_value]
  have k2 := kk (some b') cap'
  rw [List.length_append] at k2
  have r3 := rp.change (o' := oVec (some b') cap' e 1 false enc (xs ++ ys)) hk h2 (fun b hb => by cases hb; exact h3) h4
  exact hK _ _ (k2 _ _ (r3.put (Nat.le_of_ble_eq_true hd) (A := aEx (vec (some b') (xs.length + ys.length) cap')) rfl))
variable {α : Type} {er : TypeId} {enc : α → AV}
theorem app_get {β : Type} {l m : List β} {i : Nat} {x : β} (h : (l ++ m)[i]? = some x) : (l[i]? = some x ∧ i < l.length) ∨ (m[i - l.length]? = some x ∧ l.length ≤ i) := by
 by_cases hi : i < l.length
 ·rw [List.getElem?_append_left hi] at h; exact .inl ⟨h, hi⟩
 ·rw [List.getElem?_append_right (by omega)] at h; exact .inr ⟨h, by omega⟩
theorem ent_joinRows {K : Act → World → Prop} (k1 k2 : Nat) {Hs Ks : List Hdr} {xss yss : List (List α)} (hk1 : st.own[k1]? = some (oRws er enc [] Hs xss)) (hk2 : st.own[k2]? = some (oRws er enc [] Ks yss)) (hne : k1 ≠ k2)
  (h : Ent E ⟨st.slots, (st.own.set k1 (oRws er enc [] (Hs ++ Ks) (xss ++ yss))).eraseIdx k2⟩ K) : Ent E st K := by
 refine ent_join k1 k2 _ hk1 hk2 hne ?_ ?_ h
 ·rintro b ⟨i, H, _, hH, hb⟩
  rcases app_get hH with ⟨g, _⟩ | ⟨g, _⟩
  ·exact .inl ⟨_, H, List.not_mem_nil, g, hb⟩
  ·exact .inr ⟨_, H, List.not_mem_nil, g, hb⟩
 ·rintro hp O ⟨g0, g1, g2⟩ ⟨f0, f1, f2⟩ hap
  refine ⟨by simp [g0, f0], fun i H _ hH => ?_, fun i j H H' _ _ hij hH hH' b hb hb' => ?_⟩
  ·rcases app_get hH with ⟨g, hi⟩ | ⟨g, hi⟩
   ·obtain ⟨xs, a1, a2, a3⟩ := g1 i H List.not_mem_nil g
    exact ⟨xs, by rw [List.getElem?_append_left (by omega)]; exact a1, a2, a3⟩
   ·obtain ⟨xs, a1, a2, a3⟩ := f1 _ H List.not_mem_nil g
    exact ⟨xs, by rw [List.getElem?_append_right (by omega), ← g0]; exact a1, a2, a3⟩
  ·rcases app_get hH with ⟨g, hi⟩ | ⟨g, hi⟩
   ·rcases app_get hH' with ⟨g', hi'⟩ | ⟨g', hi'⟩
    ·exact g2 i j H H' List.not_mem_nil List.not_mem_nil hij g g' b hb hb'
    ·exact hap b ⟨_, H, List.not_mem_nil, g, hb⟩ ⟨_, H', List.not_mem_nil, g', hb'⟩
   ·rcases app_get hH' with ⟨g', hi'⟩ | ⟨g', hi'⟩
    ·exact hap b ⟨_, H', List.not_mem_nil, g', hb'⟩ ⟨_, H, List.not_mem_nil, g, hb⟩
    ·exact f2 _ _ H H' List.not_mem_nil List.not_mem_nil (by omega) g g' b hb hb'
theorem ent_partRows {K : Act → World → Prop} (k : Nat) (Hs Ks : List Hdr) (xss yss : List (List α)) {Hs' : List Hdr} {xss' : List (List α)} (hk : st.own[k]? = some (oRws er enc [] Hs' xss')) (e1 : Hs' = Hs ++ Ks) (e2 : xss' = xss ++ yss) (hl : Hs.length = xss.length)
  (h : Ent E ⟨st.slots, oRws er enc [] Ks yss :: st.own.set k (oRws er enc [] Hs xss)⟩ K) : Ent E st K := by
 subst e1 e2
 refine ent_split k _ _ hk ?_ ?_ ?_ h
 ·rintro b ⟨i, H, _, hH, hb⟩
  exact ⟨i, H, List.not_mem_nil, by rw [List.getElem?_append_left (List.getElem?_eq_some_iff.1 hH).1]; exact hH, hb⟩
 ·rintro b ⟨i, H, _, hH, hb⟩
  exact ⟨Hs.length + i, H, List.not_mem_nil, by rw [List.getElem?_append_right (by omega), Nat.add_sub_cancel_left]; exact hH, hb⟩
 ·rintro hp O ⟨g0, g1, g2⟩
  have hl2 : Ks.length = yss.length := by simp at g0; omega
  have up : ∀ {i H}, Ks[i]? = some H → (Hs ++ Ks)[Hs.length + i]? = some H := fun h => by rw [List.getElem?_append_right (by omega), Nat.add_sub_cancel_left]; exact h
  have dn : ∀ {i H}, Hs[i]? = some H → (Hs ++ Ks)[i]? = some H := fun h => by rw [List.getElem?_append_left (List.getElem?_eq_some_iff.1 h).1]; exact h
  refine ⟨⟨hl, fun i H _ hH => ?_, fun i j H H' _ _ hij hH hH' => g2 i j H H' List.not_mem_nil List.not_mem_nil hij (dn hH) (dn hH')⟩,
   ⟨hl2, fun i H _ hH => ?_, fun i j H H' _ _ hij hH hH' => g2 _ _ H H' List.not_mem_nil List.not_mem_nil (by omega) (up hH) (up hH')⟩, ?_⟩
  ·obtain ⟨xs, a1, a2, a3⟩ := g1 i H List.not_mem_nil (dn hH)
   have hi := (List.getElem?_eq_some_iff.1 hH).1
   rw [List.getElem?_append_left (by omega)] at a1
   exact ⟨xs, a1, a2, a3⟩
  ·obtain ⟨xs, a1, a2, a3⟩ := g1 _ H List.not_mem_nil (up hH)
   rw [List.getElem?_append_right (by omega), show Hs.length + i - xss.length = i by omega] at a1
   exact ⟨xs, a1, a2, a3⟩
  ·rintro b ⟨i, H, _, hH, hb⟩ ⟨j, H', _, hH', hb'⟩
   have hi := (List.getElem?_eq_some_iff.1 hH).1
   exact g2 i (Hs.length + j) H H' List.not_mem_nil List.not_mem_nil (by omega) (dn hH) (up hH') b hb hb'
end
end Go.Cw
