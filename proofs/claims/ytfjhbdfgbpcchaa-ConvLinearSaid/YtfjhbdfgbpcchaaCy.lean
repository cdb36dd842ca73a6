/-
  Regions that draw their order, walked in one order; memory of rows.
-/
import Derived.Test.YtfjhbdfgbpcchaaCx
namespace Go.Cw
set_option linter.unusedSimpArgs false
set_option linter.unusedVariables false
/-! #### Regions that draw their order, walked in one order -/
section
variable {P : Program} {E : Env} {st : St}
/-- A move, which yields the same at any time. -/
def moveAt (ops : Array Oper) (k : Nat) : Bool := match ops[k]? with
  | some ⟨some _, .move _, _, _, _, none⟩ => true
  | some ⟨some _, .assign _, _, _, _, none⟩ => true
  | _ => false
/-- The order is one that says all: each step is the sole one, or a move that is apart from all that has not come up. -/
def linB (ops : Array Oper) : List Nat → Array Bool → Bool
  | [], listed => (Region.ready .any ops listed).isEmpty
  | k :: ks, listed => (decide (Region.ready .any ops listed = [k]) || ((Region.ready .any ops listed).contains k && Region.free .any ops listed k && moveAt ops k)) && linB ops ks (listed.setIfInBounds k true)
def pickOps (ops : Array Oper) : List Nat → List Oper
  | [] => []
  | k :: ks => match ops[k]? with
    | some o => o :: pickOps ops ks
    | none => []
theorem wpList_move {ops : Array Oper} {Q : Exit → Act → World → Prop} {a : Act} {w : World} {rest : List Oper} {d : Nat} {x : Operand} {ty : TypeId} {pos : String} {af : Array Edge}
    (h : wpList P ops Q (⟨some d, .move x, ty, pos, af, none⟩ :: rest) a w) : wpList P ops Q rest (a.put (some d) (a.eval x)) w := by
  unfold wpList at h
  simp only [Region.wanted, if_true] at h
  rcases h with h | ⟨h, _⟩
  · simpa [Oper.wp, execOp, Oper.upon] using h
  · simp [Oper.asks, execOp] at h
    have h' : noRoomEvent ∈ (#[] : Array Event) := h
    simp at h'
theorem wpList_assign {ops : Array Oper} {Q : Exit → Act → World → Prop} {a : Act} {w : World} {rest : List Oper} {d : Nat} {x : Operand} {ty : TypeId} {pos : String} {af : Array Edge}
    (h : wpList P ops Q (⟨some d, .assign x, ty, pos, af, none⟩ :: rest) a w) : wpList P ops Q rest (a.put (some d) (a.eval x)) w := by
  unfold wpList at h
  simp only [Region.wanted, if_true] at h
  rcases h with h | ⟨h, _⟩
  · simpa [Oper.wp, execOp, Oper.upon] using h
  · simp [Oper.asks, execOp] at h
    have h' : noRoomEvent ∈ (#[] : Array Event) := h
    simp at h'
theorem lin_go {ops : Array Oper} {Q : Exit → Act → World → Prop} (hs : Region.noSelect ops = true) (hQ : ∀ c a w (d : Nat) v, Q (.panic c) (a.put (some d) v) w → Q (.panic c) a w) :
    ∀ (ord : List Nat) (listed : Array Bool) (a : Act) (w : World), linB ops ord listed = true → wpList P ops Q (pickOps ops ord) a w → wpAny P .any ops Q ord.length listed a w
  | [], listed, a, w, hB, h => ⟨by simpa [linB] using hB, h⟩
  | k :: ks, listed, a, w, hB, h => by
    unfold linB at hB
    rw [Bool.and_eq_true] at hB
    obtain ⟨hB1, hB2⟩ := hB
    have hk : ∃ o, ops[k]? = some o := by
      rw [Bool.or_eq_true] at hB1
      rcases hB1 with h1 | h1
      · have h2 : k ∈ Region.ready .any ops listed := by rw [of_decide_eq_true h1]; simp
        have : k < ops.size := by
          unfold Region.ready at h2
          simp only [List.mem_filter, List.mem_range] at h2
          exact h2.1
        exact ⟨_, Array.getElem?_eq_getElem this⟩
      · simp only [Bool.and_eq_true] at h1
        have h2 := h1.2
        unfold moveAt at h2
        cases hc : ops[k]? with
        | none => rw [hc] at h2; cases h2
        | some o => exact ⟨o, rfl⟩
    obtain ⟨o, ho⟩ := hk
    have hpk : pickOps ops (k :: ks) = o :: pickOps ops ks := by simp [pickOps, ho]
    rw [hpk] at h
    rw [Bool.or_eq_true] at hB1
    rcases hB1 with h1 | h1
    · have hr := of_decide_eq_true h1
      refine ⟨fun h2 => (by rw [hr] at h2; cases h2), fun i hi => ?_⟩
      rw [hr] at hi
      have hik : i = k := by simpa using hi
      subst hik
      have hw : wpOp P ops Q i (wpList P ops Q (pickOps ops ks)) a w := by unfold wpOp; simp only [ho]; exact h
      exact wpOp_mono (fun a' w' h' => lin_go hs hQ ks _ a' w' hB2 h') hw
    · simp only [Bool.and_eq_true] at h1
      obtain ⟨⟨h2, h3⟩, h4⟩ := h1
      unfold moveAt at h4
      rw [ho] at h4
      have key : ∀ v d, o.dst = some d → Yields P ops o v a → wpList P ops Q (pickOps ops ks) (a.put o.dst v) w → wpAny P .any ops Q (k :: ks).length listed a w := fun v d hd hy hh =>
        wpAny_take ho hs h3 (by simpa using h2) (fun c a w h => by rw [hd] at h; exact hQ c a w _ _ h) hy (lin_go hs hQ ks _ _ _ hB2 hh)
      rcases o with ⟨dst, op, ty, pos, af, g⟩
      cases dst with
      | none => simp at h4
      | some d =>
        cases op <;> cases g <;> simp at h4
        · rename_i x
          exact key (a.eval x) d rfl (.inl ⟨by simp [Region.wanted], fun w => by simp [execOp]⟩) (wpList_move h)
        · rename_i x
          exact key (a.eval x) d rfl (.inl ⟨by simp [Region.wanted], fun w => by simp [execOp]⟩) (wpList_assign h)
theorem ent_lin {Q : Exit → Act → World → Prop} {id : Nat} {l : List Oper} (ord : List Nat) (hm : P.follows .mixedOrders = true) (hs : Region.noSelect l.toArray = true) (hn : Nat.beq ord.length l.length = true)
    (hB : linB l.toArray ord (Array.replicate l.length false) = true) (hQ : ∀ c a w (d : Nat) v, Q (.panic c) (a.put (some d) v) w → Q (.panic c) a w)
    (h : Ent E st (wpList P l.toArray Q (pickOps l.toArray ord))) : Ent E st ((Code.region id l.toArray true).wp P Q) := by
  intro a w r
  refine wp_region_any hm ?_
  have := lin_go hs hQ ord _ a w.drew hB (h a w.drew (r.grow (Grow.drew w)))
  rw [Nat.eq_of_beq_eq_true hn] at this
  simpa using this
end
/-! #### Slices without room, and their append -/
section
variable {P : Program} {E : Env} {s : List (Nat × AV)} {own : List Own}
variable {d : Nat} {ty : TypeId} {pos : String} {af : Array Edge} {g : Option (Nat × Bool)}
/-- A slice that reads as xs and has no room behind it. -/
def aFull {α : Type} (sz : Nat) (agg : Bool) (enc : α → AV) (xs : List α) : AV where
  holds h O v := (∃ p, v = .slice p xs.length xs.length) ∧ (aSl sz agg enc xs).holds h O v
  mono := fun h h' O O' v ⟨h1, h2⟩ hs hb ho => ⟨h1, (aSl sz agg enc xs).mono h h' O O' v h2 hs hb ho⟩
theorem aFull_sl {α : Type} {sz : Nat} {agg : Bool} {enc : α → AV} {xs : List α} : ∀ h O v, (aFull sz agg enc xs).holds h O v → (aSl sz agg enc xs).holds h O v := fun _ _ _ h => h.2
theorem cv_fr {α : Type} {n : Nat} {e : TypeId} {sz : Nat} {agg : Bool} {enc : α → AV} {xs : List α} {O : Nat → Prop} (hO : SubO E own O) : Cv E own O (aFr n (aVec e sz agg enc xs)) (aSl sz agg enc xs) := fun w v _ h => AV.less (aVec_sl _ _ _ h) (fun b _ hb => .inl (hO b hb))
theorem cv_full {α : Type} {sz : Nat} {agg : Bool} {enc : α → AV} {xs : List α} {O : Nat → Prop} (hO : SubO E own O) : Cv E own O (aFull sz agg enc xs) (aSl sz agg enc xs) := fun w v _ h => AV.less h.2 (fun b _ hb => hO b hb)
/-- A slice of one element, which has no room. -/
theorem ok_build1F {α : Type} {T e : TypeId} {sz bytes : Nat} {agg : Bool} {z : Value} {enc : α → AV} {y : α} {yv : Operand} {B : AV} (ht : VecTy P T e sz bytes agg z) (hy : opd s yv = some B) (hc : Cv E own (OO E own) B (enc y)) (he : ElemOK (enc y) agg sz) (hsz : sz ≤ 16777216) :
    OpOK P E s own ⟨some d, .buildSlice T 1 #[(0, yv)], ty, pos, af, g⟩ (aFull sz agg enc [y]) := by
  intro a w r K Q hK
  obtain ⟨ii, i1, i2, i3, i4⟩ := ht.info
  have hv := hc w _ r.world (r.ev yv (by simp [Op.operands, Call.operands]) _ hy)
  obtain ⟨us, u1, u2, u3, u4⟩ := he _ _ _ hv
  have hcs : (a.eval yv).cells = us.toArray := by rw [← u3]
  have hb1 : (execOp a.eval ⟨some d, .buildSlice T 1 #[(0, yv)], ty, pos, af, g⟩).run P w = .ok (.value (.slice (some ⟨w.heap.size, 0, none⟩) 1 1)) (w.alloc (.cells us.toArray e)) := by
    have hfill := fill_one (cells := (Array.range (1 * sz)).map (z.cells[· % z.cells.size]!)) (a.eval yv) hcs (by simp [u1])
    have hsize : us.toArray.size = sz := by simp [u1]
    rw [hsize] at hfill
    have hp := ht.pos
    have hz0' : ¬ (sz = 0) := by omega
    have hbig' : ¬ (16777216 < sz) := by omega
    simp only [Nat.one_mul] at hfill
    simp [execOp, Instr.buildSlice, run_underlying ht.und, ht.sl.size, zeroValue, typeInfo, i1, i2, newRow, hz0', hbig', hfill]
  unfold Oper.wp
  rw [hb1, Oper.upon_value]
  have gr := Grow.alloc w (.cells us.toArray e)
  refine hK _ _ gr ⟨⟨_, rfl⟩, some ⟨w.heap.size, 0, none⟩, 1, rfl, Nat.le_refl _, by simp [maxLen], ht.one, fun i x hx => ?_⟩
  match i, hx with
  | 0, hx =>
    simp only [List.getElem?_cons_zero, Option.some.injEq] at hx
    subst hx
    refine ⟨w.heap.size, 0, us, rfl, u1, ⟨fun hO => ?_, us.toArray, e, (0, 0), heap_alloc_new w _, fun j u hu => by simpa using hu⟩, ?_⟩
    · exact absurd (r.lt _ hO) (by omega)
    · rw [← u2]; exact (enc y).mono _ _ _ _ _ hv gr.size (fun b hb _ => gr.block b hb) (fun _ _ h => h)
  | i + 1, hx => simp at hx
/-- The cells of a slice of one-cell elements. -/
theorem sl_cells {α : Type} {w : World} {O : Nat → Prop} {enc : α → AV} {ys : List α} {p : Option Addr} {c : Nat} (h : (aSl 1 false enc ys).holds w.heap O (.slice p ys.length c)) :
    ∃ f : Nat → Value, ∀ i y, ys[i]? = some y → ∃ b0 off0, p = some ⟨b0, off0, none⟩ ∧ w.cell? ⟨b0, off0 + i, none⟩ = some (f i) ∧ (enc y).holds w.heap O (f i) := by
  obtain ⟨p', c', hv, hle, hmax, _, hel⟩ := h
  cases hv
  have hcell : ∀ i, ∃ u, ∀ y, ys[i]? = some y → ∃ b0 off0, p = some ⟨b0, off0, none⟩ ∧ w.cell? ⟨b0, off0 + i, none⟩ = some u ∧ (enc y).holds w.heap O u := by
    intro i
    by_cases hi : i < ys.length
    · obtain ⟨b, off, us, hp', hl, hcc, henc⟩ := hel i ys[i] (List.getElem?_eq_getElem hi)
      match us, hl with
      | [u], _ =>
        refine ⟨u, fun y hy => ?_⟩
        rw [List.getElem?_eq_getElem hi] at hy; cases hy
        have := hcc.cell (j := 0) (u := u) rfl
        exact ⟨b, off, hp', by simpa using this, henc⟩
    · exact ⟨undef, fun y hy => by rw [List.getElem?_eq_none (by omega)] at hy; cases hy⟩
  exact ⟨fun i => Classical.choose (hcell i), fun i => Classical.choose_spec (hcell i)⟩
theorem map_range_get {f : Nat → Value} {n j : Nat} {u : Value} (hu : ((List.range n).map f)[j]? = some u) : j < n ∧ u = f j := by
  have hj : j < n := by
    have := (List.getElem?_eq_some_iff.1 hu).1; simpa using this
  refine ⟨hj, ?_⟩
  have : ((List.range n).map f)[j]? = some (f j) := by simp [hj]
  rw [this] at hu; cases hu; rfl
/-- append to a slice without room. -/
theorem ok_appendF {α : Type} {T e : TypeId} {bytes : Nat} {z : Value} {enc : α → AV} {xs ys : List α} {x yv : Operand} {A B : AV}
    (ht : VecTy P T e 1 bytes false z) (hx : opd s x = some A) (hA : A = aFull 1 false enc xs) (hne : xs ≠ []) (hy : opd s yv = some B) (hc : Cv E own (OO E own) B (aSl 1 false enc ys))
    (hn : (xs.length + ys.length) * bytes ≤ 140737488355328) (hn2 : xs.length + ys.length ≤ 140737488355328) :
    OpOK P E s own ⟨some d, .call { callee := .builtin .append, args := #[x, yv], argTypes := #[T, T] }, ty, pos, af, g⟩ (aSl 1 false enc (xs ++ ys)) := by
  subst hA
  intro a w r K Q hK
  obtain ⟨ii, i1, i2, i3, i4⟩ := ht.info
  have hY := hc w _ r.world (r.ev yv (by simp [Op.operands, Call.operands]) B hy)
  obtain ⟨⟨px, hxe⟩, hX⟩ := r.ev x (by simp [Op.operands, Call.operands]) _ hx
  have hY' := hY
  obtain ⟨p, c, hv, hle, hmax, _, hel⟩ := hY'
  rw [hv] at hY
  rw [hxe] at hX
  obtain ⟨f, hf⟩ := sl_cells hX
  obtain ⟨gg, hg⟩ := sl_cells hY
  have hxpos : 0 < xs.length := List.length_pos_iff.2 hne
  obtain ⟨bx, ox, rfl, _, _⟩ := hf 0 xs[0] (List.getElem?_eq_getElem hxpos)
  unfold Oper.wp
  by_cases h0 : ys = []
  · subst h0
    have hrun : (Builtin.append_ #[T, T] ty #[.slice (some ⟨bx, ox, none⟩) xs.length xs.length, .slice p 0 c]).run P w = .ok (.slice (some ⟨bx, ox, none⟩) xs.length xs.length) w := by
      cases p <;> simp [Builtin.append_, run_underlying ht.und, sizeOf, typeInfo, i1, i3, Builtin.lenOf, Builtin.firstCells, loadCells, loadCellsFrom, storeCells]
    have : (execOp a.eval ⟨some d, .call { callee := .builtin .append, args := #[x, yv], argTypes := #[T, T] }, ty, pos, af, g⟩).run P w = .ok (.value (.slice (some ⟨bx, ox, none⟩) xs.length xs.length)) w := by
      simp only [List.length_nil] at hv
      simp only [execOp, resolve, invoke, builtin, Sem.run_bind, Sem.run_pure, Result.andThen_ok, List.map_toArray, List.map_cons, List.map_nil, hxe, hv, hrun]
    rw [this, Oper.upon_value]
    exact hK _ _ (Grow.refl w) (by rw [List.append_nil]; exact hX)
  · have hpos : 0 < ys.length := List.length_pos_iff.2 h0
    obtain ⟨b0, off0, rfl, _, _⟩ := hg 0 ys[0] (List.getElem?_eq_getElem hpos)
    let olds := (List.range xs.length).map f
    let news := (List.range ys.length).map gg
    have hlo : olds.length = xs.length := by simp [olds]
    have hln : news.length = ys.length := by simp [news]
    have hr := run_append_grow (P := P) w T ty e ii z ht.und i1 i2 ⟨bx, ox, none⟩ xs.length xs.length olds (by rw [i3, hlo, Nat.mul_one]) (fun j u hu => by
        obtain ⟨hj, rfl⟩ := map_range_get hu
        obtain ⟨_, _, e1, e2, _⟩ := hf j _ (List.getElem?_eq_getElem hj)
        cases e1
        rw [addr_add]; exact e2) ⟨b0, off0, none⟩ ys.length c news (by rw [i3, hln, Nat.mul_one])
      (fun j u hu => by
        obtain ⟨hj, rfl⟩ := map_range_get hu
        obtain ⟨_, _, e1, e2, _⟩ := hg j _ (List.getElem?_eq_getElem hj)
        cases e1
        rw [addr_add]; exact e2) (by omega) (by omega) (by rw [i4]; exact growslice_fits (by omega) hn)
    have hge := grownCap_ge w (xs.length + ys.length) xs.length e
    have hle2 := grownCap_le_maxLen w (xs.length + ys.length) xs.length e (by simp only [maxLen]; omega)
    have hrun : (execOp a.eval ⟨some d, .call { callee := .builtin .append, args := #[x, yv], argTypes := #[T, T] }, ty, pos, af, g⟩).run P w =
        .ok (.value (.slice (some ⟨w.heap.size, 0, none⟩) (xs.length + ys.length) (grownCap w (xs.length + ys.length) xs.length e))) (w.drew.alloc (.cells (olds.toArray ++ news.toArray ++ Builtin.zeroCells z.cells (grownCap w (xs.length + ys.length) xs.length e - (xs.length + ys.length))) e)) := by
      simp only [execOp, resolve, invoke, builtin, Sem.run_bind, Sem.run_pure, Result.andThen_ok, List.map_toArray, List.map_cons, List.map_nil, hxe, hv, hr]
    rw [hrun, Oper.upon_value]
    have gr := (Grow.drew w).trans (Grow.alloc w.drew (.cells (olds.toArray ++ news.toArray ++ Builtin.zeroCells z.cells (grownCap w (xs.length + ys.length) xs.length e - (xs.length + ys.length))) e))
    have hcellAt : ∀ (i : Nat) (u : Value), (olds ++ news)[i]? = some u → (olds.toArray ++ news.toArray ++ Builtin.zeroCells z.cells (grownCap w (xs.length + ys.length) xs.length e - (xs.length + ys.length)))[i]? = some u := by
      intro i u hu
      have hi : i < olds.length + news.length := by have := (List.getElem?_eq_some_iff.1 hu).1; simpa using this
      rw [Array.getElem?_append_left (by simp; omega)]
      rw [List.append_toArray]
      simpa using hu
    refine hK _ _ gr ⟨some ⟨w.heap.size, 0, none⟩, grownCap w (xs.length + ys.length) xs.length e, by rw [List.length_append], by rw [List.length_append]; omega, hle2, fun _ => rfl, fun i y hy => ?_⟩
    have hi : i < xs.length + ys.length := by have := (List.getElem?_eq_some_iff.1 hy).1; simpa using this
    by_cases hix : i < xs.length
    · rw [List.getElem?_append_left hix] at hy
      obtain ⟨_, _, _, _, e3⟩ := hf i y hy
      refine ⟨w.heap.size, 0, [f i], rfl, rfl, ⟨fun hO => absurd (r.lt _ hO) (by omega), _, e, _, heap_alloc_new w.drew _, fun j u hu => ?_⟩, ?_⟩
      · match j, hu with
        | 0, hu =>
          simp only [List.getElem?_cons_zero, Option.some.injEq] at hu
          subst hu
          refine hcellAt _ _ ?_
          rw [Nat.zero_add, Nat.mul_one, Nat.add_zero, List.getElem?_append_left (by omega)]
          simp [olds, hix]
        | j + 1, hu => simp at hu
      · exact (enc y).mono _ _ _ _ _ e3 gr.size (fun b hb _ => gr.block b hb) (fun _ _ h => h)
    · rw [List.getElem?_append_right (by omega)] at hy
      obtain ⟨_, _, _, _, e3⟩ := hg (i - xs.length) y hy
      refine ⟨w.heap.size, 0, [gg (i - xs.length)], rfl, rfl, ⟨fun hO => absurd (r.lt _ hO) (by omega), _, e, _, heap_alloc_new w.drew _, fun j u hu => ?_⟩, ?_⟩
      · match j, hu with
        | 0, hu =>
          simp only [List.getElem?_cons_zero, Option.some.injEq] at hu
          subst hu
          refine hcellAt _ _ ?_
          rw [Nat.zero_add, Nat.mul_one, Nat.add_zero, List.getElem?_append_right (by omega), hlo]
          have : i - xs.length < ys.length := by omega
          simp [news, this]
        | j + 1, hu => simp at hu
      · exact (enc y).mono _ _ _ _ _ e3 gr.size (fun b hb _ => gr.block b hb) (fun _ _ h => h)
end
end Go.Cw
