/-
  Regions that draw their order, walked in one order; memory of rows.
-/
import Derived.Test.YtfjhbdfgbpcchaaCx
namespace Go.Cw
set_option linter.unusedSimpArgs false
set_option linter.unusedVariables false
/-! #### Regions that draw their order, walked in one order -/
section
variable {P : Program} {E : Env} {st : St}
/-- A move, which yields the same at any time. -/
def moveAt (ops : Array Oper) (k : Nat) : Bool := match ops[k]? with
  | some ⟨some _, .move _, _, _, _, none⟩ => true
  | some ⟨some _, .assign _, _, _, _, none⟩ => true
  | _ => false
/-- The order is one that says all: each step is the sole one, or a move that is apart from all that has not come up. -/
def linB (ops : Array Oper) : List Nat → Array Bool → Bool
  | [], listed => (Region.ready .any ops listed).isEmpty
  | k :: ks, listed => (decide (Region.ready .any ops listed = [k]) || ((Region.ready .any ops listed).contains k && Region.free .any ops listed k && moveAt ops k)) && linB ops ks (listed.setIfInBounds k true)
def pickOps (ops : Array Oper) : List Nat → List Oper
  | [] => []
  | k :: ks => match ops[k]? with
    | some o => o :: pickOps ops ks
    | none => []
theorem wpList_move {ops : Array Oper} {Q : Exit → Act → World → Prop} {a : Act} {w : World} {rest : List Oper} {d : Nat} {x : Operand} {ty : TypeId} {pos : String} {af : Array Edge}
    (h : wpList P ops Q (⟨some d, .move x, ty, pos, af, none⟩ :: rest) a w) : wpList P ops Q rest (a.put (some d) (a.eval x)) w := by
  unfold wpList at h
  simp only [Region.wanted, if_true] at h
  rcases h with h | ⟨h, _⟩
  · simpa [Oper.wp, execOp, Oper.upon] using h
  · simp [Oper.asks, execOp] at h
    have h' : noRoomEvent ∈ (#[] : Array Event) := h
    simp at h'
theorem wpList_assign {ops : Array Oper} {Q : Exit → Act → World → Prop} {a : Act} {w : World} {rest : List Oper} {d : Nat} {x : Operand} {ty : TypeId} {pos : String} {af : Array Edge}
    (h : wpList P ops Q (⟨some d, .assign x, ty, pos, af, none⟩ :: rest) a w) : wpList P ops Q rest (a.put (some d) (a.eval x)) w := by
  unfold wpList at h
  simp only [Region.wanted, if_true] at h
  rcases h with h | ⟨h, _⟩
  · simpa [Oper.wp, execOp, Oper.upon] using h
  · simp [Oper.asks, execOp] at h
    have h' : noRoomEvent ∈ (#[] : Array Event) := h
    simp at h'
theorem lin_go {ops : Array Oper} {Q : Exit → Act → World → Prop} (hs : Region.noSelect ops = true) (hQ : ∀ c a w (d : Nat) v, Q (.panic c) (a.put (some d) v) w → Q (.panic c) a w) :
    ∀ (ord : List Nat) (listed : Array Bool) (a : Act) (w : World), linB ops ord listed = true → wpList P ops Q (pickOps ops ord) a w → wpAny P .any ops Q ord.length listed a w
  | [], listed, a, w, hB, h => ⟨by simpa [linB] using hB, h⟩
  | k :: ks, listed, a, w, hB, h => by
    unfold linB at hB
    rw [Bool.and_eq_true] at hB
    obtain ⟨hB1, hB2⟩ := hB
    have hk : ∃ o, ops[k]? = some o := by
      rw [Bool.or_eq_true] at hB1
      rcases hB1 with h1 | h1
      · have h2 : k ∈ Region.ready .any ops listed := by rw [of_decide_eq_true h1]; simp
        have : k < ops.size := by
          unfold Region.ready at h2
          simp only [List.mem_filter, List.mem_range] at h2
          exact h2.1
        exact ⟨_, Array.getElem?_eq_getElem this⟩
      · simp only [Bool.and_eq_true] at h1
        have h2 := h1.2
        unfold moveAt at h2
        cases hc : ops[k]? with
        | none => rw [hc] at h2; cases h2
        | some o => exact ⟨o, rfl⟩
    obtain ⟨o, ho⟩ := hk
    have hpk : pickOps ops (k :: ks) = o :: pickOps ops ks := by simp [pickOps, ho]
    rw [hpk] at h
    rw [Bool.or_eq_true] at hB1
    rcases hB1 with h1 | h1
    · have hr := of_decide_eq_true h1
      refine ⟨fun h2 => (by rw [hr] at h2; cases h2), fun i hi => ?_⟩
      rw [hr] at hi
      have hik : i = k := by simpa using hi
      subst hik
      have hw : wpOp P ops Q i (wpList P ops Q (pickOps ops ks)) a w := by unfold wpOp; simp only [ho]; exact h
      exact wpOp_mono (fun a' w' h' => lin_go hs hQ ks _ a' w' hB2 h') hw
    · simp only [Bool.and_eq_true] at h1
      obtain ⟨⟨h2, h3⟩, h4⟩ := h1
      unfold moveAt at h4
      rw [ho] at h4
      have key : ∀ v d, o.dst = some d → Yields P ops o v a → wpList P ops Q (pickOps ops ks) (a.put o.dst v) w → wpAny P .any ops Q (k :: ks).length listed a w := fun v d hd hy hh =>
        wpAny_take ho hs h3 (by simpa using h2) (fun c a w h => by rw [hd] at h; exact hQ c a w _ _ h) hy (lin_go hs hQ ks _ _ _ hB2 hh)
      rcases o with ⟨dst, op, ty, pos, af, g⟩
      cases dst with
      | none => simp at h4
      | some d =>
        cases op <;> cases g <;> simp at h4
        · rename_i x
          exact key (a.eval x) d rfl (.inl ⟨by simp [Region.wanted], fun w => by simp [execOp]⟩) (wpList_move h)
        · rename_i x
          exact key (a.eval x) d rfl (.inl ⟨by simp [Region.wanted], fun w => by simp [execOp]⟩) (wpList_assign h)
theorem ent_lin {Q : Exit → Act → World → Prop} {id : Nat} {l : List Oper} (ord : List Nat) (hm : P.follows .mixedOrders = true) (hs : Region.noSelect l.toArray = true) (hn : Nat.beq ord.length l.length = true)
    (hB : linB l.toArray ord (Array.replicate l.length false) = true) (hQ : ∀ c a w (d : Nat) v, Q (.panic c) (a.put (some d) v) w → Q (.panic c) a w)
    (h : Ent E st (wpList P l.toArray Q (pickOps l.toArray ord))) : Ent E st ((Code.region id l.toArray true).wp P Q) := by
  intro a w r
  refine wp_region_any hm ?_
  have := lin_go hs hQ ord _ a w.drew hB (h a w.drew (r.grow (Grow.drew w)))
  rw [Nat.eq_of_beq_eq_true hn] at this
  simpa using this
end
end Go.Cw
