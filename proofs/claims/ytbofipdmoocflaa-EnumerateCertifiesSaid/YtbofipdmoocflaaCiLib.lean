/-
  Rules of a calculus for walks.
-/
import Derived.Test.YtbofipdmoocflaaChLib
import Derived.RangeFuncRecord
import Derived.OrdersIn
import Derived.TacticsIn
namespace Go.Cw
set_option linter.unusedSimpArgs false
set_option linter.unnecessarySimpa false
set_option linter.unusedVariables false
section rounds
variable {P : Program} {E : Env} {st : St} {Q : Exit → Act → World → Prop} {ops : Array Oper} {rest : List Oper}
/-- The fence of a frame: ro is the loop of which it is a round. -/
abbrev FO (ro : Option Nat) : Fence := { fn := fun _ => True, depth := none, alive := false, round := ro }
variable {ro : Option Nat}
def NoDef (o : Oper) : Bool := match o.op with
  | .defer _ => false
  | _ => true
theorem NoDef.ne {o : Oper} (h : NoDef o = true) (c : Call) : o.op ≠ .defer c := fun e => by unfold NoDef at h; rw [e] at h; cases h
theorem callsIn_fo {n : Nat} {f : FuncId} {args : Array Value} {w : World} {R : Ending → World → Prop} (h : Calls P f args w R) : CallsIn (FO ro) n P f args w R := callsIn_wide.2 h
theorem rowsIn_fo {n : Nat} {row : String} {args : Array Value} {w : World} {R : Value → World → Prop} (h : Rows P row args w R) : RowsIn (FO ro) n P row args w R :=
  fun c cs _ => let ⟨v, w', r, s⟩ := h c cs; ⟨v, w', r, stepsIn_wide.2 s⟩
theorem opIn_of {o : Oper} {a : Act} {w : World} {K : Act → World → Prop} (hd : NoDef o = true) (h : o.wp P a w K Q) : o.wpIn (FO ro) 0 P a w K Q := by
  refine ⟨fun _ _ => trivial, ?_⟩
  rw [Oper.semAt_eq _ _ _ (NoDef.ne hd)]
  unfold Oper.wp at h
  generalize (execOp a.eval o).run P w = r at *
  cases r with
  | ok x w' =>
    cases x <;> simp only [Oper.upon, Oper.uponIn] at h ⊢ <;> first
      | exact h
      | exact ⟨fun h => (by cases h), callsIn_fo (h.mono fun e w'' he => by cases e <;> exact he)⟩
      | exact ⟨fun h => (by cases h), rowsIn_fo h⟩
  | halt x w' => cases x <;> simp only [Oper.upon, Oper.uponIn] at h ⊢ <;> exact h
theorem listIn_of (hQ : ∀ a w, ¬ Q .outgrown a w) : ∀ (rest : List Oper) (a : Act) (w : World), rest.all NoDef = true → wpList P ops Q rest a w → wpListIn (FO ro) 0 P ops Q rest a w
  | [], _, _, _, h => h
  | o :: rest, a, w, hd, h => by
    rw [List.all_cons, Bool.and_eq_true] at hd
    unfold wpList at h
    unfold wpListIn
    split
    · rename_i hw
      rw [if_pos hw] at h
      rcases h with h | ⟨_, a', w', h⟩
      · exact Oper.wpIn_mono (fun a w => listIn_of hQ rest a w hd.2) (opIn_of hd.1 h)
      · exact absurd h (hQ a' w')
    · rename_i hw
      rw [if_neg hw] at h
      exact ⟨fun _ _ => trivial, listIn_of hQ rest _ _ hd.2 h⟩
theorem entL_list (hQ : ∀ a w, ¬ Q .outgrown a w) (hd : rest.all NoDef = true) (h : Ent E st (wpList P ops Q rest)) : Ent E st (wpListIn (FO ro) 0 P ops Q rest) :=
  fun a w r => listIn_of hQ rest a w hd (h a w r)
theorem entL_nil (h : Ent E st (Q .normal)) : Ent E st (wpListIn (FO ro) 0 P ops Q []) := h
theorem entL_o {d : Nat} {op : Op} {ty : TypeId} {pos : String} {af : Array Edge} {A : AV} (hd : Nat.ble (d + 1) E.n = true) (hN : NoDef ⟨some d, op, ty, pos, af, none⟩ = true)
    (ok : OpOK P E st.slots st.own ⟨some d, op, ty, pos, af, none⟩ A) (k : Ent E (st.set d A) (wpListIn (FO ro) 0 P ops Q rest)) : Ent E st (wpListIn (FO ro) 0 P ops Q (⟨some d, op, ty, pos, af, none⟩ :: rest)) := by
  intro a w r
  unfold wpListIn
  rw [if_pos (by simp [Region.wanted])]
  exact opIn_of hN (ok a w (r.opR _) _ Q fun v w' g hv => k _ _ ((r.grow g).put (Nat.le_of_ble_eq_true hd) hv))
theorem entI_wide {c : Code} (h : Ent E st (c.wpIn (FO none) 0 P Q)) : Ent E st (c.wp P Q) := fun a w r => wpIn_wide.1 (h a w r)
theorem entI_block {id : Nat} {c : Code} (h : Ent E st (c.wpIn (FO ro) 0 P (Exit.inBlock id Q))) : Ent E st ((Code.block id c).wpIn (FO ro) 0 P Q) := fun a w r => wpIn_block (h a w r)
theorem entI_region {id : Nat} {l : List Oper} (hQ : ∀ a w, ¬ Q .outgrown a w) (hd : l.all NoDef = true) (h : Ent E st (wpList P l.toArray Q l)) : Ent E st ((Code.region id l.toArray false).wpIn (FO ro) 0 P Q) :=
  fun a w r => wpIn_region_lit (listIn_of hQ l a w hd (h a w r))
variable {own : List Own} {s : List (Nat × AV)} {D : Nat → Nat} {A : Nat → AV} {l : List Oper} {n f : Nat} {listed : Array Bool} {a : Act} {w : World}
theorem wpAnyIn_of_seq {md : Region.Mode} : ∀ (l : List Oper) (k : Nat) (listed : Array Bool) (a : Act) (w : World), (∀ j, l[j]? = ops[k + j]?) →
    Region.seqB md ops l.length k listed = true → wpListIn (FO ro) 0 P ops Q l a w → wpAnyIn (FO ro) 0 P md ops Q l.length listed a w
  | [], _, _, _, _, _, hB, h => ⟨by simpa [Region.seqB] using hB, h⟩
  | o :: l, k, listed, a, w, hl, hB, h => by
    have h0 : ops[k]? = some o := by simpa using (hl 0).symm
    simp only [List.length_cons, Region.seqB, Bool.and_eq_true, decide_eq_true_eq] at hB
    refine ⟨fun h1 => (by rw [hB.1] at h1; cases h1), fun i hi => ?_⟩
    rw [hB.1] at hi
    have hik : i = k := by simpa using hi
    subst hik
    have hw : wpOpIn (FO ro) 0 P ops Q i (wpListIn (FO ro) 0 P ops Q l) a w := by unfold wpOpIn; simp only [h0]; exact h
    exact wpOpIn_mono (fun a' w' h' => wpAnyIn_of_seq l (i + 1) _ a' w' (fun j => by have := hl (j + 1); simpa [Nat.add_assoc, Nat.add_comm 1 j] using this) hB.2 h') hw
theorem draw_goI {Q : Exit → Act → World → Prop} {g : Nat} (hB : drawF l n f = true) (hn : n ≤ l.length) (hN : l.all NoDef = true) (hspec : ∀ k o, k < n → l[k]? = some o → o.dst = some (D k) ∧ D k < E.n ∧ Spec P E own l.toArray (stt s D A k) o (A k))
    (hend : ∀ listed a w, DInv E own s D A l n f listed a w → (∀ i, i < n → listed.getD i false = true) → wpAnyIn (FO ro) 0 P .any l.toArray Q g listed a w) :
    ∀ (c : Nat) (listed : Array Bool) (a : Act) (w : World), ((List.range n).filter fun i => !(listed.getD i false)).length = c → DInv E own s D A l n f listed a w →
      wpAnyIn (FO ro) 0 P .any l.toArray Q (c + g) listed a w
  | 0, listed, a, w, hc, inv => by
    rw [Nat.zero_add]
    refine hend listed a w inv fun i hi => ?_
    have hnil := List.eq_nil_of_length_eq_zero hc
    have := List.filter_eq_nil_iff.1 hnil i (List.mem_range.2 hi)
    simpa using this
  | c + 1, listed, a, w, hc, inv => by
    obtain ⟨hord, hlow⟩ := drawB_spec hB
    have hex : ∃ j, j < n ∧ listed.getD j false = false := by
      cases hl : (List.range n).filter fun i => !(listed.getD i false) with
      | nil => rw [hl] at hc; simp at hc
      | cons j r =>
        have : j ∈ (List.range n).filter fun i => !(listed.getD i false) := by rw [hl]; simp
        simp only [List.mem_filter, List.mem_range] at this
        exact ⟨j, this.1, by simpa using this.2⟩
    have hready : Region.ready .any l.toArray listed ≠ [] := by
      obtain ⟨j, hj1, hj2⟩ := hex
      have hleast : ∃ k, k < n ∧ listed.getD k false = false ∧ ∀ i, i < k → listed.getD i false = true := by
        clear hc
        induction j using Nat.strongRecOn with
        | _ j ih =>
          by_cases h : ∀ i, i < j → listed.getD i false = true
          · exact ⟨j, hj1, hj2, h⟩
          · simp only [Classical.not_forall] at h
            obtain ⟨i, h1, h2⟩ := h
            exact ih i h1 (by omega) (by simpa using h2)
      obtain ⟨k, hk1, hk2, hk3⟩ := hleast
      have hkl : k < l.length := by omega
      have hok : l[k]? = some l[k] := List.getElem?_eq_getElem hkl
      have : k ∈ Region.ready .any l.toArray listed := mem_ready.2 ⟨by rw [getD_tf (by rw [inv.sz]; exact hkl)]; exact hk2, l[k], by simpa using hok, fun e he hb => hk3 _ (hlow k _ hok e he hb)⟩
      intro h0
      rw [h0] at this; cases this
    rw [show c + 1 + g = (c + g) + 1 by omega]
    refine ⟨fun h0 => absurd h0 hready, fun j hj => ?_⟩
    obtain ⟨hun', oj, hoj', hall⟩ := mem_ready.1 hj
    have hoj : l[j]? = some oj := by simpa using hoj'
    have hjl : j < l.length := (List.getElem?_eq_some_iff.1 hoj).1
    have hNj : NoDef oj = true := List.all_eq_true.1 hN oj (List.mem_of_getElem? hoj)
    have hun : listed.getD j false = false := by rw [← getD_tf (by rw [inv.sz]; exact hjl)]; exact hun'
    have hjn : j < n := by
      rcases Nat.lt_or_ge j n with h | h
      · exact h
      · exfalso
        obtain ⟨i, hi1, hi2⟩ := hex
        have hil : i < l.length := by omega
        have hoi : l[i]? = some l[i] := List.getElem?_eq_getElem hil
        have hw := (hord i j _ _ (by omega) hoi hoj).2.1 h (Nat.le_of_not_lt fun hlt => by have := inv.fl i hlt; rw [hi2] at this; cases this)
        have := waits_listed inv.closed _ j i hw (fun oj' h' => by
          have : oj' = oj := by simp only [List.getElem?_toArray] at h'; rw [hoj] at h'; exact (Option.some.inj h').symm
          subst this; exact hall)
        rw [hi2] at this; cases this
    obtain ⟨hd1, hd2, hsp⟩ := hspec j oj hjn hoj
    have hcount : ((List.range n).filter fun i => !((listed.setIfInBounds j true).getD i false)).length = c := by
      have key : ∀ m, m ≤ n → ((List.range m).filter fun i => !((listed.setIfInBounds j true).getD i false)).length + (if j < m then 1 else 0) = ((List.range m).filter fun i => !(listed.getD i false)).length := by
        intro m
        induction m with
        | zero => intro _; simp
        | succ m ih =>
          intro hm
          have := ih (by omega)
          rw [List.range_succ, List.filter_append, List.filter_append, List.length_append, List.length_append]
          by_cases hmj : m = j
          · subst hmj
            have h1 : (listed.setIfInBounds m true).getD m false = true := by simp [inv.sz, hjl]
            rw [if_neg (by omega)] at this
            simp only [List.filter_cons, h1, hun, List.filter_nil]
            simp at this ⊢
            omega
          · have e0 : (listed.setIfInBounds j true).getD m false = listed.getD m false := getD_set_ne false (fun h => hmj h.symm)
            have e1 : (if j < m + 1 then 1 else 0) = (if j < m then 1 else 0 : Nat) := by
              by_cases hjm : j < m
              · have : j < m + 1 := by omega
                simp [hjm, this]
              · have : ¬ j < m + 1 := by omega
                simp [hjm, this]
            rw [e1, List.filter_cons, List.filter_cons, e0]
            simp only [List.filter_nil]
            omega
      have := key n (Nat.le_refl _)
      rw [if_pos hjn, hc] at this
      omega
    have hnext : ∀ v w', Grow w w' → (A j).holds w'.heap (OO E own) v → wpAnyIn (FO ro) 0 P .any l.toArray Q (c + g) (listed.setIfInBounds j true) (a.put oj.dst v) w' :=
      fun v w' gr hv => draw_goI hB hn hN hspec hend c _ _ _ hcount (inv.step hB hn hspec hoj hjn hall gr hv)
    have hopR : OpR E (stt s D A j) own oj a w := ⟨inv.world, fun x hx B hB' => by
      cases x with
      | tmp t =>
        have ht : t ∈ namesOf l.toArray oj := by
          unfold namesOf
          refine List.mem_append_left _ (List.mem_append_right _ ?_)
          exact List.mem_filterMap.2 ⟨.tmp t, by simpa using hx, rfl⟩
        obtain ⟨v, h1, h2⟩ := inv.slot hn hB hspec hoj hjn hun hall ht hB'
        show B.holds _ _ (a.tmps.getD t undef)
        rw [Array.getD_eq_getD_getElem?, h1]
        exact h2
      | const v => simp only [opd, Option.some.injEq] at hB'; subst hB'; rfl
      | global g => simp only [opd, Option.some.injEq] at hB'; subst hB'; rfl
      | func f => simp only [opd, Option.some.injEq] at hB'; subst hB'; rfl⟩
    unfold wpOpIn
    rw [hoj']
    dsimp only
    unfold Spec at hsp
    split at hsp
    · rename_i hgd
      rw [if_pos (by simp [Region.wanted, hgd])]
      exact opIn_of hNj (hsp a w hopR _ _ hnext)
    · rename_i jg want hgd
      obtain ⟨dj, gg, h1, h2, h3⟩ := hsp
      have hname : dj ∈ namesOf l.toArray oj := by
        unfold namesOf
        refine List.mem_append_right _ ?_
        rw [hgd]
        simp only [h1]
        simp
      obtain ⟨v, hv1, hv2⟩ := inv.slot hn hB hspec hoj hjn hun hall hname h2
      have hv : v = .bool gg := hv2
      subst hv
      have hy : yielded l.toArray a.tmps jg = some gg := by
        unfold yielded
        rw [h1]
        simp only [Option.bind_some, hv1]
      rcases h3 with ⟨h4, h5⟩ | ⟨h4, h5⟩
      · rw [if_pos (by simp [Region.wanted, hgd, hy, h4])]
        exact opIn_of hNj (h5 a w hopR _ _ hnext)
      · rw [if_neg (by simp [Region.wanted, hgd, hy, h4])]
        exact ⟨fun _ _ => trivial, hnext undef w (Grow.refl w) (by rw [h5]; exact trivial)⟩
/-- A region that draws its order, in whatever frame. -/
theorem entI_draw {id : Nat} (n : Nat) (hm : P.follows .mixedOrders = true) (hN : l.all NoDef = true) (hn : Nat.ble n l.length = true) (hB : drawB l n = true)
    (hS : Region.seqB .any l.toArray (l.length - n) n (Array.replicate n true ++ Array.replicate (l.length - n) false) = true)
    (h : DW P E st.own l.toArray (l.take n) st.slots (fun s' => Ent E ⟨s', st.own⟩ (wpListIn (FO ro) 0 P l.toArray Q (l.drop n)))) : Ent E st ((Code.region id l.toArray true).wpIn (FO ro) 0 P Q) := by
  intro a w r
  have hnl : n ≤ l.length := Nat.le_of_ble_eq_true hn
  obtain ⟨D, A, h1, h2⟩ := dw_fun l.toArray _ _ _ h
  have hlen : (l.take n).length = n := by simp [hnl]
  rw [hlen] at h2
  have hspec : ∀ k o, k < n → l[k]? = some o → o.dst = some (D k) ∧ D k < E.n ∧ Spec P E st.own l.toArray (stt st.slots D A k) o (A k) := fun k o hk ho => h1 k o (by rw [List.getElem?_take, if_pos hk]; exact ho)
  refine wpIn_region_any hm ?_
  have r1 : Rep E st a w.drew := r.grow (Grow.drew w)
  have inv := rep_start (D := D) (A := A) (l := l) (n := n) r1
  have hget : ∀ i, (Array.replicate 0 true ++ Array.replicate (l.length - 0) false).getD i false = false := fun i => by
    rcases Nat.lt_or_ge i l.length with h | h
    · simp [h]
    · simp [h]
  have hcount : ((List.range n).filter fun i => !((Array.replicate 0 true ++ Array.replicate (l.length - 0) false).getD i false)).length = n := by
    rw [List.filter_eq_self.2 (fun i _ => by rw [hget]; rfl), List.length_range]
  have := draw_goI (P := P) (ro := ro) (Q := Q) (g := l.length - n) hB hnl hN hspec ?_ n _ a w.drew hcount inv
  · rw [show n + (l.length - n) = l.length by omega] at this
    simpa using this
  · intro listed a' w' inv' hall
    have hrep := inv'.end hB hnl hspec hall
    have hlisted : listed = Array.replicate n true ++ Array.replicate (l.length - n) false := by
      apply Array.ext
      · simp [inv'.sz]; omega
      · intro i hi1 hi2
        have hd : listed.getD i false = listed[i] := by simp [hi1]
        rcases Nat.lt_or_ge i n with h | h
        · rw [← hd, hall i h, Array.getElem_append_left (by simpa using h)]; simp
        · rw [← hd, inv'.tail i h, Array.getElem_append_right (by simpa using h)]; simp
    have hdl : (l.drop n).length = l.length - n := by simp
    rw [← hdl]
    refine wpAnyIn_of_seq (l.drop n) n listed a' w' (fun j => by simp [List.getElem?_drop]) ?_ (h2 a' w' hrep)
    rw [hdl, hlisted]
    exact hS
end rounds
section rangefn
variable {P : Program} {E : Env} {st : St} {Q : Exit → Act → World → Prop} {ops : Array Oper} {rest : List Oper} {ro : Option Nat}
variable {d : Nat} {ty : TypeId} {pos : String} {af : Array Edge} {g : Option (Nat × Bool)}
/-- An object of the heap that is no cells. -/
def oObj (b : Nat) (o : Obj) : Own where
  has b' := b' = b
  holds h _ := h[b]? = some o
  mono := fun h h' O O' hv hs hb ho => (hb b (Array.getElem?_eq_some_iff.1 hv).1 (.inr rfl)).trans hv
  lt := fun h O b' hv hb => by subst hb; exact (Array.getElem?_eq_some_iff.1 hv).1
/-- What is known of the slots of a frame that rests. -/
def oTmps (tm : Array Value) (K0 : List (Nat × AV)) : Own where
  has _ := False
  holds h O := ∀ j A, look K0 j = some A → ∃ v, tm[j]? = some v ∧ A.holds h O v
  mono := fun h h' O O' hv hs hb ho j A hj => let ⟨v, h1, h2⟩ := hv j A hj; ⟨v, h1, A.mono _ _ _ _ _ h2 hs (fun b hlt hn => hb b hlt (.inl hn)) ho⟩
  lt := fun _ _ _ _ h => h.elim
/-- The body of a loop, as a function that writes what it is lent. -/
def CtrY {β : Type} (P : Program) (l : Nat) (Ws : List Own) (As : List AV) (φ : β → Prop) (A : β → AV) (Ws' : β → List Own) : Prop :=
  ∀ (w : World) (O : Nat → Prop) (vs : List Value), (∀ b, O b → b < w.heap.size) → Lends Ws w O → HoldsAll As w.heap (fun b => O b ∨ Blks Ws b) vs →
    ∃ f tmps assign body, (Instr.yield l vs.toArray).run P w = .ok (.round l f tmps assign body) w ∧ RoundIn Fence.wide 0 P l f tmps assign body w (EndW w O Ws φ A Ws')
theorem lends_core {β : Type} {Ws rs : List Own} {As : List AV} {φ : β → Prop} {A : β → AV} {Ws' : β → List Own} {a : Act} {w : World} {us : List Value} (hd : Nat.ble (d + 1) E.n = true) (how : st.own = Ws ++ rs) (rp : Rep E st a w)
    (hargs : HoldsAll As w.heap (OO E st.own) us) : ∃ X : Nat → Prop, (∀ b, X b → b < w.heap.size) ∧ Lends Ws w X ∧ HoldsAll As w.heap (fun b => X b ∨ Blks Ws b) us ∧
      ∀ en w', EndW w X Ws φ A Ws' en w' → ∃ v y, en = .returned v ∧ φ y ∧ Rep E ⟨(d, A y) :: st.slots, Ws' y ++ rs⟩ (a.put (some d) v) w' := by
  have hlt : ∀ b, OO E st.own b → b < w.heap.size := St.O_lt rp
  have hWown : ∀ o ∈ Ws, o ∈ st.own := fun o ho => by rw [how]; exact List.mem_append_left _ ho
  have hRown : ∀ o ∈ rs, o ∈ st.own := fun o ho => by rw [how]; exact List.mem_append_right _ ho
  have hap := rp.apart
  rw [how, List.pairwise_append] at hap
  have hWR : ∀ o ∈ Ws, ∀ o' ∈ rs, ∀ b, o.has b → ¬ o'.has b := hap.2.2
  have hBO : ∀ b, Blks Ws b → OO E st.own b := fun b ⟨o, ho, hob⟩ => .inr ⟨o, hWown o ho, hob⟩
  refine ⟨fun b => OO E st.own b ∧ ¬ Blks Ws b, fun b hb => hlt b hb.1, ⟨fun o ho => Own.less (rp.own o (hWown o ho)) (fun b hb => hb.elim (fun h => h.1) (hBO b)), hap.1, fun o ho b hb hx => hx.2 ⟨o, ho, hb⟩⟩,
    ⟨hargs.1, fun i A v hA hv => AV.less (hargs.2 i A v hA hv) (fun b _ hb => hb.elim (fun h => h.1) (hBO b))⟩, ?_⟩
  rintro en w' ⟨v, y, rfl, hy, hA, hL, hB, hK'⟩
  refine ⟨v, y, rfl, hy, ?_⟩
  have hO' : ∀ b, b < w.heap.size → OO E (Ws' y ++ rs) b → OO E st.own b := by
    rintro b hb (h | ⟨o, ho, hob⟩)
    · exact .inl h
    · rcases List.mem_append.1 ho with ho | ho
      · rcases hB o ho b hob with h | h
        · exact hBO b h
        · omega
      · exact .inr ⟨o, hRown o ho, hob⟩
  have hO2 : ∀ b, OO E (Ws' y ++ rs) b → (OO E st.own b ∧ ¬ Blks Ws b) ∨ Blks (Ws' y) b := by
    intro b hb
    rcases hb with h | ⟨o, ho, hob⟩
    · exact .inl ⟨.inl h, fun ⟨o, ho, hob⟩ => (rp.free o (hWown o ho) b hob).1 h⟩
    · rcases List.mem_append.1 ho with ho | ho
      · exact .inr ⟨o, ho, hob⟩
      · exact .inl ⟨.inr ⟨o, hRown o ho, hob⟩, fun ⟨o', ho', hob'⟩ => hWR o' ho' o ho b hob' hob⟩
  have hsame : ∀ b, b < w.heap.size → ¬ OO E st.own b → w'.heap[b]? = w.heap[b]? := fun b hb hn => hK'.block b hb fun h => hn (hBO b h)
  have r2 : Rep E ⟨st.slots, Ws' y ++ rs⟩ a w' := by
    refine ⟨rp.size, rp.defers, fun i A hi => ?_, fun o ho => ?_, ?_, fun o ho b hb => ?_, rp.xold, ?_⟩
    · obtain ⟨v, h1, h2⟩ := rp.slots i A hi
      exact ⟨v, h1, A.mono _ _ _ _ _ h2 hK'.size hsame hO'⟩
    · rcases List.mem_append.1 ho with ho | ho
      · exact Own.less (hL.own o ho) hO2
      · refine o.mono _ _ _ _ (rp.own o (hRown o ho)) hK'.size (fun b hb hn => ?_) hO'
        rcases hn with hn | hn
        · exact hsame b hb hn
        · exact hK'.block b hb fun ⟨o', ho', hob'⟩ => hWR o' ho' o ho b hob' hn
    · rw [List.pairwise_append]
      refine ⟨hL.apart, hap.2.1, fun o ho o' ho' b hb hb' => ?_⟩
      rcases hB o ho b hb with ⟨o2, ho2, h2⟩ | h2
      · exact hWR o2 ho2 o' ho' b h2 hb'
      · exact absurd (hlt b (.inr ⟨o', hRown o' ho', hb'⟩)) (by omega)
    · rcases List.mem_append.1 ho with ho | ho
      · rcases hB o ho b hb with ⟨o2, ho2, h2⟩ | h2
        · exact rp.free o2 (hWown o2 ho2) b h2
        · exact ⟨fun hx => absurd (hlt _ (.inl hx)) (by omega), .inl (Nat.le_trans rp.keep.size h2)⟩
      · exact rp.free o (hRown o ho) b hb
    · refine ⟨hK'.os.trans rp.keep.os, hK'.tape.trans rp.keep.tape, hK'.output.trans rp.keep.output, Nat.le_trans rp.keep.size hK'.size, fun b hb hm => ?_⟩
      rw [hK'.block b (Nat.lt_of_lt_of_le hb rp.keep.size) ?_, rp.keep.block b hb hm]
      rintro ⟨o, ho, hob⟩
      rcases (rp.free o (hWown o ho) b hob).2 with h | h
      · omega
      · exact hm h
  exact r2.put (Nat.le_of_ble_eq_true hd) (A := A y) (AV.less hA (fun b _ hb => hO2 b hb))
/-- A call of yield. -/
theorem entL_yield {β : Type} {l : Nat} {x : Operand} {xs : List Operand} {tys : Array TypeId} {Ws rs : List Own} {As : List AV} {φ : β → Prop} {A : β → AV} {Ws' : β → List Own} (hd : Nat.ble (d + 1) E.n = true) (c : CtrY P l Ws As φ A Ws') (how : st.own = Ws ++ rs)
    (hv : opd st.slots x = some (aEx (.func (.yield l) #[] #[]))) (hx : ArgsA E st.slots st.own (OO E st.own) xs As)
    (k : ∀ y, φ y → Ent E ⟨(d, A y) :: st.slots, Ws' y ++ rs⟩ (wpListIn (FO none) 0 P ops Q rest)) :
    Ent E st (wpListIn (FO none) 0 P ops Q (⟨some d, .call { callee := .value x, args := xs.toArray, argTypes := tys }, ty, pos, af, none⟩ :: rest)) := by
  intro a w rp
  obtain ⟨X, h1, h2, h3, h4⟩ := lends_core (A := A) (φ := φ) (Ws' := Ws') hd how rp (hx.holds2 rp)
  obtain ⟨f, tmps, assign, body, hy, hR⟩ := c w X _ h1 h2 h3
  have hrun : (execOp a.eval ⟨some d, .call { callee := .value x, args := xs.toArray, argTypes := tys }, ty, pos, af, none⟩).run P w = .ok (.round l f tmps assign body) w := by
    have hev : a.eval x = .func (.yield l) #[] #[] := rp.evalEx hv
    simp [execOp, resolve, hev, Deferred.ofValue, invoke]
    simpa using hy
  unfold wpListIn
  rw [if_pos (by simp [Region.wanted])]
  refine ⟨fun _ _ => trivial, ?_⟩
  rw [Oper.semAt_none, hrun]
  refine ⟨fun h => (by cases h), hR.mono ?_⟩
  intro en w' he
  obtain ⟨v, y, rfl, hy, rep⟩ := h4 en w' he
  exact k y hy _ _ rep
/-- How a round's body may be left. -/
def roundQ {σ : Type} (E : Env) (J : σ → Prop) (Y : σ → List Own) : Exit → Act → World → Prop
  | .normal, a, w => ∃ s, J s ∧ Rep E ⟨[], Y s⟩ a w
  | _, _, _ => False
theorem ent_roundEnd {σ : Type} {J : σ → Prop} {Y : σ → List Own} (s : σ) (hJ : J s) (h : Ent E st (Rep E ⟨[], Y s⟩)) : Ent E st (roundQ E J Y .normal) := fun a w r => ⟨s, hJ, h a w r⟩
theorem Keeps.trans {M M' : Nat → Prop} {a b c : World} (h : Keeps M a b) (k : Keeps M' b c) (hM : ∀ x, x < a.heap.size → M' x → M x) : Keeps M a c :=
  ⟨k.os.trans h.os, k.tape.trans h.tape, k.output.trans h.output, Nat.le_trans h.size k.size, fun b hb hm => (k.block b (Nat.lt_of_lt_of_le hb h.size) fun h' => hm (hM b hb h')).trans (h.block b hb hm)⟩
theorem Keeps.more {M M' : Nat → Prop} {a b : World} (h : Keeps M a b) (hM : ∀ x, M x → M' x) : Keeps M' a b := ⟨h.os, h.tape, h.output, h.size, fun b hb hm => h.block b hb fun h' => hm (hM b h')⟩
theorem Keeps.putObj (w : World) (l : Nat) (o : Obj) : Keeps (fun b => b = l) w (w.putObj l o) := ⟨rfl, rfl, rfl, by simp, fun b _ hb => World.putObj_heap_other hb⟩
/-- The yield of a loop whose rounds are walked. -/
theorem ctrY_of {σ : Type} {fn : FuncId} {tm : Array Value} {ps : Array Tmp} {assign body : Code} {l D n p1 p2 : Nat} {K0 S1 : List (Nat × AV)} {Y : σ → List Own} {J' : σ → Prop} {s : σ} {A1 A2 : AV}
    (hps : ps = #[p1, p2]) (hp1 : p1 < n) (hp2 : p2 < n) (htm : tm.size = n)
    (hassign : ∀ (w' : World) (X' M' : Nat → Prop) (K : Act → World → Prop), Ent ⟨w', X', M', n, []⟩ ⟨S1, Y s⟩ K → Ent ⟨w', X', M', n, []⟩ ⟨(p2, A2) :: (p1, A1) :: K0, Y s⟩ (assign.wpIn (FO (some l)) 0 P (Exit.then K (fun _ _ _ => False))))
    (hbody : ∀ (w' : World) (X' M' : Nat → Prop), Ent ⟨w', X', M', n, []⟩ ⟨S1, Y s⟩ (body.wpIn (FO (some l)) 0 P (roundQ ⟨w', X', M', n, []⟩ J' Y))) :
    CtrY P l [oAll (oObj l (.loop ⟨.ready, none, fn, tm, ps, assign, body, D⟩) :: oTmps tm K0 :: Y s)] [A1, A2] J' (fun _ => aBool true) (fun s' => [oAll (oObj l (.loop ⟨.ready, none, fn, tm, ps, assign, body, D⟩) :: oTmps tm K0 :: Y s')]) := by
  intro w O vs hO hL ha
  obtain ⟨rec, hrec⟩ : ∃ rec : LoopState → Loop, rec = fun q => ⟨q, none, fn, tm, ps, assign, body, D⟩ := ⟨_, rfl⟩
  have er : ∀ q, (⟨q, none, fn, tm, ps, assign, body, D⟩ : Loop) = rec q := fun q => by rw [hrec]
  rw [er] at hL ha ⊢
  have hL' := lends_all.1 hL
  have hbk : ∀ b, Blks [oAll (oObj l (.loop (rec .ready)) :: oTmps tm K0 :: Y s)] b ↔ b = l ∨ Blks (Y s) b := fun b => by
    rw [blks_all]
    constructor
    · rintro ⟨o, ho, hb⟩
      rcases List.mem_cons.1 ho with rfl | ho
      · exact .inl hb
      · rcases List.mem_cons.1 ho with rfl | ho
        · exact hb.elim
        · exact .inr ⟨o, ho, hb⟩
    · rintro (h | ⟨o, ho, hb⟩)
      · exact ⟨_, List.mem_cons_self, h⟩
      · exact ⟨o, List.mem_cons_of_mem _ (List.mem_cons_of_mem _ ho), hb⟩
  have hbk2 : ∀ b, Blks (oObj l (.loop (rec .ready)) :: oTmps tm K0 :: Y s) b ↔ b = l ∨ Blks (Y s) b := fun b => blks_all.symm.trans (hbk b)
  obtain ⟨v1, v2, rfl⟩ : ∃ v1 v2, vs = [v1, v2] := by
    have := ha.1
    match vs, this with
    | [a, b], _ => exact ⟨a, b, rfl⟩
  have hv1 := ha.2 0 A1 v1 rfl rfl
  have hv2 := ha.2 1 A2 v2 rfl rfl
  have hl : w.heap[l]? = some (.loop (rec .ready)) := hL'.own _ List.mem_cons_self
  have hT := hL'.own _ (List.mem_cons_of_mem _ List.mem_cons_self)
  have hY : ∀ o ∈ Y s, o.holds w.heap (fun b => O b ∨ Blks (oObj l (.loop (rec .ready)) :: oTmps tm K0 :: Y s) b) := fun o ho => hL'.own o (List.mem_cons_of_mem _ (List.mem_cons_of_mem _ ho))
  have hap := hL'.apart
  rw [List.pairwise_cons, List.pairwise_cons] at hap
  have hlY : ∀ o ∈ Y s, ¬ o.has l := fun o ho => hap.1 o (List.mem_cons_of_mem _ ho) l rfl
  have hlt : l < w.heap.size := (Array.getElem?_eq_some_iff.1 hl).1
  have hoff : ∀ o ∈ Y s, ∀ b, o.has b → ¬ O b := fun o ho => hL'.off o (List.mem_cons_of_mem _ (List.mem_cons_of_mem _ ho))
  have hOl : ¬ O l := hL'.off _ List.mem_cons_self l rfl
  let X : Nat → Prop := fun b => O b ∨ b = l
  have hXeq : ∀ b, (X b ∨ Blks (Y s) b) ↔ (O b ∨ Blks (oObj l (.loop (rec .ready)) :: oTmps tm K0 :: Y s) b) := fun b => by rw [hbk2]; exact or_assoc
  have hy := run_yield (P := P) (args := #[v1, v2]) hl (by rw [hrec, hps]; rfl)
  have hy' : (Instr.yield l [v1, v2].toArray).run P w = .ok (.round l fn ((tm.setIfInBounds p1 v1).setIfInBounds p2 v2) assign body) w := by
    refine hy.trans ?_
    rw [hrec, hps]
    simp
  refine ⟨fn, _, assign, body, hy', roundIn_of_wpIn trivial ?_⟩
  let E1 : Env := ⟨w, X, Blks (Y s), n, []⟩
  have hOO1 : ∀ b, OO E1 (Y s) b ↔ (O b ∨ Blks (oObj l (.loop (rec .ready)) :: oTmps tm K0 :: Y s) b) := fun b => hXeq b
  have r1 : Rep E1 ⟨(p2, A2) :: (p1, A1) :: K0, Y s⟩ { tmps := (tm.setIfInBounds p1 v1).setIfInBounds p2 v2, defers := [] } w := by
    refine ⟨by simp [htm]; rfl, rfl, fun j B hj => ?_, fun o ho => Own.less (hY o ho) fun b hb => (hOO1 b).1 hb, hap.2.2, fun o ho b hb => ⟨fun hx => hx.elim (fun h => hoff o ho b hb h) (fun h => hlY o ho (h ▸ hb)), .inr ⟨o, ho, hb⟩⟩, ?_, Keeps.refl _ _⟩
    · rw [show look ((p2, A2) :: (p1, A1) :: K0) j = if p2 = j then some A2 else if p1 = j then some A1 else look K0 j from by rw [look_cons, look_cons]] at hj
      by_cases h2 : p2 = j
      · subst h2
        rw [if_pos rfl] at hj; cases hj
        exact ⟨v2, by simp [htm, hp2], AV.less hv2 fun b _ hb => ((hOO1 b).1 hb).imp id fun h => blks_all.2 h⟩
      · rw [if_neg h2] at hj
        by_cases h1 : p1 = j
        · subst h1
          rw [if_pos rfl] at hj; cases hj
          exact ⟨v1, by rw [Array.getElem?_setIfInBounds_ne h2]; simp [htm, hp1], AV.less hv1 fun b _ hb => ((hOO1 b).1 hb).imp id fun h => blks_all.2 h⟩
        · rw [if_neg h1] at hj
          obtain ⟨u, u1, u2⟩ := hT j B hj
          exact ⟨u, by rw [Array.getElem?_setIfInBounds_ne h2, Array.getElem?_setIfInBounds_ne h1]; exact u1, AV.less u2 fun b _ hb => (hOO1 b).1 hb⟩
    · rintro b (h | h)
      · exact hO b h
      · rw [h]; exact hlt
  refine hassign _ _ _ _ ?_ _ _ r1
  intro a1 w1 q1
  have hl1 : w1.heap[l]? = some (.loop (rec .ready)) := (q1.keep.block l hlt fun ⟨o, ho, hb⟩ => hlY o ho hb).trans hl
  have hlt1 : l < w1.heap.size := (Array.getElem?_eq_some_iff.1 hl1).1
  obtain ⟨w2, hw2⟩ : ∃ w2, w1.putObj l (.loop { rec .ready with state := .busy }) = w2 := ⟨_, rfl⟩
  have hrun := run_beginRound (P := P) hl1 (by rw [hrec])
  rw [hw2] at hrun
  refine ⟨w2, hrun, ?_⟩
  have hk12 : Keeps (fun b => b = l) w1 w2 := hw2 ▸ Keeps.putObj w1 l _
  let E2 : Env := ⟨w2, X, Blks (Y s), n, []⟩
  have q2 : Rep E2 ⟨S1, Y s⟩ a1 w2 := by
    have hOl1 : OO E1 (Y s) l := .inl (.inr rfl)
    refine ⟨q1.size, q1.defers, fun j B hj => ?_, fun o ho => ?_, q1.apart, fun o ho b hb => ⟨(q1.free o ho b hb).1, .inr ⟨o, ho, hb⟩⟩, fun b hb => ?_, Keeps.refl _ _⟩
    · obtain ⟨u, u1, u2⟩ := q1.slots j B hj
      exact ⟨u, u1, B.mono _ _ _ _ _ u2 hk12.size (fun b hb hn => hk12.block b hb fun h => hn (h ▸ hOl1)) fun b _ h => h⟩
    · refine o.mono _ _ _ _ (q1.own o ho) hk12.size (fun b hb hn => hk12.block b hb fun h => ?_) fun b _ h => h
      rcases hn with hn | hn
      · exact hn (h ▸ hOl1)
      · exact hlY o ho (h ▸ hn)
    · exact Nat.lt_of_lt_of_le (Nat.lt_of_lt_of_le (q1.xold b hb) q1.keep.size) hk12.size
  refine wpIn_mono (hbody _ _ _ _ _ q2) ?_
  intro e a3 w3 hq
  cases e <;> try exact hq.elim
  obtain ⟨s', hs', q3⟩ := hq
  have hl2 : w2.heap[l]? = some (.loop { rec .ready with state := .busy }) := by rw [← hw2]; exact World.putObj_heap_same hlt1
  have hlt2 : l < w2.heap.size := (Array.getElem?_eq_some_iff.1 hl2).1
  have hl3 : w3.heap[l]? = some (.loop { rec .ready with state := .busy }) := (q3.keep.block l hlt2 fun ⟨o, ho, hb⟩ => hlY o ho hb).trans hl2
  have hlt3 : l < w3.heap.size := (Array.getElem?_eq_some_iff.1 hl3).1
  have hend := run_endRound (P := P) none hl3
  obtain ⟨w4, hw4⟩ : ∃ w4, w3.putObj l (.loop (rec .ready)) = w4 := ⟨_, rfl⟩
  have hend' : (Instr.endRound l none).run P w3 = .ok (.bool true) w4 := by
    rw [hend, ← hw4, hrec]; rfl
  have hk34 : Keeps (fun b => b = l) w3 w4 := hw4 ▸ Keeps.putObj w3 l _
  have hbk' : ∀ b, Blks (oObj l (.loop (rec .ready)) :: oTmps tm K0 :: Y s') b ↔ b = l ∨ Blks (Y s') b := fun b => by
    constructor
    · rintro ⟨o, ho, hb⟩
      rcases List.mem_cons.1 ho with rfl | ho
      · exact .inl hb
      · rcases List.mem_cons.1 ho with rfl | ho
        · exact hb.elim
        · exact .inr ⟨o, ho, hb⟩
    · rintro (h | ⟨o, ho, hb⟩)
      · exact ⟨_, List.mem_cons_self, h⟩
      · exact ⟨o, List.mem_cons_of_mem _ (List.mem_cons_of_mem _ ho), hb⟩
  have hM : ∀ b, (b = l ∨ Blks (Y s) b) → Blks [oAll (oObj l (.loop (rec .ready)) :: oTmps tm K0 :: Y s)] b := fun b h => (hbk b).2 h
  have kw : Keeps (Blks [oAll (oObj l (.loop (rec .ready)) :: oTmps tm K0 :: Y s)]) w w4 :=
    (((q1.keep.more (M' := Blks [oAll (oObj l (.loop (rec .ready)) :: oTmps tm K0 :: Y s)]) fun x h => hM x (.inr h)).trans hk12 fun x _ h => hM x (.inl h)).trans q3.keep fun x _ h => hM x (.inr h)).trans hk34 fun x _ h => hM x (.inl h)
  have hlY' : ∀ o ∈ Y s', ¬ o.has l := fun o ho hb => (q3.free o ho l hb).1 (.inr rfl)
  have hsz : w.heap.size ≤ w2.heap.size := Nat.le_trans q1.keep.size hk12.size
  have hnew : ∀ o ∈ Y s', ∀ b, o.has b → Blks (Y s) b ∨ w.heap.size ≤ b := fun o ho b hb => ((q3.free o ho b hb).2).symm.imp id fun h => Nat.le_trans hsz h
  have hin : ∀ b, b < w.heap.size → (O b ∨ Blks (oObj l (.loop (rec .ready)) :: oTmps tm K0 :: Y s') b) → (O b ∨ Blks (oObj l (.loop (rec .ready)) :: oTmps tm K0 :: Y s) b) := by
    rintro b hb (h | h)
    · exact .inl h
    · rcases (hbk' b).1 h with h | ⟨o, ho, h⟩
      · exact .inr ((hbk2 b).2 (.inl h))
      · rcases hnew o ho b h with h | h
        · exact .inr ((hbk2 b).2 (.inr h))
        · omega
  refine ⟨_, _, hend', .bool true, s', rfl, hs', rfl, ?_, ?_, kw⟩
  · refine lends_all.2 ⟨?_, ?_, ?_⟩
    · intro o ho
      rcases List.mem_cons.1 ho with rfl | ho
      · show w4.heap[l]? = _
        rw [← hw4]; exact World.putObj_heap_same hlt3
      · rcases List.mem_cons.1 ho with rfl | ho
        · exact (oTmps tm K0).mono _ _ _ _ hT kw.size (fun b hb hn => kw.block b hb fun h => hn.elim (fun hn => hn (.inr (blks_all.1 h))) id) hin
        · refine o.mono _ _ _ _ (q3.own o ho) hk34.size (fun b hb hn => hk34.block b hb fun h => ?_) ?_
          · rcases hn with hn | hn
            · exact hn (.inl (.inr h))
            · exact hlY' o ho (h ▸ hn)
          · rintro b _ (h | h)
            · exact .inl (.inl h)
            · rcases (hbk' b).1 h with h | h
              · exact .inl (.inr h)
              · exact .inr h
    · rw [List.pairwise_cons, List.pairwise_cons]
      refine ⟨fun o ho b hb => ?_, fun o ho b hb => hb.elim, q3.apart⟩
      rcases List.mem_cons.1 ho with rfl | ho
      · exact id
      · intro h; rw [show b = l from hb] at h; exact hlY' o ho h
    · intro o ho b hb
      rcases List.mem_cons.1 ho with rfl | ho
      · rw [show b = l from hb]; exact hOl
      · rcases List.mem_cons.1 ho with rfl | ho
        · exact hb.elim
        · exact fun h => (q3.free o ho b hb).1 (.inl h)
  · intro o ho b hb
    rw [List.mem_singleton.1 ho] at hb
    have hb' : Blks (oObj l (.loop (rec .ready)) :: oTmps tm K0 :: Y s') b := hb
    rcases (hbk' b).1 hb' with h | ⟨o2, ho2, h⟩
    · exact .inl (hM b (.inl h))
    · exact (hnew o2 ho2 b h).imp (fun h => hM b (.inr h)) id
theorem ent_kk {T : St} {K : Act → World → Prop} (h : Ent E T K) (hs : Ent E st (Rep E T)) : Ent E st K := fun a w r => h a w (hs a w r)
/-- The loop: the function is called; its rounds; behind it. -/
theorem ent_rangeFn {σ : Type} {gx : Operand} {ps : Array Tmp} {assign body : Code} {gf : FuncId} {Bs : List AV} {p1 p2 : Nat} (K0 : List (Nat × AV)) (S1 : Int → List (Nat × AV)) (Y : σ → List Own) (J : Int → σ → Prop) (n : Int) (W : Int → AV) (s0 : σ)
    (hps : ps = #[p1, p2]) (hp1 : Nat.ble (p1 + 1) E.n = true) (hp2 : Nat.ble (p2 + 1) E.n = true) (hg : opd K0 gx = some (aClo gf Bs))
    (hit : ∀ (l : Nat) (T : σ → Own), (∀ i s, 0 ≤ i → i < n → J i s → CtrY P l [T s] [aInt i, W i] (J (i + 1)) (fun _ => aBool true) (fun s' => [T s'])) → CtrW P gf [T s0] (aEx (.func (.yield l) #[] #[]) :: Bs) (J n) (fun _ => aAny) (fun s' => [T s']))
    (h0 : Ent E st (Rep E ⟨K0, Y s0⟩))
    (hassign : ∀ l i s, 0 ≤ i → i < n → J i s → ∀ (w' : World) (X' M' : Nat → Prop) (K : Act → World → Prop), Ent ⟨w', X', M', E.n, []⟩ ⟨S1 i, Y s⟩ K → Ent ⟨w', X', M', E.n, []⟩ ⟨(p2, W i) :: (p1, aInt i) :: K0, Y s⟩ (assign.wpIn (FO (some l)) 0 P (Exit.then K (fun _ _ _ => False))))
    (hbody : ∀ l i s, 0 ≤ i → i < n → J i s → ∀ (w' : World) (X' M' : Nat → Prop), Ent ⟨w', X', M', E.n, []⟩ ⟨S1 i, Y s⟩ (body.wpIn (FO (some l)) 0 P (roundQ ⟨w', X', M', E.n, []⟩ (J (i + 1)) Y)))
    (hdone : ∀ D s, J n s → Ent ⟨E.w0, E.X, E.M, E.n, { target := .collected D, args := #[] } :: E.ds⟩ ⟨K0, oObj D (.deferred (some [])) :: Y s⟩ (Q .normal)) :
    Ent E st ((Code.rangeFunc gx ps assign body).wp P Q) := by
  intro a w rp
  have r0 := h0 a w rp
  obtain ⟨us, hus, hB⟩ := r0.eval hg
  refine (wpIn_wide (n := 0)).1 (wpIn_rangeFunc ?_)
  intro fn _
  obtain ⟨D, hD⟩ : ∃ D, w.heap.size = D := ⟨_, rfl⟩
  obtain ⟨rec, hrec⟩ : ∃ rec : LoopState → Loop, rec = fun q => ⟨q, none, fn, a.tmps, ps, assign, body, D⟩ := ⟨_, rfl⟩
  have hen := run_enterLoop_outer (P := P) (w := w) fn a.tmps ps assign body
  obtain ⟨W1, hW1⟩ : ∃ W1, (w.alloc (.deferred (some []))).alloc (.loop (rec .ready)) = W1 := ⟨_, rfl⟩
  rw [hD] at hen
  have hsz : W1.heap.size = D + 2 := by rw [← hW1]; simp [hD]
  have hL1 : W1.heap[D + 1]? = some (.loop (rec .ready)) := by
    rw [← hW1]; have := World.alloc_heap_new (w.alloc (.deferred (some []))) (.loop (rec .ready)); rwa [World.size_alloc, hD] at this
  have g1 : Grow w W1 := by rw [← hW1]; exact (Grow.alloc w _).trans (Grow.alloc _ _)
  have hK1 : W1.heap[D]? = some (.deferred (some [])) := by
    rw [← hW1, (Grow.alloc (w.alloc (.deferred (some []))) _).block D (by simp [hD]), ← hD]; exact World.alloc_heap_new w _
  refine ⟨D + 1, [{ target := .collected D, args := #[] }], W1, { target := .fn (.func gf) us.toArray, args := #[.func (.yield (D + 1)) #[] #[]] }, W1, gf,
    #[.func (.yield (D + 1)) #[] #[]] ++ us.toArray, W1, ?_, ?_, fun _ _ => trivial, ?_, fun h => (by cases h), ?_⟩
  · show (Instr.enterLoop fn a.tmps ps assign body none).run P w = _
    rw [hen, ← hW1, hrec]
  · have hev : a.eval gx = .func (.func gf) #[] us.toArray := hus
    simp only [resolve, hev]
    simp [go_sem]
  · have := (hit (D + 1) (fun s => oAll (oObj (D + 1) (.loop (rec .ready)) :: oTmps a.tmps K0 :: Y s)) ?_).1
    · simp [invoke, go_sem, this]
    · intro i s h0 h1 hJ
      rw [hrec]
      exact ctrY_of hps (Nat.le_of_ble_eq_true hp1) (Nat.le_of_ble_eq_true hp2) rp.size (hassign _ i s h0 h1 hJ) (hbody _ i s h0 h1 hJ)
  have hltD : ∀ b, OO E (Y s0) b → b < D := fun b hb => hD ▸ St.O_lt r0 b hb
  have hX : ∀ b, E.X b → b < D := fun b hb => hltD b (.inl hb)
  have hY0 : ∀ o ∈ Y s0, ∀ b, o.has b → b < D := fun o ho b hb => hltD b (.inr ⟨o, ho, hb⟩)
  have hc := hit (D + 1) (fun s => oAll (oObj (D + 1) (.loop (rec .ready)) :: oTmps a.tmps K0 :: Y s)) (by
    intro i s h0 h1 hJ
    rw [hrec]
    exact ctrY_of hps (Nat.le_of_ble_eq_true hp1) (Nat.le_of_ble_eq_true hp2) rp.size (hassign _ i s h0 h1 hJ) (hbody _ i s h0 h1 hJ))
  have hbk : ∀ s b, Blks [oAll (oObj (D + 1) (.loop (rec .ready)) :: oTmps a.tmps K0 :: Y s)] b ↔ b = D + 1 ∨ Blks (Y s) b := fun s b => by
    rw [blks_all]
    constructor
    · rintro ⟨o, ho, hb⟩
      rcases List.mem_cons.1 ho with rfl | ho
      · exact .inl hb
      · rcases List.mem_cons.1 ho with rfl | ho
        · exact hb.elim
        · exact .inr ⟨o, ho, hb⟩
    · rintro (h | ⟨o, ho, hb⟩)
      · exact ⟨_, List.mem_cons_self, h⟩
      · exact ⟨o, List.mem_cons_of_mem _ (List.mem_cons_of_mem _ ho), hb⟩
  let X1 : Nat → Prop := fun b => E.X b ∨ b = D
  have hsub : ∀ b, b < w.heap.size → (X1 b ∨ Blks [oAll (oObj (D + 1) (.loop (rec .ready)) :: oTmps a.tmps K0 :: Y s0)] b) → OO E (Y s0) b := by
    rintro b hb ((h | h) | h)
    · exact .inl h
    · omega
    · rcases (hbk s0 b).1 h with h | h
      · omega
      · exact .inr h
  have hLd : Lends [oAll (oObj (D + 1) (.loop (rec .ready)) :: oTmps a.tmps K0 :: Y s0)] W1 X1 := by
    refine lends_all.2 ⟨?_, ?_, ?_⟩
    · intro o ho
      rcases List.mem_cons.1 ho with rfl | ho
      · exact hL1
      · rcases List.mem_cons.1 ho with rfl | ho
        · intro j A hj
          obtain ⟨v, v1, v2⟩ := r0.slots j A hj
          exact ⟨v, v1, A.mono _ _ _ _ _ v2 g1.size (fun b hb _ => g1.block b hb) fun b hb h => hsub b hb (h.imp id fun h => blks_all.2 h)⟩
        · exact o.mono _ _ _ _ (r0.own o ho) g1.size (fun b hb _ => g1.block b hb) fun b hb h => hsub b hb (h.imp id fun h => blks_all.2 h)
    · rw [List.pairwise_cons, List.pairwise_cons]
      refine ⟨fun o ho b hb => ?_, fun o ho b hb => hb.elim, r0.apart⟩
      rcases List.mem_cons.1 ho with rfl | ho
      · exact id
      · intro h; rw [show b = D + 1 from hb] at h; have := hY0 o ho _ h; omega
    · intro o ho b hb
      rcases List.mem_cons.1 ho with rfl | ho
      · rw [show b = D + 1 from hb]
        rintro (h | h)
        · have := hX _ h; omega
        · omega
      · rcases List.mem_cons.1 ho with rfl | ho
        · exact hb.elim
        · rintro (h | h)
          · exact (r0.free o ho b hb).1 h
          · have := hY0 o ho _ hb; omega
  have hus' : HoldsAll (aEx (.func (.yield (D + 1)) #[] #[]) :: Bs) W1.heap (fun b => X1 b ∨ Blks [oAll (oObj (D + 1) (.loop (rec .ready)) :: oTmps a.tmps K0 :: Y s0)] b) (.func (.yield (D + 1)) #[] #[] :: us) := by
    refine HoldsAll.cons rfl ⟨hB.1, fun i A v hA hv => ?_⟩
    exact A.mono _ _ _ _ _ (hB.2 i A v hA hv) g1.size (fun b hb _ => g1.block b hb) fun b hb h => hsub b hb h
  have hcall := hc.2 W1 X1 (.func (.yield (D + 1)) #[] #[] :: us) (by rintro b (h | h) <;> rw [hsz]; exact Nat.lt_add_right 2 (hX b h); omega) hLd hus'
  have hargs : (.func (.yield (D + 1)) #[] #[] :: us : List Value).toArray = #[.func (.yield (D + 1)) #[] #[]] ++ us.toArray := by simp
  rw [hargs] at hcall
  refine callsIn_wide.2 (hcall.mono ?_)
  rintro e w3 ⟨v, s', rfl, hJ', -, hL3, hnew, hk3⟩
  have hL3' := lends_all.1 hL3
  have hl3 : w3.heap[D + 1]? = some (.loop (rec .ready)) := hL3'.own _ List.mem_cons_self
  have hlt3 : D + 1 < w3.heap.size := (Array.getElem?_eq_some_iff.1 hl3).1
  have hend := run_endLoop (P := P) hl3 (by rw [hrec]; simp)
  obtain ⟨w4, hw4⟩ : ∃ w4, w3.putObj (D + 1) (.loop { rec .ready with state := .exhausted }) = w4 := ⟨_, rfl⟩
  rw [hw4] at hend
  have hk34 : Keeps (fun b => b = D + 1) w3 w4 := hw4 ▸ Keeps.putObj w3 (D + 1) _
  refine ⟨none, w4, by rw [hend, hrec], hdone D s' hJ' _ _ ?_⟩
  have hap := hL3'.apart
  rw [List.pairwise_cons, List.pairwise_cons] at hap
  have hlY : ∀ o ∈ Y s', ¬ o.has (D + 1) := fun o ho => hap.1 o (List.mem_cons_of_mem _ ho) _ rfl
  have hDY : ∀ o ∈ Y s', ¬ o.has D := fun o ho hb => hL3'.off o (List.mem_cons_of_mem _ (List.mem_cons_of_mem _ ho)) D hb (.inr rfl)
  have hXY : ∀ o ∈ Y s', ∀ b, o.has b → ¬ E.X b := fun o ho b hb h => hL3'.off o (List.mem_cons_of_mem _ (List.mem_cons_of_mem _ ho)) b hb (.inl h)
  have hn' : ∀ o ∈ Y s', ∀ b, o.has b → Blks (Y s0) b ∨ D + 2 ≤ b := fun o ho b hb => by
    rcases hnew _ (List.mem_singleton.2 rfl) b ⟨o, List.mem_cons_of_mem _ (List.mem_cons_of_mem _ ho), hb⟩ with h | h
    · rcases (hbk s0 b).1 h with h | h
      · exact absurd (h ▸ hb) (hlY o ho)
      · exact .inl h
    · rw [hsz] at h; exact .inr h
  have hbk' : ∀ b, Blks (oObj (D + 1) (.loop (rec .ready)) :: oTmps a.tmps K0 :: Y s') b ↔ b = D + 1 ∨ Blks (Y s') b := fun b => blks_all.symm.trans (hbk s' b)
  have hin : ∀ b, OO ⟨E.w0, E.X, E.M, E.n, { target := .collected D, args := #[] } :: E.ds⟩ (oObj D (.deferred (some [])) :: Y s') b → (X1 b ∨ Blks (oObj (D + 1) (.loop (rec .ready)) :: oTmps a.tmps K0 :: Y s') b) := by
    rintro b (h | ⟨o, ho, hb⟩)
    · exact .inl (.inl h)
    · rcases List.mem_cons.1 ho with rfl | ho
      · exact .inl (.inr hb)
      · exact .inr ((hbk' b).2 (.inr ⟨o, ho, hb⟩))
  refine ⟨rp.size, by show _ ++ a.defers = _; rw [rp.defers]; rfl, fun j A hj => ?_, fun o ho => ?_, ?_, fun o ho b hb => ?_, rp.xold, ?_⟩
  · obtain ⟨u, u1, u2⟩ := hL3'.own _ (List.mem_cons_of_mem _ List.mem_cons_self) j A hj
    exact ⟨u, u1, A.mono _ _ _ _ _ u2 hk34.size (fun b hb hn => hk34.block b hb fun h => hn (.inr ((hbk' b).2 (.inl h)))) fun b _ h => hin b h⟩
  · rcases List.mem_cons.1 ho with rfl | ho
    · show w4.heap[D]? = _
      rw [hk34.block D (by omega) (by omega), hk3.block D (by omega) (fun h => ?_)]
      · exact hK1
      · rcases (hbk s0 D).1 h with h | ⟨o, ho, h⟩
        · omega
        · have := hY0 o ho _ h; omega
    · refine o.mono _ _ _ _ (hL3'.own o (List.mem_cons_of_mem _ (List.mem_cons_of_mem _ ho))) hk34.size (fun b hb hn => hk34.block b hb fun h => ?_) fun b _ h => hin b h
      rcases hn with hn | hn
      · exact hn (.inr ((hbk' b).2 (.inl h)))
      · exact hlY o ho (h ▸ hn)
  · rw [List.pairwise_cons]
    exact ⟨fun o ho b hb h => hDY o ho ((show b = D from hb) ▸ h), hap.2.2⟩
  · rcases List.mem_cons.1 ho with rfl | ho
    · rw [show b = D from hb]
      exact ⟨fun h => by have := hX _ h; omega, .inl (hD ▸ rp.keep.size)⟩
    · refine ⟨hXY o ho b hb, ?_⟩
      rcases hn' o ho b hb with ⟨o2, ho2, h⟩ | h
      · exact (r0.free o2 ho2 b h).2
      · exact .inl (Nat.le_trans rp.keep.size (by omega))
  · refine ((rp.keep.grow g1).trans hk3 fun x hx h => ?_).trans hk34 fun x hx h => ?_
    · rcases (hbk s0 x).1 h with h | ⟨o, ho, h⟩
      · exact absurd rp.keep.size (by omega)
      · exact (r0.free o ho x h).2.elim (fun h => absurd h (by omega)) id
    · exact absurd rp.keep.size (by omega)
end rangefn
section leaves
variable {P : Program} {E : Env} {st : St}
theorem ent_leave0 {fn : Func} {R : Ending → World → Prop} {ex : Exit} (he : ex = .normal ∨ ex = .ret) (h : Ent E st (bodyPost P fn R ex)) : Ent E st (bodyPostM Fence.wide 0 P fn R ex) := by
  intro a w r
  have h' := h a w r
  rcases he with rfl | rfl
  all_goals
    obtain ⟨h1, v, h2, h3⟩ := h'
    show LeavesInM _ _ _ _ _ _ a.defers _ _
    rw [h1]; exact ⟨v, h2, h3⟩
theorem ent_leaveM {fn : Func} {R : Ending → World → Prop} {ex : Exit} {D n : Nat} {w0 : World} {X M : Nat → Prop} {S : List (Nat × AV)} {own : List Own} (he : ex = .normal ∨ ex = .ret) (h : Ent ⟨w0, X, M, n, []⟩ ⟨S, own⟩ (bodyPost P fn R ex)) :
    Ent ⟨w0, X, M, n, [{ target := .collected D, args := #[] }]⟩ ⟨S, oObj D (.deferred (some [])) :: own⟩ (bodyPostM Fence.wide 0 P fn R ex) := by
  intro a w r
  have hD : w.heap[D]? = some (.deferred (some [])) := r.own _ List.mem_cons_self
  obtain ⟨w', hw'⟩ : ∃ w', w.putObj D (.deferred none) = w' := ⟨_, rfl⟩
  have hk : Keeps (fun b => b = D) w w' := hw' ▸ Keeps.putObj w D _
  have htk := run_takeDeferred (P := P) hD
  rw [hw'] at htk
  have hap := r.apart
  rw [List.pairwise_cons] at hap
  have hDO : OO ⟨w0, X, M, n, [{ target := .collected D, args := #[] }]⟩ (oObj D (.deferred (some [])) :: own) D := .inr ⟨_, List.mem_cons_self, rfl⟩
  have hin : ∀ b, OO ⟨w0, X, M, n, []⟩ own b → OO ⟨w0, X, M, n, [{ target := .collected D, args := #[] }]⟩ (oObj D (.deferred (some [])) :: own) b := fun b hb => hb.imp id fun ⟨o, ho, h⟩ => ⟨o, List.mem_cons_of_mem _ ho, h⟩
  have r' : Rep ⟨w0, X, M, n, []⟩ ⟨S, own⟩ { a with defers := [] } w' := by
    refine ⟨r.size, rfl, fun j A hj => ?_, fun o ho => ?_, hap.2, fun o ho => r.free o (List.mem_cons_of_mem _ ho), r.xold, ?_⟩
    · obtain ⟨u, u1, u2⟩ := r.slots j A hj
      exact ⟨u, u1, A.mono _ _ _ _ _ u2 hk.size (fun b hb hn => hk.block b hb fun h => hn (h ▸ hDO)) fun b _ h => hin b h⟩
    · refine o.mono _ _ _ _ (r.own o (List.mem_cons_of_mem _ ho)) hk.size (fun b hb hn => hk.block b hb fun h => ?_) fun b _ h => hin b h
      rcases hn with hn | hn
      · exact hn (h ▸ hDO)
      · exact hap.1 o ho D rfl (h ▸ hn)
    · refine r.keep.trans hk fun x hx h => ?_
      rcases (r.free _ List.mem_cons_self D rfl).2 with h' | h'
      · exact absurd (show w0.heap.size ≤ D from h') (by rw [← h]; exact Nat.not_le.2 hx)
      · exact (show x = D from h) ▸ h'
  have h' := h _ _ r'
  have hds : a.defers = [{ target := .collected D, args := #[] }] := r.defers
  rcases he with rfl | rfl
  all_goals
    obtain ⟨_, v, h2, h3⟩ := h'
    show LeavesInM _ _ _ _ _ _ a.defers _ _
    rw [hds]; exact ⟨by simp, .inl ⟨D, w', rfl, htk, v, h2, h3⟩⟩
theorem ctrM_of {f : FuncId} {fn : Func} {c : Code} {As : List AV} {A : AV} (hc : ∀ args w, (callFunc f args).run P w = .ok (.enter f args) w)
    (hf : P.funcs[f]? = some fn) (hb : fn.body = some c) (hn : Nat.ble As.length fn.ntmps = true)
    (h : ∀ (w : World) (O : Nat → Prop), Ent ⟨w, O, fun _ => False, fn.ntmps, []⟩ ⟨numbered 0 As, []⟩ (c.wp P (bodyPostM Fence.wide 0 P fn (Ends w O A)))) : Ctr P f As A :=
  ⟨hc, fun w O _ hO ha => callsIn_wide.1 (callsIn_of_wp_marks (n := 0) hf hb trivial (wpIn_wide.2 (h w O _ w (rep_enter (Nat.le_of_ble_eq_true hn) hO ha _))))⟩
end leaves
section knots
variable {P : Program} {E : Env} {st : St} {own : List Own}
theorem ent_giveF {K : Act → World → Prop} (k : Nat) (v : Value) {A' : AV} (c : Cv E st.own (OO E (st.own.eraseIdx k)) (aEx v) A') (h : Ent E ⟨st.slots, oFact v A' :: st.own.eraseIdx k⟩ K) : Ent E st K := by
  intro a w rp
  have hA := c w v rp.w rfl
  have r2 := rp.erase k
  have hO : ∀ b, OO E (oFact v A' :: st.own.eraseIdx k) b → OO E (st.own.eraseIdx k) b := by
    rintro b (h | ⟨o, ho, hb⟩)
    · exact .inl h
    · cases ho with
      | head => exact hb.elim
      | tail _ h => exact .inr ⟨o, h, hb⟩
  refine h a w ⟨r2.size, r2.defers, fun j B hj => ?_, fun o ho => ?_, List.Pairwise.cons (fun _ _ b hb => hb.elim) r2.apart, fun o ho b hb => ?_, r2.xold, r2.keep⟩
  · obtain ⟨u, u1, u2⟩ := r2.slots j B hj
    exact ⟨u, u1, AV.less u2 fun b _ hb => hO b hb⟩
  · cases ho with
    | head => exact AV.less hA fun b _ hb => hO b hb
    | tail _ h => exact Own.less (r2.own o h) hO
  · cases ho with
    | head => exact hb.elim
    | tail _ h => exact r2.free o h b hb
/-- A variable that holds a function that has captured As and the variable itself; m: as often as is asked. -/
def aFrm (f : FuncId) (As : List AV) : Nat → AV
  | 0 => aAny
  | m + 1 => aAt 1 false (aClo f (As ++ [aFrm f As m]))
theorem CvL.append {O : Nat → Prop} : ∀ {As Bs As' Bs' : List AV}, CvL E own O As Bs → CvL E own O As' Bs' → CvL E own O (As ++ As') (Bs ++ Bs')
  | [], [], _, _, _, h => h
  | _ :: _, _ :: _, _, _, ⟨h1, h2⟩, h => ⟨h1, CvL.append h2 h⟩
  | [], _ :: _, _, _, h, _ => h.elim
  | _ :: _, [], _, _, h, _ => h.elim
theorem cv_knot {k b : Nat} {T : TypeId} {f : FuncId} {us : List Value} {As : List AV} (hk : own[k]? = some (oBox b T [aEx (vClo f (us ++ [.pointer (some ⟨b, 0, none⟩)]))])) (hf : CvL E own (OO E (own.eraseIdx k)) (us.map aEx) As) :
    ∀ m, Cv E own (OO E (own.eraseIdx k)) (aEx (.pointer (some ⟨b, 0, none⟩))) (aFrm f As m)
  | 0 => cv_any
  | m + 1 => cv_box1 (off_erase hk) (cv_clo (by rw [List.map_append]; exact hf.append ⟨cv_knot hk hf m, trivial⟩))
end knots
end Go.Cw

