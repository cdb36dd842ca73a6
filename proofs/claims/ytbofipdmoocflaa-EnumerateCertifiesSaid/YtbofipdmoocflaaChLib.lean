/-
  Rules of a calculus for walks.
-/
import Derived.Test.YtbofipdmoocflaaCgLib
namespace Go.Cw
set_option linter.unusedSimpArgs false
set_option linter.unusedVariables false
section packs
variable {P : Program} {E : Env} {st : St} {Q : Exit → Act → World → Prop} {ops : Array Oper} {rest : List Oper} {s : List (Nat × AV)} {own : List Own}
variable {d : Nat} {ty : TypeId} {pos : String} {af : Array Edge} {g : Option (Nat × Bool)}
/-- Several own things, as one. -/
def oAll (l : List Own) : Own where
  has b := Blks l b
  holds h O := (∀ o ∈ l, o.holds h O) ∧ l.Pairwise (fun o o' : Own => ∀ b : Nat, o.has b → ¬ o'.has b)
  mono := fun h h' O O' ⟨h1, h2⟩ hs hb ho => ⟨fun o hm => o.mono h h' O O' (h1 o hm) hs (fun b hlt hn => hb b hlt (hn.imp id fun h => ⟨o, hm, h⟩)) ho, h2⟩
  lt := fun h O b ⟨h1, _⟩ ⟨o, hm, hob⟩ => o.lt h O b (h1 o hm) hob
theorem blks_all {l : List Own} {b : Nat} : Blks [oAll l] b ↔ Blks l b := ⟨fun ⟨o, hm, hb⟩ => by
  rw [List.mem_singleton.1 hm] at hb; exact hb, fun h => ⟨_, List.mem_singleton.2 rfl, h⟩⟩
theorem lends_all {l : List Own} {w : World} {O : Nat → Prop} : Lends [oAll l] w O ↔ Lends l w O := by
  have hb : (fun b => O b ∨ Blks [oAll l] b) = (fun b => O b ∨ Blks l b) := by funext b; rw [propext blks_all]
  constructor
  · rintro ⟨h1, _, h3⟩
    have h1' := h1 _ (List.mem_singleton.2 rfl)
    rw [hb] at h1'
    exact ⟨h1'.1, h1'.2, fun o hm b hob => h3 _ (List.mem_singleton.2 rfl) b ⟨o, hm, hob⟩⟩
  · rintro ⟨h1, h2, h3⟩
    refine ⟨fun o hm => ?_, List.pairwise_singleton _ _, fun o hm b hob => ?_⟩
    · rw [List.mem_singleton.1 hm, hb]; exact ⟨h1, h2⟩
    · rw [List.mem_singleton.1 hm] at hob; obtain ⟨o2, hm2, hb2⟩ := hob; exact h3 o2 hm2 b hb2
/-- What is known of a value. -/
def oFact (v : Value) (A : AV) : Own where
  has _ := False
  holds h O := A.holds h O v
  mono := fun h h' O O' hv hs hb ho => A.mono h h' O O' v hv hs (fun b hlt hn => hb b hlt (.inl hn)) ho
  lt := fun _ _ _ _ h => h.elim
/-- A slot's value is given a name. -/
theorem ent_fact {K : Act → World → Prop} (i : Nat) {A : AV} (hi : look st.slots i = some A) (h : ∀ v, Ent E ⟨(i, aEx v) :: st.slots, oFact v A :: st.own⟩ K) : Ent E st K := by
  intro a w rp
  obtain ⟨v, v1, v2⟩ := rp.slots _ _ hi
  have hO : ∀ b, OO E (oFact v A :: st.own) b → OO E st.own b := by
    rintro b (h | ⟨o, ho, hb⟩)
    · exact .inl h
    · cases ho with
      | head => exact hb.elim
      | tail _ h => exact .inr ⟨o, h, hb⟩
  refine h v a w ⟨rp.size, rp.defers, fun j B hj => ?_, fun o ho => ?_, List.Pairwise.cons (fun _ _ b hb => hb.elim) rp.apart, fun o ho b hb => ?_, rp.xold, rp.keep⟩
  · rw [show look ((i, aEx v) :: st.slots) j = if i = j then some (aEx v) else look st.slots j from look_cons _ _ _ _] at hj
    by_cases hij : i = j
    · subst hij; rw [if_pos rfl] at hj; cases hj; exact ⟨v, v1, rfl⟩
    · rw [if_neg hij] at hj
      obtain ⟨u, u1, u2⟩ := rp.slots j B hj
      exact ⟨u, u1, AV.less u2 fun b _ hb => hO b hb⟩
  · cases ho with
    | head => exact AV.less v2 fun b _ hb => hO b hb
    | tail _ h => exact Own.less (rp.own o h) hO
  · cases ho with
    | head => exact hb.elim
    | tail _ h => exact rp.free o h b hb
theorem cv_fact {O : Nat → Prop} {k : Nat} {v : Value} {A : AV} (hk : own[k]? = some (oFact v A)) (hO : SubO E own O) : Cv E own O (aEx v) A := fun w u rp h => by
  rw [show u = v from h]
  exact AV.less (rp.own _ (List.mem_of_getElem? hk)) fun b _ hb => hO b hb
end packs
section fvals
variable {P : Program} {E : Env} {st : St} {Q : Exit → Act → World → Prop} {ops : Array Oper} {rest : List Oper} {s : List (Nat × AV)} {own : List Own}
variable {d : Nat} {ty : TypeId} {pos : String} {af : Array Edge} {g : Option (Nat × Bool)}
/-- A call of a function value. -/
theorem ok_callFV {dd : Option Tmp} {f : FuncId} {x : Operand} {xs : List Operand} {tys : Array TypeId} {As Bs : List AV} {A : AV}
    (c : Ctr P f (As ++ Bs) A) (hv : opd s x = some (aClo f Bs)) (hx : ArgsA E s own (OO E own) xs As) : OpOK P E s own ⟨dd, .call { callee := .value x, args := xs.toArray, argTypes := tys }, ty, pos, af, g⟩ A := by
  intro a w r K Q hK
  obtain ⟨us, hu, hB⟩ := r.ev x (by simp [Op.operands, Call.operands]) _ hv
  have hrun : (execOp a.eval ⟨dd, .call { callee := .value x, args := xs.toArray, argTypes := tys }, ty, pos, af, g⟩).run P w = .ok (.enter f (xs.map a.eval ++ us).toArray) w := run_clo c.1 hu
  unfold Oper.wp
  rw [hrun, Oper.upon_enter]
  refine (c.2 w (OO E own) _ r.lt (HoldsAll.append (hx.holds r (fun x hx => by simp [Op.operands, Call.operands, hx])) hB)).mono ?_
  rintro e w' ⟨v, rfl, hA, hg⟩
  exact hK v w' hg hA
/-- A function without captured variables, as a value. -/
theorem cv_func {O : Nat → Prop} {f : FuncId} : Cv E own O (aEx (vClo f [])) (aClo f []) := cv_clo (us := []) trivial
end fvals
end Go.Cw

