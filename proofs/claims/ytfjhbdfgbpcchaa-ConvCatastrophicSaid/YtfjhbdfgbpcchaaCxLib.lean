/-
  Rules of a calculus for walks.
-/
import Derived.Test.YtfjhbdfgbpcchaaCwLib
set_option linter.unnecessarySimpa false
namespace Go.Cw
set_option linter.unusedSimpArgs false
set_option linter.unusedVariables false
section
variable {P : Program} {E : Env} {st : St} {Q : Exit → Act → World → Prop} {ops : Array Oper} {rest : List Oper} {s : List (Nat × AV)} {own : List Own}
variable {d : Nat} {ty : TypeId} {pos : String} {af : Array Edge} {g : Option (Nat × Bool)} {O : Nat → Prop}
def Cv (E : Env) (own : List Own) (O : Nat → Prop) (A A' : AV) : Prop := ∀ (w : World) (v : Value), RepW E own w → A.holds w.heap (OO E own) v → A'.holds w.heap O v
def Off (E : Env) (own : List Own) (O : Nat → Prop) (k : Nat) (o : Own) : Prop := own[k]? = some o ∧ ∀ w, RepW E own w → ∀ b, O b → OO E own b ∧ ¬ o.has b
def SubO (E : Env) (own : List Own) (O : Nat → Prop) : Prop := ∀ b, O b → OO E own b
theorem sub_x : SubO E own E.X := fun _ h => .inl h
theorem sub_refl : SubO E own (OO E own) := fun _ h => h
theorem sub_lent (ls : List Nat) : SubO E own (fun b => OO E own b ∧ ¬ Lent own ls b) := fun _ h => h.1
theorem off_x {k : Nat} {o : Own} (hk : own[k]? = some o) : Off E own E.X k o :=
 ⟨hk, fun _ r b hb => ⟨.inl hb, fun h => (r.free _ (List.mem_of_getElem? hk) b h).1 hb⟩⟩
theorem off_lent {ls : List Nat} {k : Nat} {o : Own} (hk : own[k]? = some o) (hl : k ∈ ls) : Off E own (fun b => OO E own b ∧ ¬ Lent own ls b) k o :=
 ⟨hk, fun _ _ b hb => ⟨hb.1, fun h => hb.2 ⟨k, hl, o, hk, h⟩⟩⟩
theorem RepW.gone {w : World} (r : RepW E own w) {k : Nat} {o : Own} (hk : own[k]? = some o) {b : Nat} (hb : o.has b) : ¬ OO E (own.eraseIdx k) b := by
 have hkl : k < own.length := (List.getElem?_eq_some_iff.1 hk).1
 have hke : own[k] = o := (List.getElem?_eq_some_iff.1 hk).2
 have hap := List.pairwise_iff_getElem.1 r.apart
 rintro (h | ⟨o', ho', hb'⟩)
 ·exact (r.free o (List.mem_of_getElem? hk) b hb).1 h
 ·obtain ⟨i, hi, hio⟩ := List.mem_eraseIdx_iff_getElem.1 ho'
  obtain ⟨hne, rfl⟩ := hio
  have hil : i < own.length := hi
  rcases Nat.lt_or_gt_of_ne hne with h | h
  ·exact hap i k hil hkl h b hb' (by rw [hke]; exact hb)
  ·exact hap k i hkl hil h b (by rw [hke]; exact hb) hb'
theorem off_erase {k : Nat} {o : Own} (hk : own[k]? = some o) : Off E own (OO E (own.eraseIdx k)) k o :=
 ⟨hk, fun _ r b hb => ⟨St_eraseO k b hb, fun h => r.gone hk h hb⟩⟩
theorem cv_id {A : AV} (hO : SubO E own O) : Cv E own O A A := fun _ _ _ h => AV.less h (fun b _ hb => hO b hb)
theorem cv_any {A : AV} : Cv E own O A aAny := fun _ _ _ _ => trivial
theorem cv_int {n n' : Int} (e : n = n') : Cv E own O (aInt n) (aInt n') := fun _ _ _ h => by subst e; exact h
theorem cv_bool {n n' : Bool} (e : n = n') : Cv E own O (aBool n) (aBool n') := fun _ _ _ h => by subst e; exact h
theorem cv_ex {n n' : Value} (e : n = n') : Cv E own O (aEx n) (aEx n') := fun _ _ _ h => by subst e; exact h
theorem cv_sl {α : Type} {sz : Nat} {agg : Bool} {enc : α → AV} {xs xs' : List α} (hO : SubO E own O) (e : xs = xs') : Cv E own O (aSl sz agg enc xs) (aSl sz agg enc xs') := by
 subst e; exact cv_id hO
theorem cv_nil {α : Type} {sz : Nat} {agg : Bool} {enc : α → AV} {xs' : List α} (h1 : agg = false → sz = 1) (e : [] = xs') : Cv E own O (aEx (.slice none 0 0)) (aSl sz agg enc xs') := fun _ _ _ h => by
 subst e; exact aSl_nil h1 _ _ _ h
theorem cv_vec {α : Type} {k : Nat} {r : Option Nat} {n cap : Nat} {e : TypeId} {sz : Nat} {agg : Bool} {enc : α → AV} {xs xs' : List α} (ho : Off E own O k (oVec r cap e sz agg enc xs)) (hn : n = xs.length) (ee : xs = xs') :
  Cv E own O (aEx (vec r n cap)) (aSl sz agg enc xs') := fun w v rp h => by
 subst ee
 rw [show v = vec r n cap from h, hn]
 exact vec_sl (rp.own _ (List.mem_of_getElem? ho.1)) (fun b hb => (ho.2 w rp b hb).1) (fun b hb h' => (ho.2 w rp b h').2 hb)
def CvL (E : Env) (own : List Own) (O : Nat → Prop) : List AV → List AV → Prop
 | [], [] => True
 | A :: As, B :: Bs => Cv E own O A B ∧ CvL E own O As Bs
 | _, _ => False
theorem CvL.get : ∀ {As Bs : List AV}, CvL E own O As Bs → As.length = Bs.length ∧ ∀ (i : Nat) (B : AV), Bs[i]? = some B → ∃ A, As[i]? = some A ∧ Cv E own O A B
 | [], [], _ => ⟨rfl, fun i B h => by simp at h⟩
 | A :: As, B :: Bs, h => by
  obtain ⟨h1, h2⟩ := CvL.get h.2
  refine ⟨by simp [h1], fun i C hC => ?_⟩
  cases i with
  | zero => simp only [List.getElem?_cons_zero, Option.some.injEq] at hC; subst hC; exact ⟨A, rfl, h.1⟩
  | succ i => simp only [List.getElem?_cons_succ] at hC ⊢; exact h2 i C hC
 | [], _ :: _, h => h.elim
 | _ :: _, [], h => h.elim
theorem cv_agg {As Bs : List AV} (h : CvL E own O As Bs) : Cv E own O (aAgg As) (aAgg Bs) := fun w v rp hv => by
 obtain ⟨cs, h1, h2, h3⟩ := hv
 obtain ⟨k1, k2⟩ := h.get
 refine ⟨cs, h1, by rw [h2, k1], fun i B c hB hc => ?_⟩
 obtain ⟨A, hA, hcv⟩ := k2 i B hB
 exact hcv w c rp (h3 i A c hA hc)
theorem cv_box {k b n : Nat} {T : TypeId} {As Bs : List AV} (ho : Off E own O k (oBox b T As)) (h : CvL E own O As Bs) (hn : As.length = n) :
  Cv E own O (aEx (.pointer (some ⟨b, 0, none⟩))) (aAt n true (aAgg Bs)) := fun w v rp hv => by
 rw [show v = .pointer (some ⟨b, 0, none⟩) from hv]
 obtain ⟨cur, g1, g2, g3⟩ := rp.own _ (List.mem_of_getElem? ho.1)
 obtain ⟨k1, k2⟩ := h.get
 refine ⟨b, 0, cur, rfl, by rw [g2, hn], (fun h => by cases h), ⟨fun hb => (ho.2 w rp b hb).2 rfl, cur.toArray, T, (0, 0), g1, fun j u hu => by simpa using hu⟩, cur, rfl, by rw [g2, k1], fun i B c hB hc => ?_⟩
 obtain ⟨A, hA, hcv⟩ := k2 i B hB
 exact hcv w c rp (g3 i A c hA hc).1
theorem res_cv {t : Nat} {A A' : AV} (h : look st.slots t = some A) (c : Cv E st.own O A A') : Res E st t A' O := fun _ w r => c w _ r.w (r.slotEx h)
theorem ent_give {K : Act → World → Prop} (k i : Nat) {A A' : AV} (hi : look st.slots i = some A) (c : Cv E st.own (OO E (st.own.eraseIdx k)) A A') (h : Ent E ⟨(i, A') :: st.slots, st.own.eraseIdx k⟩ K) : Ent E st K := by
 intro a w rp
 refine h a w ?_
 have r2 := rp.erase k
 refine ⟨r2.size, r2.defers, fun j B hj => ?_, r2.own, r2.apart, r2.free, r2.xold, r2.keep⟩
 rw [show look ((i, A') :: st.slots) j = if i = j then some A' else look st.slots j from look_cons _ _ _ _] at hj
 by_cases hij : i = j
 ·subst hij
  rw [if_pos rfl] at hj; cases hj
  obtain ⟨v, v1, v2⟩ := rp.slots _ _ hi
  exact ⟨v, v1, c w v rp.w v2⟩
 ·rw [if_neg hij] at hj
  exact r2.slots j B hj
theorem ent_cv {K : Act → World → Prop} (i : Nat) {A A' : AV} (hi : look st.slots i = some A) (c : Cv E st.own (OO E st.own) A A') (h : Ent E ⟨(i, A') :: st.slots, st.own⟩ K) : Ent E st K := by
 intro a w rp
 refine h a w ⟨rp.size, rp.defers, fun j B hj => ?_, rp.own, rp.apart, rp.free, rp.xold, rp.keep⟩
 rw [show look ((i, A') :: st.slots) j = if i = j then some A' else look st.slots j from look_cons _ _ _ _] at hj
 by_cases hij : i = j
 ·subst hij
  rw [if_pos rfl] at hj; cases hj
  obtain ⟨v, v1, v2⟩ := rp.slots _ _ hi
  exact ⟨v, v1, c w v rp.w v2⟩
 ·rw [if_neg hij] at hj
  exact rp.slots j B hj
theorem arg_cv {ls : List Nat} {x : Operand} {A A' : AV} (hx : opd s x = some A) (c : Cv E own (fun b => OO E own b ∧ ¬ Lent own ls b) A A') : ArgOK E s own ls x A' :=
 fun v w r h => c w v r (h A hx)
def resOne (tmps : Array Value) : ResultVar → Sem Value
 | .tmp t => pure (tmps.getD t undef)
 | .cell a t => do loadVar t (← asAddr (tmps.getD a undef))
def ResR (P : Program) (E : Env) (st : St) (r : ResultVar) (A : AV) (O : Nat → Prop) : Prop := ∀ a w, Rep E st a w → ∃ v, (resOne a.tmps r).run P w = .ok v w ∧ A.holds w.heap O v
theorem resr_tmp {t : Nat} {A : AV} (h : Res E st t A O) : ResR P E st (.tmp t) A O := fun a w r => ⟨_, rfl, h a w r⟩
theorem results_map (fn : Func) (tmps : Array Value) : results fn tmps = (do let vs ← fn.results.mapM (resOne tmps); pure (if h : vs.size = 1 then vs[0] else .tuple vs)) := by
 unfold results
 congr 1
theorem retR1 {fn : Func} {e : Exit} {r1 : ResultVar} {A : AV} {w : World} {X : Nat → Prop} {n : Nat} (he : e = .normal ∨ e = .ret) (hres : fn.results = #[r1]) (h1 : ResR P ⟨w, X, fun _ => False, n, []⟩ st r1 A O) :
  Ent ⟨w, X, fun _ => False, n, []⟩ st (bodyPost P fn (Ends w O A) e) :=
 ent_end e he A O rfl (fun a w r => by
  obtain ⟨v, v1, v2⟩ := h1 a w r
  exact ⟨v, by rw [results_map, hres]; simp [v1], v2⟩) (fun v _ h1 h2 => ⟨v, rfl, h1, h2⟩)
theorem retR2 {fn : Func} {e : Exit} {r1 r2 : ResultVar} {A B : AV} {w : World} {X : Nat → Prop} {n : Nat} (he : e = .normal ∨ e = .ret) (hres : fn.results = #[r1, r2]) (h1 : ResR P ⟨w, X, fun _ => False, n, []⟩ st r1 A O) (h2 : ResR P ⟨w, X, fun _ => False, n, []⟩ st r2 B O) :
  Ent ⟨w, X, fun _ => False, n, []⟩ st (bodyPost P fn (Ends w O (aTup [A, B])) e) :=
 ent_end e he _ O rfl (fun a w r => by
  obtain ⟨v, v1, v2⟩ := h1 a w r
  obtain ⟨u, u1, u2⟩ := h2 a w r
  exact ⟨.tuple #[v, u], by rw [results_map, hres]; simp [v1, u1], aTup_two v2 u2⟩) (fun v _ h1 h2 => ⟨v, rfl, h1, h2⟩)
theorem retR3 {fn : Func} {e : Exit} {r1 r2 r3 : ResultVar} {A B C : AV} {w : World} {X : Nat → Prop} {n : Nat} (he : e = .normal ∨ e = .ret) (hres : fn.results = #[r1, r2, r3]) (h1 : ResR P ⟨w, X, fun _ => False, n, []⟩ st r1 A O) (h2 : ResR P ⟨w, X, fun _ => False, n, []⟩ st r2 B O)
  (h3 : ResR P ⟨w, X, fun _ => False, n, []⟩ st r3 C O) : Ent ⟨w, X, fun _ => False, n, []⟩ st (bodyPost P fn (Ends w O (aTup [A, B, C])) e) :=
 ent_end e he _ O rfl (fun a w r => by
  obtain ⟨v, v1, v2⟩ := h1 a w r
  obtain ⟨u, u1, u2⟩ := h2 a w r
  obtain ⟨x, x1, x2⟩ := h3 a w r
  exact ⟨.tuple #[v, u, x], by rw [results_map, hres]; simp [v1, u1, x1], aTup_three v2 u2 x2⟩) (fun v _ h1 h2 => ⟨v, rfl, h1, h2⟩)
end
section
variable {P : Program} {E : Env} {st : St} {s : List (Nat × AV)} {own : List Own}
variable {d : Nat} {ty : TypeId} {pos : String} {af : Array Edge} {g : Option (Nat × Bool)}
def IntFs (P : Program) : Nat → List Field → Prop
 | _, [] => True
 | k, f :: fs => f.offset = k ∧ f.name ≠ "_" ∧ P.underlying f.type = some (.int .i64) ∧ (∀ w, (isAgg f.type).run P w = .ok false w) ∧ IntFs P (k + 1) fs
structure IntsTy (P : Program) (T : TypeId) (n : Nat) : Prop where
 und : P.underlying T = some (.struct (P.fieldsOf T))
 fs : IntFs P 0 (P.fieldsOf T).toList
 len : (P.fieldsOf T).toList.length = n
 held : P.stoodInHeld T = false
 grd : P.eqGuardType P.depth T = false
end
section
variable {P : Program} {E : Env} {st : St} {Q : Exit → Act → World → Prop} {ops : Array Oper} {rest : List Oper} {s : List (Nat × AV)} {own : List Own}
variable {d : Nat} {ty : TypeId} {pos : String} {af : Array Edge} {g : Option (Nat × Bool)} {O : Nat → Prop}
theorem dq_T {v : Bool} {p : Prop} [Decidable p] (hv : v = true) (h : p) : v = decide p := by rw [hv, decide_eq_true h]
theorem dq_F {v : Bool} {p : Prop} [Decidable p] (hv : v = false) (h : ¬ p) : v = decide p := by rw [hv, decide_eq_false h]
theorem dq_Q {q p : Prop} [Decidable q] [Decidable p] (h : p ↔ q) : decide q = decide p := decide_eq_decide.2 h.symm
theorem dq_B {b : Bool} {p : Prop} [Decidable p] (h : p ↔ b = true) : b = decide p := by
 cases b with
 | true => exact (decide_eq_true (h.2 rfl)).symm
 | false => exact (decide_eq_false (fun hp => by cases h.1 hp)).symm
theorem nt_of {b : Bool} (h : b = false) : ¬ b = true := by rw [h]; decide
theorem nt_to {b : Bool} (h : ¬ b = true) : b = false := by cases b <;> simp_all
theorem slot_bool {m n : Bool} (h : m = n) : some (aBool m) = some (aBool n) := by rw [h]
theorem slot_av {A B : AV} (h : A = B) : some A = some B := by rw [h]
theorem own_cons {o o' : Own} {l l' : List Own} (h : o = o') (k : l = l') : o :: l = o' :: l' := by rw [h, k]
theorem own_vec {α : Type} {r : Option Nat} {cap : Nat} {e : TypeId} {sz : Nat} {agg : Bool} {enc : α → AV} {xs ys : List α} (h : xs = ys) : oVec r cap e sz agg enc xs = oVec r cap e sz agg enc ys := by rw [h]
theorem own_box {b : Nat} {T : TypeId} {As Bs : List AV} (h : As = Bs) : oBox b T As = oBox b T Bs := by rw [h]
theorem av_cons {A B : AV} {As Bs : List AV} (h : A = B) (k : As = Bs) : A :: As = B :: Bs := by rw [h, k]
theorem av_int {m n : Int} (h : m = n) : aInt m = aInt n := by rw [h]
theorem av_sl {α : Type} {sz : Nat} {agg : Bool} {enc : α → AV} {xs ys : List α} (h : xs = ys) : aSl sz agg enc xs = aSl sz agg enc ys := by rw [h]
theorem av_vec {r : Option Nat} {m n c : Nat} (h : m = n) : aEx (vec r m c) = aEx (vec r n c) := by rw [h]
theorem ent_appendL {α : Type} {T e : TypeId} {sz bytes : Nat} {agg : Bool} {z : Value} {enc : α → AV} {xs : List α} {y : α} {r : Option Nat} {n cap k t1 : Nat} {x yv : Operand} {ty1 : TypeId} {pos1 : String} {af1 : Array Edge}
  (hd : Nat.ble (d + 1) E.n = true) (hd1 : Nat.ble (t1 + 1) E.n = true) (ht : VecTy P T e sz bytes agg z)
  (hk : st.own[k]? = some (oVec r cap e sz agg enc xs)) (hx : opd ((t1, aAny) :: st.slots) x = some (aEx (vec r n cap))) (hnn : n = xs.length) (hy : opd st.slots yv = some (enc y)) (he : ElemOK (enc y) agg sz)
  (hn : (xs.length + 1) * bytes ≤ 140737488355328) (hn2 : xs.length + 1 ≤ 140737488355328) (hsz : sz ≤ 16777216)
  (kk : ∀ b' cap', Ent E ⟨(d, aEx (vec (some b') (xs ++ [y]).length cap')) :: (t1, aAny) :: st.slots, st.own.set k (oVec (some b') cap' e sz agg enc (xs ++ [y]))⟩ (wpList P ops Q rest)) :
  Ent E st (wpList P ops Q (⟨some t1, .buildSlice T 1 #[(0, yv)], ty1, pos1, af1, none⟩ :: ⟨some d, .call { callee := .builtin .append, args := #[x, .tmp t1], argTypes := #[T, T] }, ty, pos, af, none⟩ :: rest)) := by
 subst hnn
 refine ent_append1 hd hd1 ht hk hx hy he hn hn2 hsz fun b' cap' => ?_
 have := kk b' cap'
 rw [List.length_append] at this
 exact this
theorem ent_rsome {α : Type} {K : Act → World → Prop} (k : Nat) {r : Option Nat} {cap : Nat} {e : TypeId} {sz : Nat} {agg : Bool} {enc : α → AV} {xs : List α} (hk : st.own[k]? = some (oVec r cap e sz agg enc xs)) (hne : 0 < xs.length)
  (h : ∀ b, r = some b → Ent E st K) : Ent E st K := by
 intro a w rp
 obtain ⟨q0, q1, q2⟩ := rp.own _ (List.mem_of_getElem? hk)
 rcases q2 with ⟨_, h2, _⟩ | ⟨b, cur, hb, _⟩
 ·subst h2; simp at hne
 ·exact h b hb a w rp
def ArgsA (E : Env) (s : List (Nat × AV)) (own : List Own) (O : Nat → Prop) : List Operand → List AV → Prop
 | [], [] => True
 | x :: xs, A :: As => (∃ B, opd s x = some B ∧ Cv E own O B A) ∧ ArgsA E s own O xs As
 | _, _ => False
theorem arg_a {O : Nat → Prop} {x : Operand} {A B : AV} (hx : opd s x = some B) (c : Cv E own O B A) : ∃ B, opd s x = some B ∧ Cv E own O B A := ⟨B, hx, c⟩
theorem ArgsA.holds {o : Oper} {a : Act} {w : World} (r : OpR E s own o a w) : ∀ {xs : List Operand} {As : List AV}, (∀ x ∈ xs, x ∈ o.op.operands) → ArgsA E s own O xs As →
  HoldsAll As w.heap O (xs.map a.eval)
 | [], [], _, _ => HoldsAll.nil _ _
 | x :: xs, A :: As, hm, h => by
  obtain ⟨⟨B, h1, h2⟩, h3⟩ := h
  exact HoldsAll.cons (h2 w _ r.world (r.ev x (hm x (by simp)) B h1)) (ArgsA.holds r (fun y hy => hm y (by simp [hy])) h3)
 | [], _ :: _, _, h => h.elim
 | _ :: _, [], _, h => h.elim
theorem ok_callA {dd : Option Tmp} {f : FuncId} {xs : List Operand} {tys : Array TypeId} {As : List AV} {A : AV}
  (c : Ctr P f As A) (hx : ArgsA E s own (OO E own) xs As) : OpOK P E s own ⟨dd, .call { callee := .value (.func f), args := xs.toArray, argTypes := tys }, ty, pos, af, g⟩ A := by
 intro a w r K Q hK
 have hrun : (execOp a.eval ⟨dd, .call { callee := .value (.func f), args := xs.toArray, argTypes := tys }, ty, pos, af, g⟩).run P w = .ok (.enter f (xs.map a.eval).toArray) w := by
  simp [execOp, resolve, Act.eval, Deferred.ofValue, invoke, c.1]
 unfold Oper.wp
 rw [hrun, Oper.upon_enter]
 refine (c.2 w (OO E own) _ r.lt (hx.holds r (fun x hx => by simp [Op.operands, Call.operands, hx]))).mono ?_
 rintro e w' ⟨v, rfl, hA, hg⟩
 exact hK v w' hg hA
def Pl (A : AV) : Prop := ∀ h O h' O' v, A.holds h O v → A.holds h' O' v
theorem pl_ex {v : Value} : Pl (aEx v) := fun _ _ _ _ _ h => h
def AllPl : List AV → Prop
 | [] => True
 | A :: r => Pl A ∧ AllPl r
theorem AllPl.mem : ∀ {As : List AV}, AllPl As → ∀ A ∈ As, Pl A
 | _ :: _, h, _, .head _ => h.1
 | _ :: _, h, A, .tail _ hm => AllPl.mem h.2 A hm
theorem pl_tup {As : List AV} (h : AllPl As) : Pl (aTup As) := fun _ _ _ _ _ ⟨cs, h1, h2, h3⟩ => ⟨cs, h1, h2, fun i A c hA hc => h.mem A (List.mem_of_getElem? hA) _ _ _ _ _ (h3 i A c hA hc)⟩
theorem ok_callP {dd : Option Tmp} {f : FuncId} {xs : List Operand} {tys : Array TypeId} {As : List AV} {A : AV} (ls : List Nat) (hp : Pl A)
  (c : Ctr P f As A) (hx : ArgsA E s own (fun b => OO E own b ∧ ¬ Lent own ls b) xs As) : OpOK P E s own ⟨dd, .call { callee := .value (.func f), args := xs.toArray, argTypes := tys }, ty, pos, af, g⟩ A := by
 intro a w r K Q hK
 have hrun : (execOp a.eval ⟨dd, .call { callee := .value (.func f), args := xs.toArray, argTypes := tys }, ty, pos, af, g⟩).run P w = .ok (.enter f (xs.map a.eval).toArray) w := by
  simp [execOp, resolve, Act.eval, Deferred.ofValue, invoke, c.1]
 unfold Oper.wp
 rw [hrun, Oper.upon_enter]
 refine (c.2 w (fun b => OO E own b ∧ ¬ Lent own ls b) _ (fun b hb => r.lt b hb.1) (hx.holds r (fun x hx => by simp [Op.operands, Call.operands, hx]))).mono ?_
 rintro e w' ⟨v, rfl, hA, hg⟩
 exact hK v w' hg (hp _ _ _ _ _ hA)
theorem CtrF.sl {α : Type} {f : FuncId} {As : List AV} {e : TypeId} {sz : Nat} {agg : Bool} {enc : α → AV} {xs : List α} (c : CtrF P f As (aVec e sz agg enc xs)) : CtrF P f As (aSl sz agg enc xs) :=
 ⟨c.1, fun w O vs hO ha => (c.2 w O vs hO ha).mono fun _ _ ⟨v, h1, h2, h3⟩ => ⟨v, h1, aVec_sl _ _ _ h2, h3⟩⟩
theorem ArgsA.ok {ls : List Nat} : ∀ {xs : List Operand} {As : List AV}, ArgsA E s own (fun b => OO E own b ∧ ¬ Lent own ls b) xs As → ArgsOK E s own ls xs As
 | [], [], _ => trivial
 | x :: xs, A :: As, h => by
  obtain ⟨⟨B, h1, h2⟩, h3⟩ := h
  exact ⟨arg_cv h1 h2, ArgsA.ok h3⟩
 | [], _ :: _, h => h.elim
 | _ :: _, [], h => h.elim
def FrO (E : Env) : Nat → Prop := fun b => b < E.w0.heap.size
theorem frO_free {w : World} (rp : RepW E own w) (hm : E.M = fun _ => False) {k : Nat} {o : Own} (hk : own[k]? = some o) {b : Nat} (hb : o.has b) : ¬ FrO E b := by
 rcases (rp.free o (List.mem_of_getElem? hk) b hb).2 with h | h
 ·unfold FrO; omega
 ·rw [hm] at h; exact h.elim
theorem cvF_vec {α : Type} {k : Nat} {r : Option Nat} {n cap : Nat} {e : TypeId} {sz : Nat} {agg : Bool} {enc : α → AV} {xs xs' : List α} (hf : Flat enc) (hm : E.M = fun _ => False) (hk : own[k]? = some (oVec r cap e sz agg enc xs)) (hn : n = xs.length) (ee : xs = xs') :
  Cv E own (FrO E) (aEx (vec r n cap)) (aSl sz agg enc xs') := fun w v rp h => by
 subst ee
 rw [show v = vec r n cap from h, hn]
 have hh := oVec_flat hf (O' := FrO E) (rp.own _ (List.mem_of_getElem? hk))
 exact vec_sl hh (fun b hb => hb) (fun b hb => frO_free rp hm hk hb)
theorem cvF_vecV {α : Type} {k : Nat} {r : Option Nat} {n cap : Nat} {e : TypeId} {sz : Nat} {agg : Bool} {enc : α → AV} {xs xs' : List α} (hf : Flat enc) (hm : E.M = fun _ => False) (hk : own[k]? = some (oVec r cap e sz agg enc xs)) (hn : n = xs.length) (ee : xs = xs') :
  Cv E own (FrO E) (aEx (vec r n cap)) (aVec e sz agg enc xs') := fun w v rp h => by
 subst ee
 refine ⟨r, cap, by rw [show v = vec r n cap from h, hn], oVec_flat hf (rp.own _ (List.mem_of_getElem? hk)), fun b hb => frO_free rp hm hk hb⟩
theorem cvF_box {k b n : Nat} {T : TypeId} {As Bs : List AV} (hm : E.M = fun _ => False) (hk : own[k]? = some (oBox b T As)) (h : CvL E own (FrO E) As Bs) (hn : As.length = n) :
  Cv E own (FrO E) (aEx (.pointer (some ⟨b, 0, none⟩))) (aAt n true (aAgg Bs)) := fun w v rp hv => by
 rw [show v = .pointer (some ⟨b, 0, none⟩) from hv]
 obtain ⟨cur, g1, g2, g3⟩ := rp.own _ (List.mem_of_getElem? hk)
 obtain ⟨k1, k2⟩ := h.get
 refine ⟨b, 0, cur, rfl, by rw [g2, hn], (fun h => by cases h), ⟨frO_free rp hm hk rfl, cur.toArray, T, (0, 0), g1, fun j u hu => by simpa using hu⟩, cur, rfl, by rw [g2, k1], fun i B c hB hc => ?_⟩
 obtain ⟨A, hA, hcv⟩ := k2 i B hB
 exact hcv w c rp (g3 i A c hA hc).1
end
section
variable {P : Program} {E : Env} {st : St} {Q : Exit → Act → World → Prop} {ops : Array Oper} {rest : List Oper} {s : List (Nat × AV)} {own : List Own}
variable {d : Nat} {ty : TypeId} {pos : String} {af : Array Edge} {g : Option (Nat × Bool)}
def AllV : List Value → Prop
 | [] => True
 | u :: r => u.oneCell' = true ∧ AllV r
theorem AllV.mem : ∀ {us : List Value}, AllV us → ∀ u ∈ us, u.oneCell' = true
 | _ :: _, h, _, .head _ => h.1
 | _ :: _, h, u, .tail _ hm => AllV.mem h.2 u hm
def AllZ : List AV → List Value → Prop
 | [], [] => True
 | A :: As, u :: us => (∀ h O, A.holds h O u) ∧ u.oneCell' = true ∧ AllZ As us
 | _, _ => False
theorem AllZ.get : ∀ {As : List AV} {us : List Value}, AllZ As us → us.length = As.length ∧ ∀ (h : Heap) (O : Nat → Prop) (i : Nat) (A : AV) (u : Value), As[i]? = some A → us[i]? = some u → A.holds h O u ∧ u.oneCell' = true
 | [], [], _ => ⟨rfl, fun _ _ i A u h => by simp at h⟩
 | A :: As, u :: us, h => by
  obtain ⟨h1, h2, h3⟩ := h
  obtain ⟨k1, k2⟩ := AllZ.get h3
  refine ⟨by simp [k1], fun hp O i B v hB hv => ?_⟩
  cases i with
  | zero => simp only [List.getElem?_cons_zero, Option.some.injEq] at hB hv; subst hB hv; exact ⟨h1 hp O, h2⟩
  | succ i => simp only [List.getElem?_cons_succ] at hB hv; exact k2 hp O i B v hB hv
 | [], _ :: _, h => h.elim
 | _ :: _, [], h => h.elim
theorem z_of {As : List AV} {us : List Value} (h : AllZ As us) : ∀ hp O, CellsHold hp O As us := fun hp O => ⟨h.get.1, fun i A c hA hc => (h.get.2 hp O i A c hA hc).1⟩
theorem ok_notD {x : Operand} {tx : TypeId} {p : Prop} [Decidable p] (hx : opd s x = some (aBool (decide p))) :
  OpOK P E s own ⟨some d, .unOp .not tx x, ty, pos, af, g⟩ (aBool (decide (¬ p))) := by
 have := ok_not (P := P) (E := E) (own := own) (d := d) (ty := ty) (pos := pos) (af := af) (g := g) (tx := tx) hx
 rwa [← decide_not] at this
theorem fill_congr {f h : Nat → Option (Nat × Nat)} : ∀ (parts : List (Nat × Value)) (cs : Array Value), (∀ p ∈ parts, f p.1 = h p.1) → Instr.fill f cs parts = Instr.fill h cs parts
 | [], cs, _ => rfl
 | (i, v) :: r, cs, hh => by
  unfold Instr.fill
  rw [hh (i, v) (by simp)]
  cases h i with
  | none => rfl
  | some p =>
   obtain ⟨off, sz⟩ := p
   simp only
   split
   ·rfl
   ·exact fill_congr r _ (fun p hp => hh p (by simp [hp]))
theorem ent_buildN {α : Type} {T e : TypeId} {bytes : Nat} {z : Value} {n : Nat} {parts : List (Nat × Operand)} (enc : α → AV) (ys : List α) (hd : Nat.ble (d + 1) E.n = true) (ht : VecTy P T e 1 bytes false z) (hn : n ≤ 1000000)
  (hf : FillOK st.slots ((List.range n).map fun i => (i, 1)) parts (List.replicate n aAny) (ys.map enc)) (hl : ys.length = n)
  (k : ∀ b, Ent E ⟨(d, aEx (vec (some b) ys.length n)) :: st.slots, oVec (some b) n e 1 false enc ys :: st.own⟩ (wpList P ops Q rest)) (hone : ∀ y ∈ ys, One (enc y) := by simp [one_int, one_bool, one_sl]) (hpl : ∀ p ∈ parts, p.1 < n := by decide) :
  Ent E st (wpList P ops Q (⟨some d, .buildSlice T n parts.toArray, ty, pos, af, none⟩ :: rest)) := by
 refine ent_new (d := d) rfl rfl hd (fun b => oVec (some b) n e 1 false enc ys) (fun b => vec (some b) ys.length n) (fun a w r => ?_) k
 obtain ⟨ii, i1, i2, i3, i4⟩ := ht.info
 have hinit : CellsHold w.heap (OO E st.own) (List.replicate n aAny) (List.replicate n (z.cells[0 % z.cells.size]!)) := ⟨by simp, fun i A c hA hc => by
  rw [List.getElem?_replicate] at hA
  split at hA
  ·cases hA; exact trivial
  ·cases hA⟩
 obtain ⟨cs', e1, e2⟩ := fill_ok (h := w.heap) (O := OO E st.own) (a := a) parts _ _ _ hf (fun x hx B hB => r.eval hB) hinit
 have hzs : z.cells.size = 1 := ht.zs
 have hcells : ((Array.range (n * 1)).map (z.cells[· % z.cells.size]!)) = (List.replicate n (z.cells[0 % z.cells.size]!)).toArray := by
  apply Array.ext
  ·simp
  ·intro i h1 h2
   simp [hzs, Nat.mod_one]
 have hfill : Instr.fill (fun i => some (i * 1, 1)) ((Array.range (n * 1)).map (z.cells[· % z.cells.size]!)) (parts.map fun p => (p.1, a.eval p.2)) = some cs'.toArray := by
  rw [hcells, ← e1]
  refine fill_congr _ _ fun p hp => ?_
  obtain ⟨q, hq, rfl⟩ := List.mem_map.1 hp
  have := hpl q hq
  simp [this]
 have hlen : cs'.length = n := by rw [e2.1]; simp [hl]
 have g := Grow.alloc w (.cells cs'.toArray e)
 refine ⟨w.alloc (.cells cs'.toArray e), ?_, g, (fun b hb => (Option.some.inj hb).symm), ⟨by rw [hl]; omega, fun _ => rfl, .inr ⟨w.heap.size, cs'.toArray, rfl, heap_alloc_new w _, by rw [hl]; exact Nat.le_refl _, by simp only [maxLen]; omega, by simp [hlen], fun i y hy => ?_⟩⟩⟩
 ·have hbig : ¬ (16777216 < n) := by omega
  have hev : (parts.toArray.map fun p => (p.1, a.eval p.2)).toList = parts.map fun p => (p.1, a.eval p.2) := by simp
  by_cases hn0 : n = 0
  ·subst hn0
   have hp0 : parts = [] := by
    cases parts with
    | nil => rfl
    | cons p r => exact absurd (hpl p (by simp)) (by omega)
   subst hp0
   have hc0 : cs' = [] := List.eq_nil_of_length_eq_zero hlen
   subst hc0
   have hy0 : ys.length = 0 := hl
   have hz : Array.map (fun x => (default : Value)) (Array.range 0) = #[] := by simp
   simp [execOp, Instr.buildSlice, run_underlying ht.und, ht.sl.size, newRow, Instr.fill, vec, hy0, hz]
  ·simp only [Nat.mul_one] at hfill
   simp [execOp, Instr.buildSlice, run_underlying ht.und, ht.sl.size, zeroValue, typeInfo, i1, i2, newRow, hbig, hn0, hfill, vec, hl]
 ·have hi : i < ys.length := (List.getElem?_eq_some_iff.1 hy).1
  have hic : i < cs'.length := by omega
  have hA := e2.2 i (enc y) cs'[i] (by rw [List.getElem?_map, hy]; rfl) (List.getElem?_eq_getElem hic)
  refine ⟨[cs'[i]], rfl, fun j u hu => ?_, ?_⟩
  ·match j, hu with
   | 0, hu =>
    simp only [List.getElem?_cons_zero, Option.some.injEq] at hu
    subst hu
    refine ⟨by simp [hic], hone y (List.mem_of_getElem? hy) _ _ _ hA⟩
   | j + 1, hu => simp at hu
  ·show (enc y).holds _ _ cs'[i]
   exact AV.new (o := oVec (some w.heap.size) n e 1 false enc ys) hA (fun b hb => Nat.le_of_eq (Option.some.inj hb)) g
end
section
variable {P : Program} {E : Env} {st : St} {Q : Exit → Act → World → Prop} {ops : Array Oper} {rest : List Oper} {s : List (Nat × AV)} {own : List Own}
variable {d : Nat} {ty : TypeId} {pos : String} {af : Array Edge} {g : Option (Nat × Bool)}
theorem drop_take_one {α : Type} (l : List α) (i : Nat) (x : α) (h : l[i]? = some x) : (l.drop i).take 1 = [x] := by
 have hi : i < l.length := (List.getElem?_eq_some_iff.1 h).1
 rw [List.drop_eq_getElem_cons hi, List.take_succ_cons, List.take_zero]
 rw [List.getElem?_eq_getElem hi] at h
 cases h; rfl
theorem list_set_self {α : Type} {l : List α} {k : Nat} {o : α} (h : l[k]? = some o) : l.set k o = l := by
 apply List.ext_getElem? ; intro i
 by_cases hi : k = i
 ·subst hi; rw [List.getElem?_set_self (List.getElem?_eq_some_iff.1 h).1, h]
 ·rw [List.getElem?_set_ne hi]
theorem ent_appendS {α : Type} {T e : TypeId} {bytes : Nat} {z : Value} {enc : α → AV} {xs ys : List α} {r : Option Nat} {n cap k : Nat} {x yv : Operand} {B : AV}
  (hd : Nat.ble (d + 1) E.n = true) (ht : VecTy P T e 1 bytes false z)
  (hk : st.own[k]? = some (oVec r cap e 1 false enc xs)) (hx : opd st.slots x = some (aEx (vec r n cap))) (hnn : n = xs.length)
  (hy : opd st.slots yv = some B) (hc : Cv E st.own (OO E st.own) B (aSl 1 false enc ys))
  (hn : (xs.length + ys.length) * bytes ≤ 140737488355328) (hn2 : xs.length + ys.length ≤ 140737488355328)
  (kk : ∀ r' cap', Ent E ⟨(d, aEx (vec r' (xs ++ ys).length cap')) :: st.slots, st.own.set k (oVec r' cap' e 1 false enc (xs ++ ys))⟩ (wpList P ops Q rest)) (hone : ∀ y ∈ ys, One (enc y) := by simp [one_int, one_bool, one_sl]) :
  Ent E st (wpList P ops Q (⟨some d, .call { callee := .builtin .append, args := #[x, yv], argTypes := #[T, T] }, ty, pos, af, none⟩ :: rest)) := by
 subst hnn
 intro a w rp
 obtain ⟨ii, i1, i2, i3, i4⟩ := ht.info
 obtain ⟨p, c, hv, hle, hmax, _, hel⟩ := hc w _ rp.w (rp.eval hy)
 have hxe : a.eval x = vec r xs.length cap := rp.evalEx hx
 refine wpList_plain rfl fun K hK => ?_
 unfold Oper.wp
 by_cases h0 : ys = []
 ·subst h0
  have hown := rp.own _ (List.mem_of_getElem? hk)
  have hcap : xs.length ≤ cap := by
   rcases hown.2.2 with ⟨_, h2, _⟩ | ⟨b, cur, _, _, g3, _⟩
   ·rw [h2]; exact Nat.zero_le _
   ·exact g3
  have hrun : (Builtin.append_ #[T, T] ty #[vec r xs.length cap, .slice p 0 c]).run P w = .ok (vec r xs.length cap) w := by
   cases r <;> cases p <;> simp [Builtin.append_, run_underlying ht.und, sizeOf, typeInfo, i1, i3, Builtin.lenOf, Builtin.firstCells, loadCells, loadCellsFrom, hcap, storeCells, vec]
  have : (execOp a.eval ⟨some d, .call { callee := .builtin .append, args := #[x, yv], argTypes := #[T, T] }, ty, pos, af, none⟩).run P w = .ok (.value (vec r xs.length cap)) w := by
   simp only [List.length_nil] at hv
   simp only [execOp, resolve, invoke, builtin, Sem.run_bind, Sem.run_pure, Result.andThen_ok, List.map_toArray, List.map_cons, List.map_nil, hxe, hv, hrun]
  rw [this, Oper.upon_value]
  have k2 := kk r cap
  rw [List.append_nil, list_set_self hk] at k2
  exact hK _ _ (k2 _ _ (rp.put (Nat.le_of_ble_eq_true hd) (A := aEx (vec r xs.length cap)) rfl))
 ·have hpos : 0 < ys.length := List.length_pos_iff.2 h0
  obtain ⟨b0, off0, us0, hp, _, _, _⟩ := hel 0 ys[0] (List.getElem?_eq_getElem hpos)
  have hcell : ∀ i, ∃ u, ∀ y, ys[i]? = some y → w.cell? ⟨b0, off0 + i, none⟩ = some u ∧ (enc y).holds w.heap (OO E st.own) u := by
   intro i
   by_cases hi : i < ys.length
   ·obtain ⟨b, off, us, hp', hl, hcc, henc⟩ := hel i ys[i] (List.getElem?_eq_getElem hi)
    rw [hp] at hp'; cases hp'
    match us, hl with
    | [u], _ =>
     refine ⟨u, fun y hy => ?_⟩
     rw [List.getElem?_eq_getElem hi] at hy; cases hy
     have := hcc.cell (j := 0) (u := u) rfl
     exact ⟨by simpa using this, henc⟩
   ·exact ⟨undef, fun y hy => by rw [List.getElem?_eq_none (by omega)] at hy; cases hy⟩
  let f : Nat → Value := fun i => Classical.choose (hcell i)
  have hf : ∀ i y, ys[i]? = some y → w.cell? ⟨b0, off0 + i, none⟩ = some (f i) ∧ (enc y).holds w.heap (OO E st.own) (f i) := fun i => Classical.choose_spec (hcell i)
  have hlen : ((List.range ys.length).map f).length = ys.length := by simp
  have hget : ∀ j u, ((List.range ys.length).map f)[j]? = some u → ∃ hj : j < ys.length, u = f j := by
   intro j u hu
   rw [List.getElem?_map] at hu
   cases hr : (List.range ys.length)[j]? with
   | none => rw [hr] at hu; cases hu
   | some i =>
    rw [hr] at hu
    obtain ⟨h1, h2⟩ := List.getElem?_eq_some_iff.1 hr
    rw [List.getElem_range] at h2
    subst h2
    exact ⟨by simpa using h1, by simpa using hu.symm⟩
  have hsrc : Src w (OO E st.own) 1 false enc ys ⟨b0, off0, none⟩ ((List.range ys.length).map f) := by
   refine ⟨by simp, fun j u hu => ?_, fun u hu => ?_, fun i y hy => ?_⟩
   ·obtain ⟨hj, rfl⟩ := hget j u hu
    rw [addr_add]; exact (hf j _ (List.getElem?_eq_getElem hj)).1
   ·obtain ⟨j, hj0⟩ := List.mem_iff_getElem?.1 hu
    obtain ⟨hj, rfl⟩ := hget j u hj0
    exact hone _ (List.getElem_mem hj) _ _ _ (hf j _ (List.getElem?_eq_getElem hj)).2
   ·have hi : i < ys.length := (List.getElem?_eq_some_iff.1 hy).1
    have : ((List.range ys.length).map f)[i]? = some (f i) := by simp [hi]
    rw [Nat.mul_one, drop_take_one _ _ _ this]
    exact (hf i y hy).2
  obtain ⟨b', cap', w', h1, h2, h3, h4⟩ := append_core (P := P) (E := E) (own := st.own) (c := c) ht hk (rp.own _ (List.mem_of_getElem? hk)) hsrc hn hn2 hpos ty
  have hrun : (execOp a.eval ⟨some d, .call { callee := .builtin .append, args := #[x, yv], argTypes := #[T, T] }, ty, pos, af, none⟩).run P w = .ok (.value (vec (some b') (xs.length + ys.length) cap')) w' := by
   simp only [execOp, resolve, invoke, builtin, Sem.run_bind, Sem.run_pure, Result.andThen_ok, List.map_toArray, List.map_cons, List.map_nil, hxe, hv, hp, h1]
  rw [hrun, Oper.upon_value]
  have k2 := kk (some b') cap'
  rw [List.length_append] at k2
  have r3 := rp.change (o' := oVec (some b') cap' e 1 false enc (xs ++ ys)) hk h2 (fun b hb => by cases hb; exact h3) h4
  exact hK _ _ (k2 _ _ (r3.put (Nat.le_of_ble_eq_true hd) (A := aEx (vec (some b') (xs.length + ys.length) cap')) rfl))
theorem bits_xor_i64 {m n : Int} (h1 : 0 ≤ m) (h2 : m ≤ 4294967296) (h3 : 0 ≤ n) (h4 : n ≤ 4294967296) : IntKind.i64.wrap ((BitVec.ofInt 64 m ^^^ BitVec.ofInt 64 n).toNat : Int) = ((m.toNat ^^^ n.toNat : Nat) : Int) := by
 obtain ⟨a, rfl⟩ := Int.eq_ofNat_of_zero_le h1
 obtain ⟨b, rfl⟩ := Int.eq_ofNat_of_zero_le h3
 have ha : a < 2 ^ 33 := by omega
 have hb : b < 2 ^ 33 := by omega
 have hx : a ^^^ b < 2 ^ 33 := Nat.xor_lt_two_pow ha hb
 have e1 : (BitVec.ofInt 64 (a : Int) ^^^ BitVec.ofInt 64 (b : Int)).toNat = a ^^^ b := by
  rw [BitVec.ofInt_natCast, BitVec.ofInt_natCast, BitVec.toNat_xor, BitVec.toNat_ofNat, BitVec.toNat_ofNat, Nat.mod_eq_of_lt (by omega), Nat.mod_eq_of_lt (by omega)]
 rw [e1, wrap_in (by omega) (by omega)]
 simp
theorem run_xor {m n : Int} {w : World} (h1 : 0 ≤ m) (h2 : m ≤ 4294967296) (h3 : 0 ≤ n) (h4 : n ≤ 4294967296) : (Op.intBits .xor .i64 m n).run P w = .ok (.int .i64 ((m.toNat ^^^ n.toNat : Nat) : Int)) w :=
 congrArg (fun z => Result.ok (Value.int .i64 z) w) (bits_xor_i64 h1 h2 h3 h4)
theorem ok_xor {x y : Operand} {tx ty' : TypeId} {m n : Int} (hx : opd s x = some (aInt m)) (hy : opd s y = some (aInt n))
  (h1 : 0 ≤ m) (h2 : m ≤ 4294967296) (h3 : 0 ≤ n) (h4 : n ≤ 4294967296) :
  OpOK P E s own ⟨some d, .binOp .xor tx x y ty', ty, pos, af, g⟩ (aInt ((m.toNat ^^^ n.toNat : Nat) : Int)) :=
 ok_val (fun a w r => ⟨.int .i64 ((m.toNat ^^^ n.toNat : Nat) : Int), by
  simp [execOp, r.ex hx (by simp [Op.operands, Call.operands]), r.ex hy (by simp [Op.operands, Call.operands]), binOp, eqGuard, run_xor h1 h2 h3 h4], rfl⟩)
end
section
variable {P : Program} {E : Env} {st : St} {K : Act → World → Prop}
theorem ent_len {α : Type} (i : Nat) {sz : Nat} {agg : Bool} {enc : α → AV} {xs : List α} (hi : look st.slots i = some (aSl sz agg enc xs)) (h : xs.length ≤ 9223372036854775807 → Ent E st K) : Ent E st K := by
 intro a w r
 obtain ⟨v, _, p, c, _, h2, h3, _⟩ := r.slots i _ hi
 exact h (by simp only [maxLen] at h3; omega) a w r
theorem ent_lenC {α : Type} (i j : Nat) {As : List AV} {sz : Nat} {agg : Bool} {enc : α → AV} {xs : List α} (hi : look st.slots i = some (aAgg As)) (hj : As[j]? = some (aSl sz agg enc xs)) (h : xs.length ≤ 9223372036854775807 → Ent E st K) : Ent E st K := by
 intro a w r
 obtain ⟨v, _, cs, _, h2, h3⟩ := r.slots i _ hi
 have hl : j < cs.length := by rw [h2]; exact (List.getElem?_eq_some_iff.1 hj).1
 obtain ⟨p, c, _, k2, k3, _⟩ := h3 j _ cs[j] hj (List.getElem?_eq_getElem hl)
 exact h (by simp only [maxLen] at k3; omega) a w r
theorem ent_lenP {α : Type} (i j : Nat) {n : Nat} {As : List AV} {sz : Nat} {agg : Bool} {enc : α → AV} {xs : List α} (hi : look st.slots i = some (aAt n true (aAgg As))) (hj : As[j]? = some (aSl sz agg enc xs)) (h : xs.length ≤ 9223372036854775807 → Ent E st K) : Ent E st K := by
 intro a w r
 obtain ⟨v, _, b, off, us, _, _, _, _, cs, _, h2, h3⟩ := r.slots i _ hi
 have hl : j < cs.length := by rw [h2]; exact (List.getElem?_eq_some_iff.1 hj).1
 obtain ⟨p, c, _, k2, k3, _⟩ := h3 j _ cs[j] hj (List.getElem?_eq_getElem hl)
 exact h (by simp only [maxLen] at k3; omega) a w r
end
section
variable {P : Program} {E : Env} {st : St} {Q : Exit → Act → World → Prop} {ops : Array Oper} {rest : List Oper} {s : List (Nat × AV)} {own : List Own}
variable {d : Nat} {ty : TypeId} {pos : String} {af : Array Edge} {g : Option (Nat × Bool)}
theorem ok_build1 {α : Type} {T e : TypeId} {sz bytes : Nat} {agg : Bool} {z : Value} {enc : α → AV} {y : α} {yv : Operand} (ht : VecTy P T e sz bytes agg z) (hy : opd s yv = some (enc y)) (he : ElemOK (enc y) agg sz) (hsz : sz ≤ 16777216) :
  OpOK P E s own ⟨some d, .buildSlice T 1 #[(0, yv)], ty, pos, af, g⟩ (aSl sz agg enc [y]) := by
 intro a w r K Q hK
 obtain ⟨ii, i1, i2, i3, i4⟩ := ht.info
 have hv := r.ev yv (by simp [Op.operands, Call.operands]) _ hy
 obtain ⟨us, u1, u2, u3, u4⟩ := he _ _ _ hv
 have hcs : (a.eval yv).cells = us.toArray := by rw [← u3]
 have hb1 : (execOp a.eval ⟨some d, .buildSlice T 1 #[(0, yv)], ty, pos, af, g⟩).run P w = .ok (.value (.slice (some ⟨w.heap.size, 0, none⟩) 1 1)) (w.alloc (.cells us.toArray e)) := by
  have hfill := fill_one (cells := (Array.range (1 * sz)).map (z.cells[· % z.cells.size]!)) (a.eval yv) hcs (by simp [u1])
  have hsize : us.toArray.size = sz := by simp [u1]
  rw [hsize] at hfill
  have hp := ht.pos
  have hz0' : ¬ (sz = 0) := by omega
  have hbig' : ¬ (16777216 < sz) := by omega
  simp only [Nat.one_mul] at hfill
  simp [execOp, Instr.buildSlice, run_underlying ht.und, ht.sl.size, zeroValue, typeInfo, i1, i2, newRow, hz0', hbig', hfill]
 unfold Oper.wp
 rw [hb1, Oper.upon_value]
 have gr := Grow.alloc w (.cells us.toArray e)
 refine hK _ _ gr ⟨some ⟨w.heap.size, 0, none⟩, 1, rfl, Nat.le_refl _, by simp [maxLen], ht.one, fun i x hx => ?_⟩
 match i, hx with
 | 0, hx =>
  simp only [List.getElem?_cons_zero, Option.some.injEq] at hx
  subst hx
  refine ⟨w.heap.size, 0, us, rfl, u1, ⟨fun hO => ?_, us.toArray, e, (0, 0), heap_alloc_new w _, fun j u hu => by simpa using hu⟩, ?_⟩
  ·exact absurd (r.lt _ hO) (by omega)
  ·rw [← u2]; exact (enc y).mono _ _ _ _ _ hv gr.size (fun b hb _ => gr.block b hb) (fun _ _ h => h)
 | i + 1, hx => simp at hx
end
section
variable {P : Program} {E : Env} {st : St} {Q : Exit → Act → World → Prop} {ops : Array Oper} {rest : List Oper} {s : List (Nat × AV)} {own : List Own}
variable {d : Nat} {ty : TypeId} {pos : String} {af : Array Edge} {g : Option (Nat × Bool)}
def subV (b sz l h cap : Nat) : Value := .slice (some ⟨b, if cap = l then 0 else l * sz, none⟩) (h - l) (cap - l)
theorem ok_subN {T El : TypeId} {x : Operand} {lo hi : Option Operand} {sz b n cap : Nat} (l h : Nat) (hs : SlInfo P T El sz)
  (hx : opd s x = some (aEx (vec (some b) n cap))) (hl : match lo with | some o => opd s o = some (aInt l) | none => l = 0) (hh : match hi with | some o => opd s o = some (aInt h) | none => h = n) (h1 : l ≤ h) (h2 : h ≤ cap) :
  OpOK P E s own ⟨some d, .slice T x lo hi none, ty, pos, af, g⟩ (aEx (subV b sz l h cap)) :=
 ok_val (fun a w r => by
  have g1 : a.eval x = .slice (some ⟨b, 0, none⟩) n cap := r.ex hx (by simp [Op.operands])
  have elo : ∀ o, lo = some o → a.eval o = .int .i64 l := fun o ho => by subst ho; exact r.ex hl (by simp [Op.operands])
  have ehi : ∀ o, hi = some o → a.eval o = .int .i64 h := fun o ho => by subst ho; exact r.ex hh (by simp [Op.operands])
  have hbl : (Instr.sliceBounds true n cap (lo.map a.eval) (hi.map a.eval) none).run P w = .ok (l, h, cap) w := by
   unfold Instr.sliceBounds
   have e1 : l ≤ h := h1
   have e2 : h ≤ cap := h2
   cases lo with
   | none =>
    cases hi with
    | none => simp only at hl hh; subst hl hh; simp
    | some o =>
     simp only at hl; subst hl
     simp [ehi o rfl, Instr.sliceBound, asIntOf, e2]
   | some o =>
    cases hi with
    | none => simp only at hh; subst hh; simp [elo o rfl, Instr.sliceBound, asIntOf, e1]
    | some o' => simp [ehi o' rfl, elo o rfl, Instr.sliceBound, asIntOf, e1, e2]
  refine ⟨subV b sz l h cap, ?_, rfl⟩
  by_cases hc : cap = l
  ·subst hc; simp [execOp, g1, Instr.sliceAt, Instr.slice, hs.und, hs.size, hbl, subV]
  ·simp [execOp, g1, Instr.sliceAt, Instr.slice, hs.und, hs.size, hbl, subV, hc, addr_add])
theorem ok_subFrom {T El : TypeId} {x lo : Operand} {sz b n cap : Nat} {l : Int} (hs : SlInfo P T El sz) (hx : opd s x = some (aEx (vec (some b) n cap))) (hl : opd s lo = some (aInt l)) (h0 : 0 ≤ l) (h1 : l ≤ n) (h2 : n ≤ cap) :
  OpOK P E s own ⟨some d, .slice T x (some lo) none none, ty, pos, af, g⟩ (aEx (subV b sz l.toNat n cap)) :=
 ok_subN l.toNat n hs hx (by show opd s lo = _; rw [hl]; congr 3; omega) rfl (by omega) h2
theorem ok_subTo {T El : TypeId} {x hi : Operand} {sz b n cap : Nat} {h : Int} (hs : SlInfo P T El sz) (hx : opd s x = some (aEx (vec (some b) n cap))) (hh : opd s hi = some (aInt h)) (h0 : 0 ≤ h) (h1 : h ≤ cap) :
  OpOK P E s own ⟨some d, .slice T x none (some hi) none, ty, pos, af, g⟩ (aEx (subV b sz 0 h.toNat cap)) :=
 ok_subN 0 h.toNat hs hx rfl (by show opd s hi = _; rw [hh]; congr 3; omega) (by omega) (by omega)
theorem ent_copyV {α : Type} {T e : TypeId} {bytes : Nat} {z : Value} {k b cap l h l' h' : Nat} {x y : Operand} {enc : α → AV} {xs : List α} (n : Nat) (ht : VecTy P T e 1 bytes false z)
  (hd : Nat.ble (d + 1) E.n = true) (hk : st.own[k]? = some (oVec (some b) cap e 1 false enc xs)) (hx : opd st.slots x = some (aEx (subV b 1 l h cap))) (hy : opd st.slots y = some (aEx (subV b 1 l' h' cap)))
  (h1 : l ≤ h) (h2 : h ≤ xs.length) (h3 : l' ≤ h') (h4 : h' ≤ xs.length) (hn : n = Nat.min (h' - l') (h - l))
  (kk : Ent E ⟨(d, aInt n) :: st.slots, st.own.set k (oVec (some b) cap e 1 false enc (xs.take l ++ (xs.drop l').take n ++ xs.drop (l + n)))⟩ (wpList P ops Q rest)) :
  Ent E st (wpList P ops Q (⟨some d, .call { callee := .builtin .copy, args := #[x, y], argTypes := #[T, T] }, ty, pos, af, none⟩ :: rest)) := by
 refine ent_write (γ := Unit) rfl (fun _ h => by cases h; exact hd) hk (fun _ => oVec (some b) cap e 1 false enc (xs.take l ++ (xs.drop l').take n ++ xs.drop (l + n))) (fun _ => .int .i64 n) (fun _ => .value (.int .i64 n)) (fun _ => .inl rfl) (fun _ => True)
  (fun a w r => ?_) (fun _ _ => kk)
 obtain ⟨g0, gone, g1⟩ := r.own _ (List.mem_of_getElem? hk)
 rcases g1 with ⟨g1, _⟩ | ⟨b', cur, hb', g2, g3, g4, g5, g6⟩
 ·cases g1
 cases hb'
 rw [Nat.mul_one] at g5
 have hnle : n ≤ h' - l' ∧ n ≤ h - l := by rw [hn]; exact ⟨Nat.min_le_left _ _, Nat.min_le_right _ _⟩
 have hcell : ∀ (i : Nat) (v : α), xs[i]? = some v → ∃ u, cur[i]? = some u ∧ u.oneCell' = true ∧ (enc v).holds w.heap (OO E st.own) u := by
  intro i v hv
  obtain ⟨us, u1, u2, u3⟩ := g6 i v hv
  match us, u1 with
  | [u], _ =>
   have := u2 0 u rfl
   exact ⟨u, by simpa using this.1, this.2, u3⟩
 let o := if cap = l then 0 else l * 1
 let o' := if cap = l' then 0 else l' * 1
 have ho : n = 0 ∨ o = l := by
  by_cases hc : cap = l
  ·left; omega
  ·right; show (if cap = l then 0 else l * 1) = l; rw [if_neg hc, Nat.mul_one]
 have ho' : n = 0 ∨ o' = l' := by
  by_cases hc : cap = l'
  ·left; omega
  ·right; show (if cap = l' then 0 else l' * 1) = l'; rw [if_neg hc, Nat.mul_one]
 let cs := (cur.toList.drop o').take n
 have hcl : cur.toList.length = cap := by rw [Array.length_toList]; exact g5
 have hcs : cs.length = n := by
  show ((cur.toList.drop o').take n).length = n
  rw [List.length_take, List.length_drop]
  rcases ho' with h5 | h5
  ·omega
  ·omega
 have hgetcs : ∀ (j : Nat) (u : Value), cs[j]? = some u → j < n ∧ cur[l' + j]? = some u := by
  intro j u hu
  have hj : j < n := by rw [← hcs]; exact (List.getElem?_eq_some_iff.1 hu).1
  refine ⟨hj, ?_⟩
  have hu' : ((cur.toList.drop o').take n)[j]? = some u := hu
  rw [getElem?_extract_list, if_pos hj] at hu'
  rcases ho' with h5 | h5
  ·omega
  ·rw [h5] at hu'; simpa using hu'
 have hone : ∀ u ∈ cs, u.oneCell' = true := by
  intro u hu
  obtain ⟨j, hj⟩ := List.mem_iff_getElem?.1 hu
  obtain ⟨h5, h6⟩ := hgetcs j u hj
  have hlt : l' + j < xs.length := by omega
  obtain ⟨u', k1, k2, _⟩ := hcell (l' + j) xs[l' + j] (List.getElem?_eq_getElem hlt)
  rw [k1] at h6; cases h6; exact k2
 obtain ⟨ii, i1, i2, i3, i4⟩ := ht.info
 have hfit : o + cs.length ≤ cur.size := by
  rw [hcs]
  rcases ho with h5 | h5
  ·show (if cap = l then 0 else l * 1) + n ≤ cur.size
   split <;> omega
  ·omega
 have hrun := run_copy_row (P := P) w T T ty e b o (h - l) (cap - l) ⟨b, o', none⟩ (h' - l') (cap - l') cur e cs ht.und (by rw [i1]; simp [i3]) g2 (by rw [hcs, hn])
  (fun j v hv => by
   rw [addr_add]
   obtain ⟨h5, h6⟩ := hgetcs j v hv
   rcases ho' with h7 | h7
   ·omega
   ·rw [h7]; exact cell_of_block g2 h6) hfit hone
 have ex : a.eval x = .slice (some ⟨b, o, none⟩) (h - l) (cap - l) := r.evalEx hx
 have ey : a.eval y = .slice (some ⟨b, o', none⟩) (h' - l') (cap - l') := r.evalEx hy
 have tch : Touch (oVec (some b) cap e 1 false enc xs) w (w.setRow b (cur.toList.take o ++ cs ++ cur.toList.drop (o + cs.length)).toArray) := touch_setRow (b := b) rfl
 refine ⟨(), _, trivial, ?_, tch, fun _ h => .inl h, ?_⟩
 ·simp only [execOp, resolve, invoke, builtin, Sem.run_bind, Sem.run_pure, Result.andThen_ok, List.map_toArray, List.map_cons, List.map_nil, ex, ey, hrun, hcs, goInt]
 ·have hlen : (xs.take l ++ (xs.drop l').take n ++ xs.drop (l + n)).length = xs.length := by
   simp only [List.length_append, List.length_take, List.length_drop]; omega
  refine ⟨by rw [hlen]; exact g0, gone, .inr ⟨b, _, rfl, setRow_heap w b cur _ e _ g2, by rw [hlen]; exact g3, g4, ?_, fun i v hv => ?_⟩⟩
  ·rw [Nat.mul_one]
   simp only [List.size_toArray, List.length_append, List.length_take, List.length_drop, hcl, hcs]
   rw [hcs] at hfit; omega
  ·-- where the entry comes from
   have key : ∃ u, ((cur.toList.take o ++ cs ++ cur.toList.drop (o + cs.length)).toArray)[i]? = some u ∧ u.oneCell' = true ∧ (enc v).holds w.heap (OO E st.own) u := by
    have hsame : n = 0 → ((cur.toList.take o ++ cs ++ cur.toList.drop (o + cs.length)).toArray)[i]? = cur[i]? := by
     intro h0
     have : cs = [] := List.eq_nil_of_length_eq_zero (by omega)
     rw [this]
     simp
    by_cases h0 : n = 0
    ·rw [hsame h0]
     rw [h0] at hv
     simp only [List.take_zero, List.append_nil, Nat.add_zero, List.take_append_drop] at hv
     exact hcell i v hv
    ·have ho2 : o = l := by rcases ho with h5 | h5; exact absurd h5 h0; exact h5
     rw [ho2, hcs]
     rw [List.append_assoc, List.getElem?_append] at hv
     rw [List.getElem?_toArray, List.append_assoc, List.getElem?_append]
     simp only [List.length_take] at hv ⊢
     have e1 : min l xs.length = l := by omega
     have e2 : min l cur.toList.length = l := by omega
     rw [e1] at hv
     rw [e2]
     by_cases hi : i < l
     ·rw [if_pos hi, List.getElem?_take, if_pos hi] at hv
      rw [if_pos hi, List.getElem?_take, if_pos hi]
      obtain ⟨u, k1, k2, k3⟩ := hcell i v hv
      exact ⟨u, by simpa using k1, k2, k3⟩
     ·rw [if_neg hi, List.getElem?_append] at hv
      rw [if_neg hi, List.getElem?_append, hcs]
      have e3 : ((xs.drop l').take n).length = n := by simp; omega
      rw [e3] at hv
      by_cases hi2 : i - l < n
      ·rw [if_pos hi2, getElem?_extract_list, if_pos hi2] at hv
       rw [if_pos hi2]
       obtain ⟨u, k1, k2, k3⟩ := hcell _ v hv
       refine ⟨u, ?_, k2, k3⟩
       have hjc : i - l < cs.length := by omega
       have := (hgetcs (i - l) cs[i - l] (List.getElem?_eq_getElem hjc)).2
       rw [k1] at this; cases this
       exact List.getElem?_eq_getElem hjc
      ·rw [if_neg hi2, List.getElem?_drop] at hv
       rw [if_neg hi2, List.getElem?_drop]
       obtain ⟨u, k1, k2, k3⟩ := hcell _ v hv
       exact ⟨u, by simpa using k1, k2, k3⟩
   obtain ⟨u, k1, k2, k3⟩ := key
   refine ⟨[u], rfl, fun j u' hu' => ?_, AV.touch k3 hk tch (fun _ h => .inl h)⟩
   match j, hu' with
   | 0, hu' =>
    simp only [List.getElem?_cons_zero, Option.some.injEq] at hu'
    subst hu'
    exact ⟨by simpa using k1, k2⟩
   | j + 1, hu' => simp at hu'
theorem ok_eqlNil_vec {T e : TypeId} {x : Operand} {b n c : Nat} {tt : TypeId} (hu : P.underlying T = some (.slice e)) (hx : opd s x = some (aEx (vec (some b) n c))) :
  OpOK P E s own ⟨some d, .binOp .eql T x (.const (.slice none 0 0)) tt, ty, pos, af, g⟩ (aBool false) :=
 ok_val (fun a w r => ⟨.bool false, by
  have ex : a.eval x = .slice (some ⟨b, 0, none⟩) n c := r.ex hx (by simp [Op.operands])
  have ey : a.eval (.const (.slice none 0 0)) = .slice none 0 0 := rfl
  simp only [execOp, ex, ey, binOp]
  simp [eqGuard, run_eql_nil_sl _ _ _ hu], rfl⟩)
end
section
variable {P : Program} {E : Env} {st : St} {Q : Exit → Act → World → Prop} {ops : Array Oper} {rest : List Oper} {s : List (Nat × AV)} {own : List Own}
variable {d : Nat} {ty : TypeId} {pos : String} {af : Array Edge} {g : Option (Nat × Bool)}
def aFr (n : Nat) (A : AV) : AV where
 holds h O v := A.holds h (fun b => O b ∨ b < n) v
 mono := fun h h' O O' v hv hs hb ho => A.mono _ _ _ _ _ hv hs (fun b hlt hn => hb b hlt (fun h => hn (.inl h))) (fun b hlt hn => hn.imp (ho b hlt) id)
def aNil0 : AV := ⟨fun _ _ v => ∃ ad, v = .slice (some ad) 0 0, fun _ _ _ _ _ h _ _ _ => h⟩
def aBoxF (n : Nat) (T : TypeId) (As : List AV) : AV where
 holds h O v := ∃ (b : Nat) (cur : List Value), v = .pointer (some ⟨b, 0, none⟩) ∧ ¬ O b ∧ n ≤ b ∧ h[b]? = some (.cells cur.toArray T (0, 0)) ∧ cur.length = As.length ∧
  ∀ (i : Nat) (A : AV) (u : Value), As[i]? = some A → cur[i]? = some u → A.holds h O u ∧ u.oneCell' = true
 mono := by
  rintro h h' O O' v ⟨b, cur, h1, h2, h3, h4, h5, h6⟩ hs hb ho
  have hlt : b < h.size := (Array.getElem?_eq_some_iff.1 h4).1
  exact ⟨b, cur, h1, fun h => h2 (ho b hlt h), h3, (hb b hlt h2).trans h4, h5, fun i A u hA hu => ⟨A.mono _ _ _ _ _ (h6 i A u hA hu).1 hs hb ho, (h6 i A u hA hu).2⟩⟩
theorem one_frvec {α : Type} {n : Nat} {e : TypeId} {sz : Nat} {agg : Bool} {enc : α → AV} {xs : List α} : One (aFr n (aVec e sz agg enc xs)) := by
 rintro h O v ⟨r, cap, rfl, _⟩; rfl
theorem ok_makeA {α : Type} {T e : TypeId} {sz bytes : Nat} {agg : Bool} {z : Value} {x y : Operand} {n : Int} (enc : α → AV) (x0 : α) (ht : VecTy P T e sz bytes agg z)
  (hx : opd s x = some (aInt n)) (hy : opd s y = some (aInt n)) (h0 : 0 ≤ n) (hb : n * bytes ≤ 140737488355328) (hn : n ≤ 140737488355328)
  (hz : ∀ h O, (enc x0).holds h O (mkV agg z.cells.toList)) (h1 : ∀ u ∈ z.cells.toList, u.oneCell' = true) :
  OpOK P E s own ⟨some d, .makeSlice T x y, ty, pos, af, g⟩ (aFr E.w0.heap.size (aVec e sz agg enc (List.replicate n.toNat x0))) := by
 intro a w r K Q hK
 obtain ⟨i, i1, i2, i3, i4⟩ := ht.info
 have hr := run_make (P := P) w T e i z ht.und i1 i2 .i64 .i64 n n h0 (Int.le_refl _) (by rw [i4, Int.mul_comm]; omega) (by omega)
 have hrun : (execOp a.eval ⟨some d, .makeSlice T x y, ty, pos, af, g⟩).run P w = .ok (.value (vec (some w.heap.size) n.toNat n.toNat)) (w.alloc (.cells (madeCells z.cells (n.toNat * i.size)) e)) := by
  simp only [execOp, r.ex hx (by simp [Op.operands, Call.operands]), r.ex hy (by simp [Op.operands, Call.operands]), Sem.run_bind, hr]; rfl
 unfold Oper.wp
 rw [hrun, Oper.upon_value]
 refine hK _ _ (Grow.alloc _ _) ⟨some w.heap.size, n.toNat, by simp, ?_, ?_⟩
 ·refine ⟨by simp; omega, ht.one, .inr ⟨w.heap.size, _, rfl, heap_alloc_new w _, by simp, by simp only [maxLen]; omega, by rw [size_madeCells, i3], fun j x hx => ?_⟩⟩
  obtain ⟨hjl, hxe⟩ := List.getElem?_eq_some_iff.1 hx
  have hj : j < n.toNat := by simpa using hjl
  have hx0 : x = x0 := by rw [← hxe]; simp
  subst hx0
  refine ⟨z.cells.toList, by simpa using ht.zs, fun j' u hu => ⟨?_, h1 u (List.mem_of_getElem? hu)⟩, hz _ _⟩
  rw [i3]
  exact getElem?_madeCells ht.zs hj (by simpa using hu)
 ·intro b hb hO
  cases hb
  rcases hO with h | h
  ·exact absurd (r.lt _ h) (by omega)
  ·have := r.world.keep.size; omega
theorem ok_build0 {T e : TypeId} {sz bytes : Nat} {agg : Bool} {z : Value} (ht : VecTy P T e sz bytes agg z) : OpOK P E s own ⟨some d, .buildSlice T 0 #[], ty, pos, af, g⟩ aNil0 := by
 intro a w r K Q hK
 have hz : Array.map (fun x => (default : Value)) (Array.range 0) = #[] := by simp
 have hrun : (execOp a.eval ⟨some d, .buildSlice T 0 #[], ty, pos, af, g⟩).run P w = .ok (.value (.slice (some ⟨w.heap.size, 0, none⟩) 0 0)) (w.alloc (.cells #[] e)) := by
  simp [execOp, Instr.buildSlice, run_underlying ht.und, ht.sl.size, newRow, Instr.fill, hz]
 unfold Oper.wp
 rw [hrun, Oper.upon_value]
 exact hK _ _ (Grow.alloc _ _) ⟨_, rfl⟩
theorem ok_boxF {T : TypeId} {x : Operand} {As : List AV} (hx : opd s x = some (aAgg As)) (h1 : ∀ A ∈ As, One A) : OpOK P E s own ⟨some d, .box T x, ty, pos, af, g⟩ (aBoxF E.w0.heap.size T As) := by
 intro a w r K Q hK
 obtain ⟨cs, e1, e2, e3⟩ := r.ev _ (by simp [Op.operands, Call.operands]) _ hx
 have gr := Grow.alloc w (.cells cs.toArray T)
 have hrun : (execOp a.eval ⟨some d, .box T x, ty, pos, af, g⟩).run P w = .ok (.value (.pointer (some ⟨w.heap.size, 0, none⟩))) (w.alloc (.cells cs.toArray T)) := by
  simp [execOp, Instr.box, newVar, newRow, e1, Value.cells]
 unfold Oper.wp
 rw [hrun, Oper.upon_value]
 refine hK _ _ gr ⟨w.heap.size, cs, rfl, fun h => absurd (r.lt _ h) (by omega), r.world.keep.size, heap_alloc_new w _, e2, fun i A u hA hu => ?_⟩
 have := e3 i A u hA hu
 exact ⟨A.mono _ _ _ _ _ this gr.size (fun b hb _ => gr.block b hb) (fun _ _ h => h), h1 A (List.mem_of_getElem? hA) _ _ _ this⟩
theorem ok_append0 {α : Type} {T e : TypeId} {bytes : Nat} {z : Value} {enc : α → AV} {ys : List α} {x yv : Operand} {B : AV}
  (ht : VecTy P T e 1 bytes false z) (hx : opd s x = some aNil0) (hy : opd s yv = some B) (hc : Cv E own (OO E own) B (aSl 1 false enc ys))
  (hn : ys.length * bytes ≤ 140737488355328) (hn2 : ys.length ≤ 140737488355328) (hone : ∀ y ∈ ys, One (enc y) := by simp [one_int, one_bool, one_sl]) :
  OpOK P E s own ⟨some d, .call { callee := .builtin .append, args := #[x, yv], argTypes := #[T, T] }, ty, pos, af, g⟩ (aSl 1 false enc ys) := by
 intro a w r K Q hK
 obtain ⟨ii, i1, i2, i3, i4⟩ := ht.info
 obtain ⟨p, c, hv, hle, hmax, _, hel⟩ := hc w _ r.world (r.ev yv (by simp [Op.operands, Call.operands]) B hy)
 obtain ⟨ad, hxe⟩ := r.ev x (by simp [Op.operands, Call.operands]) _ hx
 unfold Oper.wp
 by_cases h0 : ys = []
 ·subst h0
  have hrun : (Builtin.append_ #[T, T] ty #[.slice (some ad) 0 0, .slice p 0 c]).run P w = .ok (.slice (some ad) 0 0) w := by
   cases p <;> simp [Builtin.append_, run_underlying ht.und, sizeOf, typeInfo, i1, i3, Builtin.lenOf, Builtin.firstCells, loadCells, loadCellsFrom, storeCells]
  have : (execOp a.eval ⟨some d, .call { callee := .builtin .append, args := #[x, yv], argTypes := #[T, T] }, ty, pos, af, g⟩).run P w = .ok (.value (.slice (some ad) 0 0)) w := by
   simp only [List.length_nil] at hv
   simp only [execOp, resolve, invoke, builtin, Sem.run_bind, Sem.run_pure, Result.andThen_ok, List.map_toArray, List.map_cons, List.map_nil, hxe, hv, hrun]
  rw [this, Oper.upon_value]
  exact hK _ _ (Grow.refl w) ⟨some ad, 0, rfl, Nat.le_refl _, Nat.zero_le _, fun _ => rfl, fun i x hx => by simp at hx⟩
 ·have hpos : 0 < ys.length := List.length_pos_iff.2 h0
  obtain ⟨b0, off0, us0, hp, _, _, _⟩ := hel 0 ys[0] (List.getElem?_eq_getElem hpos)
  have hcell : ∀ i, ∃ u, ∀ y, ys[i]? = some y → w.cell? ⟨b0, off0 + i, none⟩ = some u ∧ (enc y).holds w.heap (OO E own) u := by
   intro i
   by_cases hi : i < ys.length
   ·obtain ⟨b, off, us, hp', hl, hcc, henc⟩ := hel i ys[i] (List.getElem?_eq_getElem hi)
    rw [hp] at hp'; cases hp'
    match us, hl with
    | [u], _ =>
     refine ⟨u, fun y hy => ?_⟩
     rw [List.getElem?_eq_getElem hi] at hy; cases hy
     have := hcc.cell (j := 0) (u := u) rfl
     exact ⟨by simpa using this, henc⟩
   ·exact ⟨undef, fun y hy => by rw [List.getElem?_eq_none (by omega)] at hy; cases hy⟩
  let f : Nat → Value := fun i => Classical.choose (hcell i)
  have hf : ∀ i y, ys[i]? = some y → w.cell? ⟨b0, off0 + i, none⟩ = some (f i) ∧ (enc y).holds w.heap (OO E own) (f i) := fun i => Classical.choose_spec (hcell i)
  let news := (List.range ys.length).map f
  have hlen : news.length = ys.length := by simp [news]
  have hget : ∀ (j : Nat) u, news[j]? = some u → ∃ hj : j < ys.length, u = f j := by
   intro j u hu
   have hj : j < ys.length := by rw [← hlen]; exact (List.getElem?_eq_some_iff.1 hu).1
   refine ⟨hj, ?_⟩
   have : news[j]? = some (f j) := by simp [news, hj]
   rw [this] at hu; cases hu; rfl
  have hr := run_append_grow (P := P) w T ty e ii z ht.und i1 i2 ad 0 0 [] (by simp) (fun j u hu => by simp at hu) ⟨b0, off0, none⟩ ys.length c news (by rw [i3, hlen, Nat.mul_one])
   (fun j u hu => by
    obtain ⟨hj, rfl⟩ := hget j u hu
    rw [addr_add]; exact (hf j _ (List.getElem?_eq_getElem hj)).1) (by omega) (by omega) (by rw [i4]; exact growslice_fits (by omega) (by rw [Nat.zero_add]; exact hn))
  have hge := grownCap_ge w (0 + ys.length) 0 e
  have hle2 := grownCap_le_maxLen w (0 + ys.length) 0 e (by simp only [maxLen]; omega)
  have hrun : (execOp a.eval ⟨some d, .call { callee := .builtin .append, args := #[x, yv], argTypes := #[T, T] }, ty, pos, af, g⟩).run P w =
    .ok (.value (.slice (some ⟨w.heap.size, 0, none⟩) (0 + ys.length) (grownCap w (0 + ys.length) 0 e))) (w.drew.alloc (.cells (([] : List Value).toArray ++ news.toArray ++ Builtin.zeroCells z.cells (grownCap w (0 + ys.length) 0 e - (0 + ys.length))) e)) := by
   simp only [execOp, resolve, invoke, builtin, Sem.run_bind, Sem.run_pure, Result.andThen_ok, List.map_toArray, List.map_cons, List.map_nil, hxe, hv, hp, hr]
  rw [hrun, Oper.upon_value]
  have gr := (Grow.drew w).trans (Grow.alloc w.drew (.cells (([] : List Value).toArray ++ news.toArray ++ Builtin.zeroCells z.cells (grownCap w (0 + ys.length) 0 e - (0 + ys.length))) e))
  refine hK _ _ gr ⟨some ⟨w.heap.size, 0, none⟩, grownCap w (0 + ys.length) 0 e, by rw [Nat.zero_add], by omega, hle2, fun _ => rfl, fun i y hy => ?_⟩
  have hi : i < ys.length := (List.getElem?_eq_some_iff.1 hy).1
  refine ⟨w.heap.size, 0, [f i], rfl, rfl, ⟨fun hO => absurd (r.lt _ hO) (by omega), _, e, _, heap_alloc_new w.drew _, fun j u hu => ?_⟩, ?_⟩
  ·match j, hu with
   | 0, hu =>
    simp only [List.getElem?_cons_zero, Option.some.injEq] at hu
    subst hu
    have h5 : i < news.length := by omega
    rw [Array.getElem?_append_left (by simp; omega)]
    simp [news, hi]
   | j + 1, hu => simp at hu
  ·exact (enc y).mono _ _ _ _ _ (hf i y hy).2 gr.size (fun b hb _ => gr.block b hb) (fun _ _ h => h)
def PlTo (A B : AV) : Prop := ∀ h O v h' O', A.holds h O v → B.holds h' O' v
theorem plTo_any {A : AV} : PlTo A aAny := fun _ _ _ _ _ _ => trivial
theorem plTo_pl {A : AV} (h : Pl A) : PlTo A A := fun _ _ _ _ _ hA => h _ _ _ _ _ hA
def PlL (j : Nat) : Nat → List AV → List AV → Prop
 | _, [], [] => True
 | n, A :: As, B :: Bs => (n = j ∨ PlTo A B) ∧ PlL j (n + 1) As Bs
 | _, _, _ => False
theorem PlL.get {j : Nat} : ∀ {n : Nat} {As Bs : List AV}, PlL j n As Bs → As.length = Bs.length ∧ ∀ (i : Nat) (A B : AV), As[i]? = some A → Bs[i]? = some B → n + i = j ∨ PlTo A B
 | _, [], [], _ => ⟨rfl, fun i A B h => by simp at h⟩
 | n, A :: As, B :: Bs, h => by
  obtain ⟨h1, h2⟩ := PlL.get h.2
  refine ⟨by simp [h1], fun i C D hC hD => ?_⟩
  cases i with
  | zero => simp only [List.getElem?_cons_zero, Option.some.injEq] at hC hD; subst hC hD; exact h.1.imp (by omega) id
  | succ i => simp only [List.getElem?_cons_succ] at hC hD; exact (h2 i C D hC hD).imp (by omega) id
 | _, [], _ :: _, h => h.elim
 | _, _ :: _, [], h => h.elim
def AllPlS : List (Nat × AV) → Prop
 | [] => True
 | p :: r => Pl p.2 ∧ AllPlS r
theorem AllPlS.look : ∀ {T : List (Nat × AV)}, AllPlS T → ∀ {i : Nat} {A : AV}, look T i = some A → Pl A
 | [], _, i, A, h => by cases h
 | (k, B) :: r, hp, i, A, h => by
  unfold Cw.look at h
  cases hb : Nat.beq k i with
  | true => rw [hb] at h; simp only [cond_true, Option.some.injEq] at h; subst h; exact hp.1
  | false => rw [hb] at h; exact AllPlS.look hp.2 h
def FlatOwn (o : Own) : Prop := ∀ h O O', o.holds h O → o.holds h O'
def AllFlat : List Own → Prop
 | [] => True
 | o :: r => FlatOwn o ∧ AllFlat r
theorem AllFlat.mem : ∀ {l : List Own}, AllFlat l → ∀ o ∈ l, FlatOwn o
 | _ :: _, h, _, .head _ => h.1
 | _ :: _, h, o, .tail _ hm => AllFlat.mem h.2 o hm
theorem flatOwn_vec {α : Type} {r : Option Nat} {cap : Nat} {e : TypeId} {sz : Nat} {agg : Bool} {enc : α → AV} {xs : List α} (hf : Flat enc) : FlatOwn (oVec r cap e sz agg enc xs) := fun _ _ _ h => oVec_flat hf h
theorem ent_own {α : Type} {K : Act → World → Prop} (i j : Nat) {T e : TypeId} {As : List AV} {enc : α → AV} {xs : List α} (Ts : List (Nat × AV)) (Bs : List AV)
  (hi : look st.slots i = some (aBoxF E.w0.heap.size T As)) (hj : As[j]? = some (aFr E.w0.heap.size (aVec e 1 false enc xs))) (hne : e ≠ T) (hf : Flat enc) (hB : PlL j 0 As Bs)
  (hT : SubS Ts st.slots) (hpl : AllPlS Ts) (hfl : AllFlat st.own)
  (kk : ∀ b r cap, Ent E ⟨(i, aEx (.pointer (some ⟨b, 0, none⟩))) :: Ts, oBox b T (Bs.set j (aEx (vec r xs.length cap))) :: oVec r cap e 1 false enc xs :: st.own⟩ K) : Ent E st K := by
 intro a w rp
 obtain ⟨v, hv, b, cur, rfl, hbO, hbn, hbh, hbl, hcells⟩ := rp.slots _ _ hi
 have hjl : j < As.length := (List.getElem?_eq_some_iff.1 hj).1
 have hjc : j < cur.length := by omega
 obtain ⟨⟨r, cap, hvj, hov, hro⟩, _⟩ := hcells j _ cur[j] hj (List.getElem?_eq_getElem hjc)
 have hblk : ∀ rb, r = some rb → rb ≠ b := by
  rintro rb rfl rfl
  rcases hov.2.2 with ⟨h1, _⟩ | ⟨b', cur', h1, h2, _⟩
  ·cases h1
  ·cases h1
   rw [hbh] at h2
   cases h2
   exact hne rfl
 refine kk b r cap a w ⟨rp.size, rp.defers, fun t A ht => ?_, fun o ho => ?_, ?_, fun o ho b' hb' => ?_, rp.xold, rp.keep⟩
 ·rw [look_cons] at ht
  by_cases hit : i = t
  ·subst hit; rw [if_pos rfl] at ht; cases ht; exact ⟨_, hv, rfl⟩
  ·rw [if_neg hit] at ht
   obtain ⟨u, u1, u2⟩ := rp.slots t A (hT.look ht)
   exact ⟨u, u1, hpl.look ht _ _ _ _ _ u2⟩
 ·cases ho with
  | head =>
   refine ⟨cur, hbh, by rw [List.length_set, ← hB.get.1, hbl], fun m A u hA hu => ?_⟩
   have hml : m < As.length := by rw [← hbl]; exact (List.getElem?_eq_some_iff.1 hu).1
   have hold := hcells m As[m] u (List.getElem?_eq_getElem hml) hu
   by_cases hmj : j = m
   ·subst hmj
    rw [List.getElem?_set_self (by rw [← hB.get.1]; exact hml)] at hA
    cases hA
    rw [List.getElem?_eq_getElem hjc] at hu
    cases hu
    exact ⟨hvj, hold.2⟩
   ·rw [List.getElem?_set_ne hmj] at hA
    rcases hB.get.2 m As[m] A (List.getElem?_eq_getElem hml) hA with h | h
    ·omega
    ·exact ⟨h _ _ _ _ _ hold.1, hold.2⟩
  | tail _ ho =>
   cases ho with
   | head => exact oVec_flat hf hov
   | tail _ ho => exact (hfl.mem o ho) _ _ _ (rp.own o ho)
 ·refine List.Pairwise.cons (fun o ho b' h1 h2 => ?_) (List.Pairwise.cons (fun o ho b' h1 h2 => ?_) rp.apart)
  ·have hb : b = b' := Option.some.inj h1
   subst hb
   cases ho with
   | head => exact hblk b h2 rfl
   | tail _ ho => exact hbO (.inr ⟨o, ho, h2⟩)
  ·exact hro b' h1 (.inl (.inr ⟨o, ho, h2⟩))
 ·cases ho with
  | head =>
   have hb : b = b' := Option.some.inj hb'
   subst hb
   exact ⟨fun h => hbO (.inl h), .inl hbn⟩
  | tail _ ho =>
   cases ho with
   | head =>
    refine ⟨fun h => hro b' hb' (.inl (.inl h)), .inl ?_⟩
    have := hro b' hb'
    omega
   | tail _ ho => exact rp.free o ho b' hb'
end
section
variable {P : Program} {E : Env} {s : List (Nat × AV)} {own : List Own}
variable {d : Nat} {ty : TypeId} {pos : String} {af : Array Edge} {g : Option (Nat × Bool)}
end
section
variable {P : Program} {E : Env} {st : St} {Q : Exit → Act → World → Prop} {ops : Array Oper} {rest : List Oper}
theorem ent_guardX {d : Tmp} {op : Op} {ty : TypeId} {pos : String} {af : Array Edge} {j dj : Nat} {oj : Oper} {want g : Bool} (hd : Nat.ble (d + 1) E.n = true)
  (hoj : ops[j]? = some oj) (hdj : oj.dst = some dj) (hg : look st.slots dj = some (aBool g))
  (hT : g = want → Ent E st (wpList P ops Q (⟨some d, op, ty, pos, af, none⟩ :: rest)))
  (hF : g = (!want) → Ent E (st.set d (aEx undef)) (wpList P ops Q rest)) :
  Ent E st (wpList P ops Q (⟨some d, op, ty, pos, af, some (j, want)⟩ :: rest)) := by
 intro a w r
 obtain ⟨v, h1, h2⟩ := r.slots _ _ hg
 have hv : v = .bool g := h2
 subst hv
 have hlt : dj < a.tmps.size := (Array.getElem?_eq_some_iff.1 h1).1
 have hy : yielded ops a.tmps j = some g := by
  simp only [yielded, hoj, Option.bind_some, hdj, h1]
 by_cases hgw : g = want
 ·refine wpList_unguard ?_ (hT hgw a w r)
  simp [Region.wanted, hy, hgw]
 ·have hgn : g = (!want) := by cases g <;> cases want <;> simp_all
  unfold wpList
  rw [if_neg (by simp [Region.wanted, hy, hgw])]
  exact hF hgn _ _ (r.put (Nat.le_of_ble_eq_true hd) (A := aEx undef) rfl)
theorem ent_guardU {d : Tmp} {op : Op} {ty : TypeId} {pos : String} {af : Array Edge} {j dj : Nat} {oj : Oper} {want : Bool} (hd : Nat.ble (d + 1) E.n = true)
  (hoj : ops[j]? = some oj) (hdj : oj.dst = some dj) (hg : look st.slots dj = some (aEx undef))
  (hF : Ent E (st.set d (aEx undef)) (wpList P ops Q rest)) :
  Ent E st (wpList P ops Q (⟨some d, op, ty, pos, af, some (j, want)⟩ :: rest)) := by
 intro a w r
 obtain ⟨v, h1, h2⟩ := r.slots _ _ hg
 have hv : v = undef := h2
 subst hv
 have hy : yielded ops a.tmps j = none := by
  simp only [yielded, hoj, Option.bind_some, hdj, h1]; rfl
 unfold wpList
 rw [if_neg (by simp [Region.wanted, hy])]
 exact hF _ _ (r.put (Nat.le_of_ble_eq_true hd) (A := aEx undef) rfl)
variable {ty : TypeId} {pos : String} {af : Array Edge}
theorem ent_guardXT {d : Tmp} {op : Op} {j dj : Nat} {oj : Oper} {want : Bool} (hd : Nat.ble (d + 1) E.n = true)
  {g : Bool} (hoj : ops[j]? = some oj) (hdj : oj.dst = some dj) (hg : look st.slots dj = some (aBool g)) (hn : g = want)
  (hT : Ent E st (wpList P ops Q (⟨some d, op, ty, pos, af, none⟩ :: rest))) : Ent E st (wpList P ops Q (⟨some d, op, ty, pos, af, some (j, want)⟩ :: rest)) :=
 ent_guardX hd hoj hdj hg (fun _ => hT) (fun h => absurd (hn.symm.trans h) (by cases want <;> decide))
theorem ent_guardXDt {d : Tmp} {op : Op} {j dj : Nat} {oj : Oper} {p : Prop} [Decidable p] (hd : Nat.ble (d + 1) E.n = true)
  (hoj : ops[j]? = some oj) (hdj : oj.dst = some dj) (hg : look st.slots dj = some (aBool (decide p)))
  (hT : p → Ent E st (wpList P ops Q (⟨some d, op, ty, pos, af, none⟩ :: rest))) (hF : ¬ p → Ent E (st.set d (aEx undef)) (wpList P ops Q rest)) :
  Ent E st (wpList P ops Q (⟨some d, op, ty, pos, af, some (j, true)⟩ :: rest)) :=
 ent_guardX hd hoj hdj hg (fun h => hT (of_decide_eq_true h)) (fun h => hF (of_decide_eq_false h))
theorem ent_guardXDf {d : Tmp} {op : Op} {j dj : Nat} {oj : Oper} {p : Prop} [Decidable p] (hd : Nat.ble (d + 1) E.n = true)
  (hoj : ops[j]? = some oj) (hdj : oj.dst = some dj) (hg : look st.slots dj = some (aBool (decide p)))
  (hT : ¬ p → Ent E st (wpList P ops Q (⟨some d, op, ty, pos, af, none⟩ :: rest))) (hF : p → Ent E (st.set d (aEx undef)) (wpList P ops Q rest)) :
  Ent E st (wpList P ops Q (⟨some d, op, ty, pos, af, some (j, false)⟩ :: rest)) :=
 ent_guardX hd hoj hdj hg (fun h => hT (of_decide_eq_false h)) (fun h => hF (of_decide_eq_true h))
theorem ent_guardXF {d : Tmp} {op : Op} {j dj : Nat} {oj : Oper} {want g : Bool} (hd : Nat.ble (d + 1) E.n = true)
  (hoj : ops[j]? = some oj) (hdj : oj.dst = some dj) (hg : look st.slots dj = some (aBool g)) (hn : g = !want)
  (hF : Ent E (st.set d (aEx undef)) (wpList P ops Q rest)) : Ent E st (wpList P ops Q (⟨some d, op, ty, pos, af, some (j, want)⟩ :: rest)) :=
 ent_guardX hd hoj hdj hg (fun h => absurd (h.symm.trans hn) (by cases want <;> decide)) (fun _ => hF)
end
def mvOf : Oper → Option (Nat × Operand)
 | ⟨some d, .move x, _, _, _, none⟩ => some (d, x)
 | ⟨some d, .assign x, _, _, _, none⟩ => some (d, x)
 | _ => none
def mvP (n : Nat) : List Oper → List (Nat × AV) → List (Nat × AV) × List Oper
 | [], s => (s, [])
 | o :: r, s => match mvOf o with
  | some (d, x) => bif Nat.ble (d + 1) n then (match opd s x with | some A => mvP n r ((d, A) :: s) | none => (s, o :: r)) else (s, o :: r)
  | none => (s, o :: r)
section short
variable {P : Program} {E : Env} {st : St} {Q : Exit → Act → World → Prop} {ops : Array Oper} {rest : List Oper} {d : Nat} {ty : TypeId} {pos : String} {af : Array Edge} {A : AV} {x : Operand}
theorem ent_mvOf {o : Oper} (h : mvOf o = some (d, x)) (hd : Nat.ble (d + 1) E.n = true) (hx : opd st.slots x = some A) (k : Ent E (st.set d A) (wpList P ops Q rest)) : Ent E st (wpList P ops Q (o :: rest)) := by
 unfold mvOf at h
 split at h
 ·cases h; exact ent_o hd (ok_move hx) k
 ·cases h; exact ent_o hd (ok_assign hx) k
 ·cases h
theorem emm_s : ∀ (l : List Oper) (s : List (Nat × AV)) (own : List Own), Ent E ⟨(mvP E.n l s).1, own⟩ (wpList P ops Q (mvP E.n l s).2) → Ent E ⟨s, own⟩ (wpList P ops Q l)
 | [], s, own, h => h
 | o :: r, s, own, h => by
  unfold mvP at h
  split at h
  ·rename_i d x ho
   cases hd : Nat.ble (d + 1) E.n with
   | false => rw [hd] at h; exact h
   | true =>
    rw [hd] at h
    simp only [cond_true] at h
    split at h
    ·rename_i A hx
     exact ent_mvOf ho hd hx (emm_s r _ own h)
    ·exact h
  ·exact h
theorem emm {l l' : List Oper} {s' : List (Nat × AV)} (hm : mvP E.n l st.slots = (s', l')) (h : Ent E ⟨s', st.own⟩ (wpList P ops Q l')) : Ent E st (wpList P ops Q l) := by
 refine emm_s l st.slots st.own ?_
 rw [hm]; exact h
theorem esr {id : Nat} {l l' : List Oper} {y : Code} {s' : List (Nat × AV)} (hm : mvP E.n l st.slots = (s', l')) (h : ∀ K : Act → World → Prop, (∀ a w, y.wp P Q a w → K a w) → Ent E ⟨s', st.own⟩ (wpList P l.toArray (Exit.then K Q) l')) : Ent E st ((Code.seq (Code.region id l.toArray false) y).wp P Q) :=
 ent_seq fun K hK => ent_region (emm hm (h K hK))
theorem enk {Q2 : Exit → Act → World → Prop} {y : Code} (hK : ∀ a w, y.wp P Q2 a w → Q .normal a w) (h : Ent E st (y.wp P Q2)) : Ent E st (wpList P ops Q []) := h.mono hK
theorem esk {id : Nat} {l : List Oper} {y : Code} {s' : List (Nat × AV)} (hm : mvP E.n l st.slots = (s', [])) (h : Ent E ⟨s', st.own⟩ (y.wp P Q)) : Ent E st ((Code.seq (Code.region id l.toArray false) y).wp P Q) :=
 esr hm fun _ hK => enk hK h
theorem esp {Q2 : Exit → Act → World → Prop} {y : Code} (hK : ∀ a w, y.wp P Q2 a w → Q .normal a w) (h : Ent E st (y.wp P Q2)) : Ent E st (Code.skip.wp P Q) := ent_skip (h.mono hK)
end short
def pmA (own : List Own) : List Nat → List Own → Option (List Own)
 | [], acc => some acc
 | i :: is, acc => match own[i]? with
  | some o => pmA own is (o :: acc)
  | none => none
theorem pmA_eq {own own' : List Own} : ∀ (is : List Nat) (acc : List Own), pmA own is acc = some own' → own' = is.reverse.filterMap (own[·]?) ++ acc
 | [], acc, h => by simpa [pmA] using h.symm
 | i :: is, acc, h => by
  unfold pmA at h
  split at h
  ·rename_i o ho
   rw [pmA_eq is _ h]; simp [List.filterMap_append, ho]
  ·cases h
def maskOf (ms : List Nat) (o : Oper) : Nat := o.after.toList.foldr (fun e acc => if Region.binds .any e then Nat.lor (Nat.lor acc (Nat.shiftLeft 1 e.on)) (ms.getD e.on 0) else acc) 0
def masks : List Oper → List Nat → List Nat
 | [], ms => ms
 | o :: l, ms => masks l (ms ++ [maskOf ms o])
def drawQ (l : List Oper) (n f : Nat) : Bool :=
 let ops := l.toArray
 let is := List.range l.length
 let ms := masks l []
 (is.all fun j => is.all fun i => !(Nat.ble (i + 1) j) ||
  (match ops[i]?, ops[j]? with
   | some oi, some oj =>
    (!((match oi.dst with | some d => (namesOf ops oj).any (Nat.beq d) | none => false) || (match oj.dst with | some d => (namesOf ops oi).any (Nat.beq d) | none => false)) || Nat.testBit (ms.getD j 0) i) &&
    (!(Nat.ble n j) || Nat.ble (i + 1) f || Nat.testBit (ms.getD j 0) i) &&
    (Nat.ble n j || (match oi.dst, oj.dst with | some d, some e => !(Nat.beq d e) | _, _ => true))
   | _, _ => true)) &&
 (l.zipIdx.all fun (o, j) => o.after.all fun e => !(Region.binds .any e) || Nat.ble (e.on + 1) j)
theorem waits_mono {ops : Array Oper} {i : Nat} : ∀ {f g j : Nat}, f ≤ g → waits ops f j i = true → waits ops g j i = true
 | 0, _, _, _, h => by simp [waits] at h
 | f + 1, 0, _, hfg, _ => by omega
 | f + 1, g + 1, j, hfg, h => by
  unfold waits at h ⊢
  split at h
  ·cases h
  ·rename_i o ho
   obtain ⟨e, he, hb⟩ := Array.any_eq_true'.1 h
   refine Array.any_eq_true'.2 ⟨e, he, ?_⟩
   simp only [Bool.and_eq_true, Bool.or_eq_true] at hb ⊢
   exact ⟨hb.1, hb.2.imp id fun h2 => waits_mono (by omega) h2⟩
theorem maskOf_bit {ms : List Nat} {o : Oper} {i : Nat} (h : (maskOf ms o).testBit i = true) : ∃ e ∈ o.after, Region.binds .any e = true ∧ (e.on = i ∨ (ms.getD e.on 0).testBit i = true) := by
 unfold maskOf at h
 have key : ∀ L : List Edge, (L.foldr (fun e acc => if Region.binds .any e then Nat.lor (Nat.lor acc (Nat.shiftLeft 1 e.on)) (ms.getD e.on 0) else acc) 0).testBit i = true → ∃ e ∈ L, Region.binds .any e = true ∧ (e.on = i ∨ (ms.getD e.on 0).testBit i = true) := by
  intro L
  induction L with
  | nil => intro h; simp at h
  | cons e L ih =>
   intro h
   simp only [List.foldr_cons] at h
   split at h
   ·rename_i hb
    have h' : ((L.foldr (fun e acc => if Region.binds .any e then Nat.lor (Nat.lor acc (Nat.shiftLeft 1 e.on)) (ms.getD e.on 0) else acc) 0 ||| (1 <<< e.on)) ||| (ms.getD e.on 0)).testBit i = true := h
    rw [Nat.testBit_or, Nat.testBit_or, Nat.testBit_shiftLeft] at h'
    simp only [Bool.or_eq_true, Bool.and_eq_true, decide_eq_true_eq] at h'
    rcases h' with (h1 | ⟨h1, h2⟩) | h1
    ·obtain ⟨e', he', q⟩ := ih h1
     exact ⟨e', List.mem_cons_of_mem _ he', q⟩
    ·refine ⟨e, List.mem_cons_self, hb, .inl ?_⟩
     have : i - e.on = 0 := by
      by_cases hz : i - e.on = 0
      ·exact hz
      ·rw [Nat.testBit_one_eq_true_iff_self_eq_zero] at h2; exact h2
     omega
    ·exact ⟨e, List.mem_cons_self, hb, .inr h1⟩
   ·obtain ⟨e', he', q⟩ := ih h
    exact ⟨e', List.mem_cons_of_mem _ he', q⟩
 obtain ⟨e, he, q⟩ := key _ h
 exact ⟨e, by simpa using he, q⟩
theorem masks_waits {l0 : List Oper} {i : Nat} : ∀ (l : List Oper) (ms : List Nat), l0.drop ms.length = l → (∀ j, j < ms.length → (ms.getD j 0).testBit i = true → waits l0.toArray (j + 1) j i = true) →
  ∀ j, ((masks l ms).getD j 0).testBit i = true → waits l0.toArray (j + 1) j i = true
 | [], ms, _, h, j, hj => by
  by_cases hl : j < ms.length
  ·exact h j hl hj
  ·simp only [masks, List.getD] at hj
   rw [List.getElem?_eq_none (by omega)] at hj
   simp at hj
 | o :: l, ms, hd, h, j, hj => by
  have hlt : ms.length < l0.length := by
   apply Classical.byContradiction
   intro hn
   rw [List.drop_of_length_le (by omega)] at hd
   cases hd
  have ho : l0[ms.length]? = some o := by
   have := congrArg (fun q : List Oper => q[0]?) hd
   simpa using this
  refine masks_waits l (ms ++ [maskOf ms o]) ?_ ?_ j hj
  ·have := congrArg (fun q : List Oper => q.drop 1) hd
   rw [List.drop_drop] at this
   simpa using this
  ·intro k hk hb
   by_cases hkl : k < ms.length
   ·refine h k hkl ?_
    simp only [List.getD] at hb ⊢
    rwa [List.getElem?_append_left hkl] at hb
   ·have hk' : k = ms.length := by simp at hk; omega
    subst hk'
    have hb' : (maskOf ms o).testBit i = true := by
     simp only [List.getD] at hb
     rw [List.getElem?_append_right (Nat.le_refl _)] at hb
     simpa using hb
    obtain ⟨e, he, hbn, hor⟩ := maskOf_bit hb'
    unfold waits
    rw [show l0.toArray[ms.length]? = some o by simpa using ho]
    refine Array.any_eq_true'.2 ⟨e, he, ?_⟩
    simp only [Bool.and_eq_true, Bool.or_eq_true]
    refine ⟨hbn, ?_⟩
    rcases hor with h1 | h1
    ·left; rw [h1]; exact Nat.beq_refl i
    ·right
     by_cases hel : e.on < ms.length
     ·exact waits_mono (by omega) (h e.on hel h1)
     ·simp only [List.getD] at h1
      rw [List.getElem?_eq_none (by omega)] at h1
      simp at h1
theorem drawQ_b (A N : Bool) {N2 D b c : Bool} (h : c = true → b = true) (h2 : (!true || ((!A || c) && (N || N2 || c) && D)) = true) : (!true || ((!A || b) && (N || N2 || b) && D)) = true := by
 cases c
 ·cases b
  ·exact h2
  ·revert h2; cases A <;> cases N <;> cases N2 <;> cases D <;> simp
 ·rw [h rfl]; exact h2
theorem drawQ_F {l : List Oper} {n f : Nat} (h : drawQ l n f = true) : drawF l n f = true := by
 have hw : ∀ j i, j < l.length → Nat.testBit ((masks l []).getD j 0) i = true → waits l.toArray l.length j i = true := fun j i hj h =>
  waits_mono (by omega) (masks_waits (l0 := l) l [] rfl (fun j hj => by simp at hj) j h)
 unfold drawQ at h
 unfold drawF
 simp only [Bool.and_eq_true] at h ⊢
 refine ⟨?_, h.2⟩
 rw [List.all_eq_true] at h ⊢
 intro j hj
 have h1 := h.1 j hj
 rw [List.all_eq_true] at h1 ⊢
 intro i hi
 have h2 := h1 i hi
 rw [List.mem_range] at hj
 have hwj := hw j i hj
 revert h2
 cases Nat.ble (i + 1) j with
 | false => intro _; rfl
 | true =>
  cases l.toArray[i]? with
  | none => intro _; rfl
  | some oi =>
   cases l.toArray[j]? with
   | none => intro _; rfl
   | some oj => exact fun h2 => drawQ_b _ _ hwj h2
end Go.Cw
