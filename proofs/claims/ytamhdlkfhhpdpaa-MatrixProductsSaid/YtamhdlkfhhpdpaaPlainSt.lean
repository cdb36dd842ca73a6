/-
  Facts for the law MatrixProducts.
-/
import Derived.Test.YtamhdlkfhhpdpaaPlainOp
set_option linter.unusedVariables false
set_option linter.unusedSimpArgs false
set_option linter.unusedSectionVars false
namespace Go.Cw
def flatR (l : List Mat) : List (List Int) := l.flatMap Mat.rows
open Classical in
noncomputable def stkE (f : Fld) (l : List Mat) : Int := if opErr f l ≠ 0 then opErr f l else if l = [] then 0 else if ∃ m ∈ l, m.cols ≠ (ix Mat.no l 0).cols then 10 else if 256 < ((flatR l).length : Int) then 8 else 0
open Classical in
noncomputable def stkM (f : Fld) (l : List Mat) : Mat := if stkE f l = 0 ∧ l ≠ [] then ⟨(ix Mat.no l 0).cols, flatR l⟩ else Mat.no
theorem matsErr_append {f : Fld} : ∀ (l1 l2 : List Mat), matsErr f (l1 ++ l2) = if matsErr f l1 = 0 then matsErr f l2 else matsErr f l1
  | [], l2 => by rw [List.nil_append, show matsErr f [] = 0 from rfl, if_pos rfl]
  | m :: l1, l2 => by
    have ih := matsErr_append (f := f) l1 l2
    show (if matErr f m = 0 then matsErr f (l1 ++ l2) else matErr f m) = if (if matErr f m = 0 then matsErr f l1 else matErr f m) = 0 then matsErr f l2 else (if matErr f m = 0 then matsErr f l1 else matErr f m)
    by_cases h : matErr f m = 0
    · rw [if_pos h, if_pos h, ih]
    · rw [if_neg h, if_neg h, if_neg h]
theorem opErr_succ {f : Fld} {l : List Mat} {i : Int} (h0 : 0 ≤ i) (h1 : i < l.length) (h : opErr f (l.take i.toNat) = 0) : opErr f (l.take (i + 1).toNat) = mErr f (ix Mat.no l i) := by
  rw [take_succ_ix Mat.no l h0 h1]
  unfold opErr at h ⊢
  unfold mErr
  by_cases hF : FOk f
  · rw [if_pos hF] at h
    rw [if_pos hF, if_pos hF, matsErr_append, if_pos h]
    unfold matsErr matsErr
    split <;> simp_all
  · rw [if_neg hF, if_neg hF]
theorem opErr_ne {f : Fld} {l : List Mat} {n : Nat} (h : opErr f (l.take n) ≠ 0) : opErr f l = opErr f (l.take n) := by
  have e : l = l.take n ++ l.drop n := (List.take_append_drop n l).symm
  have key : matsErr f l = if matsErr f (l.take n) = 0 then matsErr f (l.drop n) else matsErr f (l.take n) := by rw [← matsErr_append, List.take_append_drop]
  unfold opErr at h ⊢
  by_cases hF : FOk f
  · rw [if_pos hF] at h
    rw [if_pos hF, if_pos hF, key, if_neg h]
  · rw [if_neg hF, if_neg hF]
theorem opErr_nil (f : Fld) : opErr f [] = fErr f := by
  unfold opErr fErr
  by_cases h : FOk f <;> simp [h, matsErr]
theorem flat_succ {l : List Mat} {i : Int} (h0 : 0 ≤ i) (h1 : i < l.length) : flatR (l.take (i + 1).toNat) = flatR (l.take i.toNat) ++ (ix Mat.no l i).rows := by
  rw [take_succ_ix Mat.no l h0 h1]
  unfold flatR
  rw [List.flatMap_append]
  simp
theorem flat_le (l : List Mat) (n : Nat) : (flatR (l.take n)).length ≤ (flatR l).length := by
  have : flatR l = flatR (l.take n) ++ flatR (l.drop n) := by
    unfold flatR; rw [← List.flatMap_append, List.take_append_drop]
  rw [this, List.length_append]; omega
theorem stkE_op {f : Fld} {l : List Mat} (h : opErr f l ≠ 0) : stkE f l = opErr f l := if_pos h
theorem stkE_nil {f : Fld} {l : List Mat} (h : opErr f l = 0) (h2 : l = []) : stkE f l = 0 := by unfold stkE; rw [if_neg (fun hn => hn h), if_pos h2]
theorem stkE_bad {f : Fld} {l : List Mat} (h : opErr f l = 0) {i : Int} (i0 : 0 ≤ i) (i1 : i < l.length) (h3 : (ix Mat.no l i).cols ≠ (ix Mat.no l 0).cols) : stkE f l = 10 := by
  unfold stkE; rw [if_neg (fun hn => hn h), if_neg (fun hn => by rw [hn] at i1; simp at i1; omega), if_pos ⟨_, ix_mem Mat.no l i0 i1, h3⟩]
theorem stkE_big {f : Fld} {l : List Mat} (h : opErr f l = 0) (h2 : l ≠ []) (h3 : ∀ m ∈ l, m.cols = (ix Mat.no l 0).cols) {n : Nat} (h4 : 256 < ((flatR (l.take n)).length : Int)) : stkE f l = 8 := by
  have := flat_le l n
  unfold stkE; rw [if_neg (fun hn => hn h), if_neg h2, if_neg (fun ⟨m, hm, hn⟩ => hn (h3 m hm)), if_pos (by omega)]
theorem stkE_ok {f : Fld} {l : List Mat} (h : opErr f l = 0) (h2 : l ≠ []) (h3 : ∀ m ∈ l, m.cols = (ix Mat.no l 0).cols) (h4 : ¬ 256 < ((flatR l).length : Int)) : stkE f l = 0 := by
  unfold stkE; rw [if_neg (fun hn => hn h), if_neg h2, if_neg (fun ⟨m, hm, hn⟩ => hn (h3 m hm)), if_neg h4]
theorem stkM_no {f : Fld} {l : List Mat} (h : stkE f l ≠ 0) : stkM f l = Mat.no := if_neg fun hn => h hn.1
theorem stkM_nil {f : Fld} {l : List Mat} (h : l = []) : stkM f l = Mat.no := if_neg fun hn => hn.2 h
theorem stkM_ok {f : Fld} {l : List Mat} (h : stkE f l = 0) (h2 : l ≠ []) : stkM f l = ⟨(ix Mat.no l 0).cols, flatR l⟩ := if_pos ⟨h, h2⟩
end Go.Cw

