/-
  Walks of functions of the program and the reference.
-/
import Derived.Test.YtcilbmggiahciaaProg
import Derived.KernelRfl
import Derived.Test.YtcilbmggiahciaaCxLib
open Go Go.Cw
namespace Go.Proofs.Ytcilbmggiahciaa
open Try
set_option maxRecDepth 100000
theorem mixed : Try.prog.follows .mixedOrders = true := by kernel_rfl
theorem ti3 : TyInfo Try.prog 3 1 false := ⟨isAgg3, sizeOf3⟩
theorem zv3 : ∀ w, (zeroValue 3).run Try.prog w = .ok (.int .i64 0) w := Try.zeroValue3
theorem az3 : AllZ [aInt 0] [.int .i64 0] := ⟨fun _ _ => rfl, rfl, trivial⟩
theorem zc3 : ∀ (hp : Heap) (O : Nat → Prop) (i : Nat) (A : AV) (u : Value), ([aInt 0] : List AV)[i]? = some A → ([.int .i64 0] : List Value)[i]? = some u → A.holds hp O u ∧ u.oneCell' = true := zc_of az3
theorem ti4 : TyInfo Try.prog 4 1 false := ⟨isAgg4, sizeOf4⟩
theorem ti22 : TyInfo Try.prog 22 1 false := ⟨isAgg22, sizeOf22⟩
theorem sl22 : SlInfo Try.prog 22 3 1 := ⟨runUnderlying22, sizeOf3⟩
theorem vt22 : VecTy Try.prog 22 3 1 8 false (.int .i64 0) := vecTy_of underlying22 (by kernel_rfl) rfl (by decide) (fun _ => rfl) isAgg3
theorem ti24 : TyInfo Try.prog 24 3 true := ⟨isAgg24, sizeOf24⟩
theorem zv24 : ∀ w, (zeroValue 24).run Try.prog w = .ok (.agg #[.int .i64 0, .int .i64 0, .slice none 0 0]) w := Try.zeroValue24
theorem az24 : AllZ [aInt 0, aInt 0, aEx (.slice none 0 0)] [.int .i64 0, .int .i64 0, .slice none 0 0] := ⟨fun _ _ => rfl, rfl, fun _ _ => rfl, rfl, fun _ _ => rfl, rfl, trivial⟩
theorem zc24 : ∀ (hp : Heap) (O : Nat → Prop) (i : Nat) (A : AV) (u : Value), ([aInt 0, aInt 0, aEx (.slice none 0 0)] : List AV)[i]? = some A → ([.int .i64 0, .int .i64 0, .slice none 0 0] : List Value)[i]? = some u → A.holds hp O u ∧ u.oneCell' = true := zc_of az24
theorem st24 : StructTy Try.prog 24 #[{ name := "P", type := 3, offset := 0, embedded := false, tag := "", pkgPath := "", byteOffset := 0 }, { name := "M", type := 3, offset := 1, embedded := false, tag := "", pkgPath := "", byteOffset := 8 }, { name := "Mod", type := 22, offset := 2, embedded := false, tag := "", pkgPath := "", byteOffset := 16 }] [(0, 1), (1, 1), (2, 1)] [.int .i64 0, .int .i64 0, .slice none 0 0] := ⟨runUnderlying24, fun w => by simp [sizeOf22, sizeOf3], Try.zeroValue24⟩
theorem z24 : ∀ hp O, CellsHold hp O [aInt 0, aInt 0, aEx (.slice none 0 0)] [.int .i64 0, .int .i64 0, .slice none 0 0] := z_of az24
theorem ti25 : TyInfo Try.prog 25 1 false := ⟨isAgg25, sizeOf25⟩
theorem sl25 : SlInfo Try.prog 25 22 1 := ⟨runUnderlying25, sizeOf22⟩
theorem vt25 : VecTy Try.prog 25 22 1 24 false (.slice none 0 0) := vecTy_of underlying25 (by kernel_rfl) rfl (by decide) (fun _ => rfl) isAgg22
theorem ti27 : TyInfo Try.prog 27 5 true := ⟨isAgg27, sizeOf27⟩
theorem zv27 : ∀ w, (zeroValue 27).run Try.prog w = .ok (.agg #[.int .i64 0, .int .i64 0, .slice none 0 0, .int .i64 0, .slice none 0 0]) w := Try.zeroValue27
theorem az27 : AllZ [aInt 0, aInt 0, aEx (.slice none 0 0), aInt 0, aEx (.slice none 0 0)] [.int .i64 0, .int .i64 0, .slice none 0 0, .int .i64 0, .slice none 0 0] := ⟨fun _ _ => rfl, rfl, fun _ _ => rfl, rfl, fun _ _ => rfl, rfl, fun _ _ => rfl, rfl, fun _ _ => rfl, rfl, trivial⟩
theorem zc27 : ∀ (hp : Heap) (O : Nat → Prop) (i : Nat) (A : AV) (u : Value), ([aInt 0, aInt 0, aEx (.slice none 0 0), aInt 0, aEx (.slice none 0 0)] : List AV)[i]? = some A → ([.int .i64 0, .int .i64 0, .slice none 0 0, .int .i64 0, .slice none 0 0] : List Value)[i]? = some u → A.holds hp O u ∧ u.oneCell' = true := zc_of az27
theorem st27 : StructTy Try.prog 27 #[{ name := "F", type := 24, offset := 0, embedded := false, tag := "", pkgPath := "", byteOffset := 0 }, { name := "N", type := 3, offset := 3, embedded := false, tag := "", pkgPath := "", byteOffset := 40 }, { name := "Gen", type := 25, offset := 4, embedded := false, tag := "", pkgPath := "", byteOffset := 48 }] [(0, 3), (3, 1), (4, 1)] [.int .i64 0, .int .i64 0, .slice none 0 0, .int .i64 0, .slice none 0 0] := ⟨runUnderlying27, fun w => by simp [sizeOf24, sizeOf25, sizeOf3], Try.zeroValue27⟩
theorem z27 : ∀ hp O, CellsHold hp O [aInt 0, aInt 0, aEx (.slice none 0 0), aInt 0, aEx (.slice none 0 0)] [.int .i64 0, .int .i64 0, .slice none 0 0, .int .i64 0, .slice none 0 0] := z_of az27
theorem sl37 : SlInfo Try.prog 37 63 3 := ⟨runUnderlying37, sizeOf63⟩
theorem vt37 : VecTy Try.prog 37 63 3 24 true (.agg #[.int .i64 0, .int .i64 0, .int .i64 0]) := vecTy_of underlying37 (by kernel_rfl) rfl (by decide) (fun h => by cases h) isAgg63
theorem ti48 : TyInfo Try.prog 48 1 false := ⟨isAgg48, sizeOf48⟩
theorem zv48 : ∀ w, (zeroValue 48).run Try.prog w = .ok (.pointer none) w := Try.zeroValue48
theorem az48 : AllZ [aEx (.pointer none)] [.pointer none] := ⟨fun _ _ => rfl, rfl, trivial⟩
theorem zc48 : ∀ (hp : Heap) (O : Nat → Prop) (i : Nat) (A : AV) (u : Value), ([aEx (.pointer none)] : List AV)[i]? = some A → ([.pointer none] : List Value)[i]? = some u → A.holds hp O u ∧ u.oneCell' = true := zc_of az48
theorem az50 : AllZ [aEx (.pointer none), aInt 0, aInt 0, aInt 0, aInt 0, aEx (.slice none 0 0)] [.pointer none, .int .i64 0, .int .i64 0, .int .i64 0, .int .i64 0, .slice none 0 0] := ⟨fun _ _ => rfl, rfl, fun _ _ => rfl, rfl, fun _ _ => rfl, rfl, fun _ _ => rfl, rfl, fun _ _ => rfl, rfl, fun _ _ => rfl, rfl, trivial⟩
theorem st50 : StructTy Try.prog 50 #[{ name := "g", type := 48, offset := 0, embedded := false, tag := "", pkgPath := "codewright/coset", byteOffset := 0 }, { name := "q", type := 3, offset := 1, embedded := false, tag := "", pkgPath := "codewright/coset", byteOffset := 8 }, { name := "n", type := 3, offset := 2, embedded := false, tag := "", pkgPath := "codewright/coset", byteOffset := 16 }, { name := "r", type := 3, offset := 3, embedded := false, tag := "", pkgPath := "codewright/coset", byteOffset := 24 }, { name := "count", type := 3, offset := 4, embedded := false, tag := "", pkgPath := "codewright/coset", byteOffset := 32 }, { name := "cols", type := 25, offset := 5, embedded := false, tag := "", pkgPath := "codewright/coset", byteOffset := 40 }] [(0, 1), (1, 1), (2, 1), (3, 1), (4, 1), (5, 1)] [.pointer none, .int .i64 0, .int .i64 0, .int .i64 0, .int .i64 0, .slice none 0 0] := ⟨runUnderlying50, fun w => by simp [sizeOf25, sizeOf3, sizeOf48], Try.zeroValue50⟩
theorem z50 : ∀ hp O, CellsHold hp O [aEx (.pointer none), aInt 0, aInt 0, aInt 0, aInt 0, aEx (.slice none 0 0)] [.pointer none, .int .i64 0, .int .i64 0, .int .i64 0, .int .i64 0, .slice none 0 0] := z_of az50
theorem ti63 : TyInfo Try.prog 63 3 true := ⟨isAgg63, sizeOf63⟩
theorem zv63 : ∀ w, (zeroValue 63).run Try.prog w = .ok (.agg #[.int .i64 0, .int .i64 0, .int .i64 0]) w := Try.zeroValue63
theorem az63 : AllZ [aInt 0, aInt 0, aInt 0] [.int .i64 0, .int .i64 0, .int .i64 0] := ⟨fun _ _ => rfl, rfl, fun _ _ => rfl, rfl, fun _ _ => rfl, rfl, trivial⟩
theorem zc63 : ∀ (hp : Heap) (O : Nat → Prop) (i : Nat) (A : AV) (u : Value), ([aInt 0, aInt 0, aInt 0] : List AV)[i]? = some A → ([.int .i64 0, .int .i64 0, .int .i64 0] : List Value)[i]? = some u → A.holds hp O u ∧ u.oneCell' = true := zc_of az63
theorem st63 : StructTy Try.prog 63 #[{ name := "Weight", type := 3, offset := 0, embedded := false, tag := "", pkgPath := "", byteOffset := 0 }, { name := "Pos", type := 3, offset := 1, embedded := false, tag := "", pkgPath := "", byteOffset := 8 }, { name := "Coef", type := 3, offset := 2, embedded := false, tag := "", pkgPath := "", byteOffset := 16 }] [(0, 1), (1, 1), (2, 1)] [.int .i64 0, .int .i64 0, .int .i64 0] := ⟨runUnderlying63, fun w => by simp [sizeOf3], Try.zeroValue63⟩
theorem z63 : ∀ hp O, CellsHold hp O [aInt 0, aInt 0, aInt 0] [.int .i64 0, .int .i64 0, .int .i64 0] := z_of az63
theorem zagg63 (hp : Heap) (O : Nat → Prop) : (aAgg [aInt 0, aInt 0, aInt 0]).holds hp O (mkV true [.int .i64 0, .int .i64 0, .int .i64 0]) := zagg_of az63 hp O
theorem fo63 : Try.prog.fieldsOf 63 = #[{ name := "Weight", type := 3, offset := 0, embedded := false, tag := "", pkgPath := "", byteOffset := 0 }, { name := "Pos", type := 3, offset := 1, embedded := false, tag := "", pkgPath := "", byteOffset := 8 }, { name := "Coef", type := 3, offset := 2, embedded := false, tag := "", pkgPath := "", byteOffset := 16 }] := by unfold Program.fieldsOf; rw [underlying63]
theorem is63 : IntsTy Try.prog 63 3 := ⟨by rw [fo63]; exact underlying63, by rw [fo63]; exact ⟨rfl, by decide, underlying3, isAgg3, rfl, by decide, underlying3, isAgg3, rfl, by decide, underlying3, isAgg3, trivial⟩, by rw [fo63]; rfl, by kernel_rfl, by kernel_rfl⟩
theorem ti76 : TyInfo Try.prog 76 2 true := ⟨isAgg76, sizeOf76⟩
theorem zv76 : ∀ w, (zeroValue 76).run Try.prog w = .ok (.agg #[.int .i64 0, .slice none 0 0]) w := Try.zeroValue76
theorem az76 : AllZ [aInt 0, aEx (.slice none 0 0)] [.int .i64 0, .slice none 0 0] := ⟨fun _ _ => rfl, rfl, fun _ _ => rfl, rfl, trivial⟩
theorem zc76 : ∀ (hp : Heap) (O : Nat → Prop) (i : Nat) (A : AV) (u : Value), ([aInt 0, aEx (.slice none 0 0)] : List AV)[i]? = some A → ([.int .i64 0, .slice none 0 0] : List Value)[i]? = some u → A.holds hp O u ∧ u.oneCell' = true := zc_of az76
theorem st76 : StructTy Try.prog 76 #[{ name := "Cols", type := 3, offset := 0, embedded := false, tag := "", pkgPath := "", byteOffset := 0 }, { name := "Rows", type := 25, offset := 1, embedded := false, tag := "", pkgPath := "", byteOffset := 8 }] [(0, 1), (1, 1)] [.int .i64 0, .slice none 0 0] := ⟨runUnderlying76, fun w => by simp [sizeOf25, sizeOf3], Try.zeroValue76⟩
theorem z76 : ∀ hp O, CellsHold hp O [aInt 0, aEx (.slice none 0 0)] [.int .i64 0, .slice none 0 0] := z_of az76
theorem az93 : AllZ [aInt 0, aInt 0, aEx (.slice none 0 0), aInt 0, aEx (.slice none 0 0), aEx (.slice none 0 0)] [.int .i64 0, .int .i64 0, .slice none 0 0, .int .i64 0, .slice none 0 0, .slice none 0 0] := ⟨fun _ _ => rfl, rfl, fun _ _ => rfl, rfl, fun _ _ => rfl, rfl, fun _ _ => rfl, rfl, fun _ _ => rfl, rfl, fun _ _ => rfl, rfl, trivial⟩
theorem st93 : StructTy Try.prog 93 #[{ name := "f", type := 24, offset := 0, embedded := false, tag := "", pkgPath := "codewright/field", byteOffset := 0 }, { name := "q", type := 3, offset := 3, embedded := false, tag := "", pkgPath := "codewright/field", byteOffset := 40 }, { name := "exp", type := 22, offset := 4, embedded := false, tag := "", pkgPath := "codewright/field", byteOffset := 48 }, { name := "log", type := 22, offset := 5, embedded := false, tag := "", pkgPath := "codewright/field", byteOffset := 72 }] [(0, 3), (3, 1), (4, 1), (5, 1)] [.int .i64 0, .int .i64 0, .slice none 0 0, .int .i64 0, .slice none 0 0, .slice none 0 0] := ⟨runUnderlying93, fun w => by simp [sizeOf22, sizeOf24, sizeOf3], Try.zeroValue93⟩
theorem z93 : ∀ hp O, CellsHold hp O [aInt 0, aInt 0, aEx (.slice none 0 0), aInt 0, aEx (.slice none 0 0), aEx (.slice none 0 0)] [.int .i64 0, .int .i64 0, .slice none 0 0, .int .i64 0, .slice none 0 0, .slice none 0 0] := z_of az93
theorem ti112 : TyInfo Try.prog 112 4 true := ⟨isAgg112, sizeOf112⟩
theorem zv112 : ∀ w, (zeroValue 112).run Try.prog w = .ok (.agg #[.pointer none, .int .i64 0, .slice none 0 0, .slice none 0 0]) w := Try.zeroValue112
theorem az112 : AllZ [aEx (.pointer none), aInt 0, aEx (.slice none 0 0), aEx (.slice none 0 0)] [.pointer none, .int .i64 0, .slice none 0 0, .slice none 0 0] := ⟨fun _ _ => rfl, rfl, fun _ _ => rfl, rfl, fun _ _ => rfl, rfl, fun _ _ => rfl, rfl, trivial⟩
theorem zc112 : ∀ (hp : Heap) (O : Nat → Prop) (i : Nat) (A : AV) (u : Value), ([aEx (.pointer none), aInt 0, aEx (.slice none 0 0), aEx (.slice none 0 0)] : List AV)[i]? = some A → ([.pointer none, .int .i64 0, .slice none 0 0, .slice none 0 0] : List Value)[i]? = some u → A.holds hp O u ∧ u.oneCell' = true := zc_of az112
theorem st112 : StructTy Try.prog 112 #[{ name := "g", type := 48, offset := 0, embedded := false, tag := "", pkgPath := "codewright/space", byteOffset := 0 }, { name := "a", type := 76, offset := 1, embedded := false, tag := "", pkgPath := "codewright/space", byteOffset := 8 }, { name := "pivots", type := 22, offset := 3, embedded := false, tag := "", pkgPath := "codewright/space", byteOffset := 40 }] [(0, 1), (1, 2), (3, 1)] [.pointer none, .int .i64 0, .slice none 0 0, .slice none 0 0] := ⟨runUnderlying112, fun w => by simp [sizeOf22, sizeOf48, sizeOf76], Try.zeroValue112⟩
theorem z112 : ∀ hp O, CellsHold hp O [aEx (.pointer none), aInt 0, aEx (.slice none 0 0), aEx (.slice none 0 0)] [.pointer none, .int .i64 0, .slice none 0 0, .slice none 0 0] := z_of az112
theorem sl115 : SlInfo Try.prog 115 76 2 := ⟨runUnderlying115, sizeOf76⟩
theorem vt115 : VecTy Try.prog 115 76 2 32 true (.agg #[.int .i64 0, .slice none 0 0]) := vecTy_of underlying115 (by kernel_rfl) rfl (by decide) (fun h => by cases h) isAgg76
theorem sl123 : SlInfo Try.prog 123 4 1 := ⟨runUnderlying123, sizeOf4⟩
theorem vt123 : VecTy Try.prog 123 4 1 1 false (.bool false) := vecTy_of underlying123 (by kernel_rfl) rfl (by decide) (fun _ => rfl) isAgg4
end Go.Proofs.Ytcilbmggiahciaa

