/-
  Walks of functions of the program and the reference.
-/
import Derived.Test.YtbofipdmoocflaaProg
import Derived.KernelRfl
import Derived.Test.YtbofipdmoocflaaCxLib
open Go Go.Cw
namespace Go.Proofs.Ytbofipdmoocflaa
set_option maxRecDepth 100000
theorem mixed : Try.prog.follows .mixedOrders = true := by kernel_rfl
theorem ti3 : TyInfo Try.prog 3 1 false := ⟨Try.isAgg3, Try.sizeOf3⟩
theorem zv3 : ∀ w, (zeroValue 3).run Try.prog w = .ok (.int .i64 0) w := Try.zeroValue3
theorem az3 : AllZ [aInt 0] [.int .i64 0] := ⟨fun _ _ => rfl, rfl, trivial⟩
theorem zc3 : ∀ (hp : Heap) (O : Nat → Prop) (i : Nat) (A : AV) (u : Value), ([aInt 0] : List AV)[i]? = some A → ([.int .i64 0] : List Value)[i]? = some u → A.holds hp O u ∧ u.oneCell' = true := zc_of az3
theorem ti4 : TyInfo Try.prog 4 1 false := ⟨Try.isAgg4, Try.sizeOf4⟩
theorem ti22 : TyInfo Try.prog 22 1 false := ⟨Try.isAgg22, Try.sizeOf22⟩
theorem zv22 : ∀ w, (zeroValue 22).run Try.prog w = .ok (.slice none 0 0) w := Try.zeroValue22
theorem az22 : AllZ [aEx (.slice none 0 0)] [.slice none 0 0] := ⟨fun _ _ => rfl, rfl, trivial⟩
theorem zc22 : ∀ (hp : Heap) (O : Nat → Prop) (i : Nat) (A : AV) (u : Value), ([aEx (.slice none 0 0)] : List AV)[i]? = some A → ([.slice none 0 0] : List Value)[i]? = some u → A.holds hp O u ∧ u.oneCell' = true := zc_of az22
theorem sl22 : SlInfo Try.prog 22 3 1 := ⟨Try.runUnderlying22, Try.sizeOf3⟩
theorem vt22 : VecTy Try.prog 22 3 1 8 false (.int .i64 0) := vecTy_of Try.underlying22 (by kernel_rfl) rfl (by decide) (fun _ => rfl) Try.isAgg3
theorem ti24 : TyInfo Try.prog 24 3 true := ⟨Try.isAgg24, Try.sizeOf24⟩
theorem zv24 : ∀ w, (zeroValue 24).run Try.prog w = .ok (.agg #[.int .i64 0, .int .i64 0, .slice none 0 0]) w := Try.zeroValue24
theorem az24 : AllZ [aInt 0, aInt 0, aEx (.slice none 0 0)] [.int .i64 0, .int .i64 0, .slice none 0 0] := ⟨fun _ _ => rfl, rfl, fun _ _ => rfl, rfl, fun _ _ => rfl, rfl, trivial⟩
theorem zc24 : ∀ (hp : Heap) (O : Nat → Prop) (i : Nat) (A : AV) (u : Value), ([aInt 0, aInt 0, aEx (.slice none 0 0)] : List AV)[i]? = some A → ([.int .i64 0, .int .i64 0, .slice none 0 0] : List Value)[i]? = some u → A.holds hp O u ∧ u.oneCell' = true := zc_of az24
theorem st24 : StructTy Try.prog 24 #[{ name := "P", type := 3, offset := 0, embedded := false, tag := "", pkgPath := "", byteOffset := 0 }, { name := "M", type := 3, offset := 1, embedded := false, tag := "", pkgPath := "", byteOffset := 8 }, { name := "Mod", type := 22, offset := 2, embedded := false, tag := "", pkgPath := "", byteOffset := 16 }] [(0, 1), (1, 1), (2, 1)] [.int .i64 0, .int .i64 0, .slice none 0 0] := ⟨Try.runUnderlying24, fun w => by simp [Try.sizeOf22, Try.sizeOf3], Try.zeroValue24⟩
theorem z24 : ∀ hp O, CellsHold hp O [aInt 0, aInt 0, aEx (.slice none 0 0)] [.int .i64 0, .int .i64 0, .slice none 0 0] := z_of az24
theorem ti25 : TyInfo Try.prog 25 1 false := ⟨Try.isAgg25, Try.sizeOf25⟩
theorem sl25 : SlInfo Try.prog 25 22 1 := ⟨Try.runUnderlying25, Try.sizeOf22⟩
theorem vt25 : VecTy Try.prog 25 22 1 24 false (.slice none 0 0) := vecTy_of Try.underlying25 (by kernel_rfl) rfl (by decide) (fun _ => rfl) Try.isAgg22
theorem ti27 : TyInfo Try.prog 27 5 true := ⟨Try.isAgg27, Try.sizeOf27⟩
theorem zv27 : ∀ w, (zeroValue 27).run Try.prog w = .ok (.agg #[.int .i64 0, .int .i64 0, .slice none 0 0, .int .i64 0, .slice none 0 0]) w := Try.zeroValue27
theorem az27 : AllZ [aInt 0, aInt 0, aEx (.slice none 0 0), aInt 0, aEx (.slice none 0 0)] [.int .i64 0, .int .i64 0, .slice none 0 0, .int .i64 0, .slice none 0 0] := ⟨fun _ _ => rfl, rfl, fun _ _ => rfl, rfl, fun _ _ => rfl, rfl, fun _ _ => rfl, rfl, fun _ _ => rfl, rfl, trivial⟩
theorem zc27 : ∀ (hp : Heap) (O : Nat → Prop) (i : Nat) (A : AV) (u : Value), ([aInt 0, aInt 0, aEx (.slice none 0 0), aInt 0, aEx (.slice none 0 0)] : List AV)[i]? = some A → ([.int .i64 0, .int .i64 0, .slice none 0 0, .int .i64 0, .slice none 0 0] : List Value)[i]? = some u → A.holds hp O u ∧ u.oneCell' = true := zc_of az27
theorem st27 : StructTy Try.prog 27 #[{ name := "F", type := 24, offset := 0, embedded := false, tag := "", pkgPath := "", byteOffset := 0 }, { name := "N", type := 3, offset := 3, embedded := false, tag := "", pkgPath := "", byteOffset := 40 }, { name := "Gen", type := 25, offset := 4, embedded := false, tag := "", pkgPath := "", byteOffset := 48 }] [(0, 3), (3, 1), (4, 1)] [.int .i64 0, .int .i64 0, .slice none 0 0, .int .i64 0, .slice none 0 0] := ⟨Try.runUnderlying27, fun w => by simp [Try.sizeOf24, Try.sizeOf25, Try.sizeOf3], Try.zeroValue27⟩
theorem z27 : ∀ hp O, CellsHold hp O [aInt 0, aInt 0, aEx (.slice none 0 0), aInt 0, aEx (.slice none 0 0)] [.int .i64 0, .int .i64 0, .slice none 0 0, .int .i64 0, .slice none 0 0] := z_of az27
theorem ti68 : TyInfo Try.prog 68 2 true := ⟨Try.isAgg68, Try.sizeOf68⟩
theorem zv68 : ∀ w, (zeroValue 68).run Try.prog w = .ok (.agg #[.bool false, .slice none 0 0]) w := Try.zeroValue68
theorem az68 : AllZ [aBool false, aEx (.slice none 0 0)] [.bool false, .slice none 0 0] := ⟨fun _ _ => rfl, rfl, fun _ _ => rfl, rfl, trivial⟩
theorem zc68 : ∀ (hp : Heap) (O : Nat → Prop) (i : Nat) (A : AV) (u : Value), ([aBool false, aEx (.slice none 0 0)] : List AV)[i]? = some A → ([.bool false, .slice none 0 0] : List Value)[i]? = some u → A.holds hp O u ∧ u.oneCell' = true := zc_of az68
theorem st68 : StructTy Try.prog 68 #[{ name := "Dual", type := 4, offset := 0, embedded := false, tag := "", pkgPath := "", byteOffset := 0 }, { name := "Count", type := 22, offset := 1, embedded := false, tag := "", pkgPath := "", byteOffset := 8 }] [(0, 1), (1, 1)] [.bool false, .slice none 0 0] := ⟨Try.runUnderlying68, fun w => by simp [Try.sizeOf22, Try.sizeOf4], Try.zeroValue68⟩
theorem z68 : ∀ hp O, CellsHold hp O [aBool false, aEx (.slice none 0 0)] [.bool false, .slice none 0 0] := z_of az68
theorem ti83 : TyInfo Try.prog 83 2 true := ⟨Try.isAgg83, Try.sizeOf83⟩
theorem zv83 : ∀ w, (zeroValue 83).run Try.prog w = .ok (.agg #[.int .i64 0, .slice none 0 0]) w := Try.zeroValue83
theorem az83 : AllZ [aInt 0, aEx (.slice none 0 0)] [.int .i64 0, .slice none 0 0] := ⟨fun _ _ => rfl, rfl, fun _ _ => rfl, rfl, trivial⟩
theorem zc83 : ∀ (hp : Heap) (O : Nat → Prop) (i : Nat) (A : AV) (u : Value), ([aInt 0, aEx (.slice none 0 0)] : List AV)[i]? = some A → ([.int .i64 0, .slice none 0 0] : List Value)[i]? = some u → A.holds hp O u ∧ u.oneCell' = true := zc_of az83
theorem st83 : StructTy Try.prog 83 #[{ name := "Cols", type := 3, offset := 0, embedded := false, tag := "", pkgPath := "", byteOffset := 0 }, { name := "Rows", type := 25, offset := 1, embedded := false, tag := "", pkgPath := "", byteOffset := 8 }] [(0, 1), (1, 1)] [.int .i64 0, .slice none 0 0] := ⟨Try.runUnderlying83, fun w => by simp [Try.sizeOf25, Try.sizeOf3], Try.zeroValue83⟩
theorem z83 : ∀ hp O, CellsHold hp O [aInt 0, aEx (.slice none 0 0)] [.int .i64 0, .slice none 0 0] := z_of az83
theorem ti89 : TyInfo Try.prog 89 1 false := ⟨Try.isAgg89, Try.sizeOf89⟩
theorem zv89 : ∀ w, (zeroValue 89).run Try.prog w = .ok (.pointer none) w := Try.zeroValue89
theorem az89 : AllZ [aEx (.pointer none)] [.pointer none] := ⟨fun _ _ => rfl, rfl, trivial⟩
theorem zc89 : ∀ (hp : Heap) (O : Nat → Prop) (i : Nat) (A : AV) (u : Value), ([aEx (.pointer none)] : List AV)[i]? = some A → ([.pointer none] : List Value)[i]? = some u → A.holds hp O u ∧ u.oneCell' = true := zc_of az89
theorem ti104 : TyInfo Try.prog 104 1 false := ⟨Try.isAgg104, Try.sizeOf104⟩
theorem zv104 : ∀ w, (zeroValue 104).run Try.prog w = .ok (.nilFunc) w := Try.zeroValue104
theorem az104 : AllZ [aEx .nilFunc] [.nilFunc] := ⟨fun _ _ => rfl, rfl, trivial⟩
theorem zc104 : ∀ (hp : Heap) (O : Nat → Prop) (i : Nat) (A : AV) (u : Value), ([aEx .nilFunc] : List AV)[i]? = some A → ([.nilFunc] : List Value)[i]? = some u → A.holds hp O u ∧ u.oneCell' = true := zc_of az104
theorem az116 : AllZ [aInt 0, aInt 0, aEx (.slice none 0 0), aInt 0, aEx (.slice none 0 0), aEx (.slice none 0 0)] [.int .i64 0, .int .i64 0, .slice none 0 0, .int .i64 0, .slice none 0 0, .slice none 0 0] := ⟨fun _ _ => rfl, rfl, fun _ _ => rfl, rfl, fun _ _ => rfl, rfl, fun _ _ => rfl, rfl, fun _ _ => rfl, rfl, fun _ _ => rfl, rfl, trivial⟩
theorem st116 : StructTy Try.prog 116 #[{ name := "f", type := 24, offset := 0, embedded := false, tag := "", pkgPath := "codewright/field", byteOffset := 0 }, { name := "q", type := 3, offset := 3, embedded := false, tag := "", pkgPath := "codewright/field", byteOffset := 40 }, { name := "exp", type := 22, offset := 4, embedded := false, tag := "", pkgPath := "codewright/field", byteOffset := 48 }, { name := "log", type := 22, offset := 5, embedded := false, tag := "", pkgPath := "codewright/field", byteOffset := 72 }] [(0, 3), (3, 1), (4, 1), (5, 1)] [.int .i64 0, .int .i64 0, .slice none 0 0, .int .i64 0, .slice none 0 0, .slice none 0 0] := ⟨Try.runUnderlying116, fun w => by simp [Try.sizeOf22, Try.sizeOf24, Try.sizeOf3], Try.zeroValue116⟩
theorem z116 : ∀ hp O, CellsHold hp O [aInt 0, aInt 0, aEx (.slice none 0 0), aInt 0, aEx (.slice none 0 0), aEx (.slice none 0 0)] [.int .i64 0, .int .i64 0, .slice none 0 0, .int .i64 0, .slice none 0 0, .slice none 0 0] := z_of az116
theorem ti120 : TyInfo Try.prog 120 4 true := ⟨Try.isAgg120, Try.sizeOf120⟩
theorem zv120 : ∀ w, (zeroValue 120).run Try.prog w = .ok (.agg #[.pointer none, .int .i64 0, .slice none 0 0, .slice none 0 0]) w := Try.zeroValue120
theorem az120 : AllZ [aEx (.pointer none), aInt 0, aEx (.slice none 0 0), aEx (.slice none 0 0)] [.pointer none, .int .i64 0, .slice none 0 0, .slice none 0 0] := ⟨fun _ _ => rfl, rfl, fun _ _ => rfl, rfl, fun _ _ => rfl, rfl, fun _ _ => rfl, rfl, trivial⟩
theorem zc120 : ∀ (hp : Heap) (O : Nat → Prop) (i : Nat) (A : AV) (u : Value), ([aEx (.pointer none), aInt 0, aEx (.slice none 0 0), aEx (.slice none 0 0)] : List AV)[i]? = some A → ([.pointer none, .int .i64 0, .slice none 0 0, .slice none 0 0] : List Value)[i]? = some u → A.holds hp O u ∧ u.oneCell' = true := zc_of az120
theorem st120 : StructTy Try.prog 120 #[{ name := "g", type := 89, offset := 0, embedded := false, tag := "", pkgPath := "codewright/space", byteOffset := 0 }, { name := "a", type := 83, offset := 1, embedded := false, tag := "", pkgPath := "codewright/space", byteOffset := 8 }, { name := "pivots", type := 22, offset := 3, embedded := false, tag := "", pkgPath := "codewright/space", byteOffset := 40 }] [(0, 1), (1, 2), (3, 1)] [.pointer none, .int .i64 0, .slice none 0 0, .slice none 0 0] := ⟨Try.runUnderlying120, fun w => by simp [Try.sizeOf22, Try.sizeOf83, Try.sizeOf89], Try.zeroValue120⟩
theorem z120 : ∀ hp O, CellsHold hp O [aEx (.pointer none), aInt 0, aEx (.slice none 0 0), aEx (.slice none 0 0)] [.pointer none, .int .i64 0, .slice none 0 0, .slice none 0 0] := z_of az120
theorem sl136 : SlInfo Try.prog 136 4 1 := ⟨Try.runUnderlying136, Try.sizeOf4⟩
theorem vt136 : VecTy Try.prog 136 4 1 1 false (.bool false) := vecTy_of Try.underlying136 (by kernel_rfl) rfl (by decide) (fun _ => rfl) Try.isAgg4
theorem sl140 : SlInfo Try.prog 140 83 2 := ⟨Try.runUnderlying140, Try.sizeOf83⟩
theorem vt140 : VecTy Try.prog 140 83 2 32 true (.agg #[.int .i64 0, .slice none 0 0]) := vecTy_of Try.underlying140 (by kernel_rfl) rfl (by decide) (fun h => by cases h) Try.isAgg83
end Go.Proofs.Ytbofipdmoocflaa

