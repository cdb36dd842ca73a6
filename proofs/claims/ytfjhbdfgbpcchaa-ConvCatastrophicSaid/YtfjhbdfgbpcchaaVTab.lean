/-
  Walks of functions of the program and the reference.
-/
import Derived.Test.YtfjhbdfgbpcchaaProg
import Derived.KernelRfl
import Derived.Test.YtfjhbdfgbpcchaaCxLib
open Go Go.Cw
namespace Go.Proofs.Ytfjhbdfgbpcchaa
open Try
set_option maxRecDepth 100000
theorem mixed : Try.prog.follows .mixedOrders = true := by kernel_rfl
theorem ti3 : TyInfo Try.prog 3 1 false := ⟨isAgg3, sizeOf3⟩
theorem ti4 : TyInfo Try.prog 4 1 false := ⟨isAgg4, sizeOf4⟩
theorem ti22 : TyInfo Try.prog 22 1 false := ⟨isAgg22, sizeOf22⟩
theorem sl22 : SlInfo Try.prog 22 3 1 := ⟨runUnderlying22, sizeOf3⟩
theorem vt22 : VecTy Try.prog 22 3 1 8 false (.int .i64 0) := vecTy_of underlying22 (by kernel_rfl) rfl (by decide) (fun _ => rfl) isAgg3
theorem ti24 : TyInfo Try.prog 24 3 true := ⟨isAgg24, sizeOf24⟩
theorem az24 : AllZ [aInt 0, aInt 0, aEx (.slice none 0 0)] [.int .i64 0, .int .i64 0, .slice none 0 0] := ⟨fun _ _ => rfl, rfl, fun _ _ => rfl, rfl, fun _ _ => rfl, rfl, trivial⟩
theorem st24 : StructTy Try.prog 24 #[{ name := "P", type := 3, offset := 0, embedded := false, tag := "", pkgPath := "", byteOffset := 0 }, { name := "M", type := 3, offset := 1, embedded := false, tag := "", pkgPath := "", byteOffset := 8 }, { name := "Mod", type := 22, offset := 2, embedded := false, tag := "", pkgPath := "", byteOffset := 16 }] [(0, 1), (1, 1), (2, 1)] [.int .i64 0, .int .i64 0, .slice none 0 0] := ⟨runUnderlying24, fun w => by simp [sizeOf22, sizeOf3], Try.zeroValue24⟩
theorem z24 : ∀ hp O, CellsHold hp O [aInt 0, aInt 0, aEx (.slice none 0 0)] [.int .i64 0, .int .i64 0, .slice none 0 0] := z_of az24
theorem ti25 : TyInfo Try.prog 25 1 false := ⟨isAgg25, sizeOf25⟩
theorem sl25 : SlInfo Try.prog 25 42 1 := ⟨runUnderlying25, sizeOf42⟩
theorem vt25 : VecTy Try.prog 25 42 1 24 false (.slice none 0 0) := vecTy_of underlying25 (by kernel_rfl) rfl (by decide) (fun _ => rfl) isAgg42
theorem ti27 : TyInfo Try.prog 27 4 true := ⟨isAgg27, sizeOf27⟩
theorem az27 : AllZ [aInt 0, aInt 0, aEx (.slice none 0 0), aEx (.slice none 0 0)] [.int .i64 0, .int .i64 0, .slice none 0 0, .slice none 0 0] := ⟨fun _ _ => rfl, rfl, fun _ _ => rfl, rfl, fun _ _ => rfl, rfl, fun _ _ => rfl, rfl, trivial⟩
theorem st27 : StructTy Try.prog 27 #[{ name := "F", type := 24, offset := 0, embedded := false, tag := "", pkgPath := "", byteOffset := 0 }, { name := "Gen", type := 25, offset := 3, embedded := false, tag := "", pkgPath := "", byteOffset := 40 }] [(0, 3), (3, 1)] [.int .i64 0, .int .i64 0, .slice none 0 0, .slice none 0 0] := ⟨runUnderlying27, fun w => by simp [sizeOf24, sizeOf25], Try.zeroValue27⟩
theorem z27 : ∀ hp O, CellsHold hp O [aInt 0, aInt 0, aEx (.slice none 0 0), aEx (.slice none 0 0)] [.int .i64 0, .int .i64 0, .slice none 0 0, .slice none 0 0] := z_of az27
theorem ti42 : TyInfo Try.prog 42 1 false := ⟨isAgg42, sizeOf42⟩
theorem sl42 : SlInfo Try.prog 42 22 1 := ⟨runUnderlying42, sizeOf22⟩
theorem vt42 : VecTy Try.prog 42 22 1 24 false (.slice none 0 0) := vecTy_of underlying42 (by kernel_rfl) rfl (by decide) (fun _ => rfl) isAgg22
theorem ti82 : TyInfo Try.prog 82 1 false := ⟨isAgg82, sizeOf82⟩
theorem az84 : AllZ [aEx (.pointer none), aEx (.slice none 0 0), aInt 0, aInt 0, aEx (.slice none 0 0), aInt 0, aInt 0, aInt 0, aEx (.slice none 0 0)] [.pointer none, .slice none 0 0, .int .i64 0, .int .i64 0, .slice none 0 0, .int .i64 0, .int .i64 0, .int .i64 0, .slice none 0 0] := ⟨fun _ _ => rfl, rfl, fun _ _ => rfl, rfl, fun _ _ => rfl, rfl, fun _ _ => rfl, rfl, fun _ _ => rfl, rfl, fun _ _ => rfl, rfl, fun _ _ => rfl, rfl, fun _ _ => rfl, rfl, fun _ _ => rfl, rfl, trivial⟩
theorem st84 : StructTy Try.prog 84 #[{ name := "g", type := 82, offset := 0, embedded := false, tag := "", pkgPath := "codewright/conv", byteOffset := 0 }, { name := "gen", type := 25, offset := 1, embedded := false, tag := "", pkgPath := "codewright/conv", byteOffset := 8 }, { name := "inputs", type := 3, offset := 2, embedded := false, tag := "", pkgPath := "codewright/conv", byteOffset := 32 }, { name := "outputs", type := 3, offset := 3, embedded := false, tag := "", pkgPath := "codewright/conv", byteOffset := 40 }, { name := "degrees", type := 22, offset := 4, embedded := false, tag := "", pkgPath := "codewright/conv", byteOffset := 48 }, { name := "memory", type := 3, offset := 5, embedded := false, tag := "", pkgPath := "codewright/conv", byteOffset := 72 }, { name := "order", type := 3, offset := 6, embedded := false, tag := "", pkgPath := "codewright/conv", byteOffset := 80 }, { name := "states", type := 3, offset := 7, embedded := false, tag := "", pkgPath := "codewright/conv", byteOffset := 88 }, { name := "first", type := 22, offset := 8, embedded := false, tag := "", pkgPath := "codewright/conv", byteOffset := 96 }] [(0, 1), (1, 1), (2, 1), (3, 1), (4, 1), (5, 1), (6, 1), (7, 1), (8, 1)] [.pointer none, .slice none 0 0, .int .i64 0, .int .i64 0, .slice none 0 0, .int .i64 0, .int .i64 0, .int .i64 0, .slice none 0 0] := ⟨runUnderlying84, fun w => by simp [sizeOf22, sizeOf25, sizeOf3, sizeOf82], Try.zeroValue84⟩
theorem z84 : ∀ hp O, CellsHold hp O [aEx (.pointer none), aEx (.slice none 0 0), aInt 0, aInt 0, aEx (.slice none 0 0), aInt 0, aInt 0, aInt 0, aEx (.slice none 0 0)] [.pointer none, .slice none 0 0, .int .i64 0, .int .i64 0, .slice none 0 0, .int .i64 0, .int .i64 0, .int .i64 0, .slice none 0 0] := z_of az84
theorem sl102 : SlInfo Try.prog 102 4 1 := ⟨runUnderlying102, sizeOf4⟩
theorem vt102 : VecTy Try.prog 102 4 1 1 false (.bool false) := vecTy_of underlying102 (by kernel_rfl) rfl (by decide) (fun _ => rfl) isAgg4
theorem az143 : AllZ [aInt 0, aInt 0, aEx (.slice none 0 0), aInt 0, aEx (.slice none 0 0), aEx (.slice none 0 0)] [.int .i64 0, .int .i64 0, .slice none 0 0, .int .i64 0, .slice none 0 0, .slice none 0 0] := ⟨fun _ _ => rfl, rfl, fun _ _ => rfl, rfl, fun _ _ => rfl, rfl, fun _ _ => rfl, rfl, fun _ _ => rfl, rfl, fun _ _ => rfl, rfl, trivial⟩
theorem st143 : StructTy Try.prog 143 #[{ name := "f", type := 24, offset := 0, embedded := false, tag := "", pkgPath := "codewright/field", byteOffset := 0 }, { name := "q", type := 3, offset := 3, embedded := false, tag := "", pkgPath := "codewright/field", byteOffset := 40 }, { name := "exp", type := 22, offset := 4, embedded := false, tag := "", pkgPath := "codewright/field", byteOffset := 48 }, { name := "log", type := 22, offset := 5, embedded := false, tag := "", pkgPath := "codewright/field", byteOffset := 72 }] [(0, 3), (3, 1), (4, 1), (5, 1)] [.int .i64 0, .int .i64 0, .slice none 0 0, .int .i64 0, .slice none 0 0, .slice none 0 0] := ⟨runUnderlying143, fun w => by simp [sizeOf22, sizeOf24, sizeOf3], Try.zeroValue143⟩
theorem z143 : ∀ hp O, CellsHold hp O [aInt 0, aInt 0, aEx (.slice none 0 0), aInt 0, aEx (.slice none 0 0), aEx (.slice none 0 0)] [.int .i64 0, .int .i64 0, .slice none 0 0, .int .i64 0, .slice none 0 0, .slice none 0 0] := z_of az143
end Go.Proofs.Ytfjhbdfgbpcchaa

