/-
  Facts on the types of this translation.
-/
import Derived.Test.YtamhdlkfhhpdpaaProg
import Derived.KernelRfl
import Derived.Test.YtamhdlkfhhpdpaaCxLib
open Go Go.Cw
namespace Go.Proofs.Ytamhdlkfhhpdpaa
set_option maxRecDepth 100000
theorem mixed : Try.prog.follows .mixedOrders = true := by kernel_rfl
theorem ti2 : TyInfo Try.prog 2 1 false := ⟨Try.isAgg2, Try.sizeOf2⟩
theorem zv2 : ∀ w, (zeroValue 2).run Try.prog w = .ok (.int .i64 0) w := Try.zeroValue2
theorem az2 : AllZ [aInt 0] [.int .i64 0] := ⟨fun _ _ => rfl, rfl, trivial⟩
theorem zc2 : ∀ (hp : Heap) (O : Nat → Prop) (i : Nat) (A : AV) (u : Value), ([aInt 0] : List AV)[i]? = some A → ([.int .i64 0] : List Value)[i]? = some u → A.holds hp O u ∧ u.oneCell' = true := zc_of az2
theorem ti3 : TyInfo Try.prog 3 1 false := ⟨Try.isAgg3, Try.sizeOf3⟩
theorem zv3 : ∀ w, (zeroValue 3).run Try.prog w = .ok (.int .i64 0) w := Try.zeroValue3
theorem az3 : AllZ [aInt 0] [.int .i64 0] := ⟨fun _ _ => rfl, rfl, trivial⟩
theorem zc3 : ∀ (hp : Heap) (O : Nat → Prop) (i : Nat) (A : AV) (u : Value), ([aInt 0] : List AV)[i]? = some A → ([.int .i64 0] : List Value)[i]? = some u → A.holds hp O u ∧ u.oneCell' = true := zc_of az3
theorem ti4 : TyInfo Try.prog 4 1 false := ⟨Try.isAgg4, Try.sizeOf4⟩
theorem zv4 : ∀ w, (zeroValue 4).run Try.prog w = .ok (.bool false) w := Try.zeroValue4
theorem az4 : AllZ [aBool false] [.bool false] := ⟨fun _ _ => rfl, rfl, trivial⟩
theorem zc4 : ∀ (hp : Heap) (O : Nat → Prop) (i : Nat) (A : AV) (u : Value), ([aBool false] : List AV)[i]? = some A → ([.bool false] : List Value)[i]? = some u → A.holds hp O u ∧ u.oneCell' = true := zc_of az4
theorem ti5 : TyInfo Try.prog 5 1 false := ⟨Try.isAgg5, Try.sizeOf5⟩
theorem ti6 : TyInfo Try.prog 6 1 false := ⟨Try.isAgg6, Try.sizeOf6⟩
theorem ti7 : TyInfo Try.prog 7 4 true := ⟨Try.isAgg7, Try.sizeOf7⟩
theorem ti8 : TyInfo Try.prog 8 4 true := ⟨Try.isAgg8, Try.sizeOf8⟩
theorem ti12 : TyInfo Try.prog 12 1 false := ⟨Try.isAgg12, Try.sizeOf12⟩
theorem ti13 : TyInfo Try.prog 13 2 true := ⟨Try.isAgg13, Try.sizeOf13⟩
theorem ti14 : TyInfo Try.prog 14 2 true := ⟨Try.isAgg14, Try.sizeOf14⟩
theorem ti15 : TyInfo Try.prog 15 1 false := ⟨Try.isAgg15, Try.sizeOf15⟩
theorem ti16 : TyInfo Try.prog 16 1 false := ⟨Try.isAgg16, Try.sizeOf16⟩
theorem ti17 : TyInfo Try.prog 17 1 false := ⟨Try.isAgg17, Try.sizeOf17⟩
theorem ti18 : TyInfo Try.prog 18 1 true := ⟨Try.isAgg18, Try.sizeOf18⟩
theorem zv18 : ∀ w, (zeroValue 18).run Try.prog w = .ok (.agg #[.pointer none]) w := Try.zeroValue18
theorem az18 : AllZ [aEx (.pointer none)] [.pointer none] := ⟨fun _ _ => rfl, rfl, trivial⟩
theorem zc18 : ∀ (hp : Heap) (O : Nat → Prop) (i : Nat) (A : AV) (u : Value), ([aEx (.pointer none)] : List AV)[i]? = some A → ([.pointer none] : List Value)[i]? = some u → A.holds hp O u ∧ u.oneCell' = true := zc_of az18
theorem st18 : StructTy Try.prog 18 #[{ name := "typ", type := 17, offset := 0, embedded := false, tag := "", pkgPath := "internal/runtime/maps", byteOffset := 0 }] [(0, 1)] [.pointer none] := ⟨Try.runUnderlying18, fun w => by simp [Try.sizeOf17], Try.zeroValue18⟩
theorem z18 : ∀ hp O, CellsHold hp O [aEx (.pointer none)] [.pointer none] := z_of az18
theorem zagg18 (hp : Heap) (O : Nat → Prop) : (aAgg [aEx (.pointer none)]).holds hp O (mkV true [.pointer none]) := zagg_of az18 hp O
theorem ti19 : TyInfo Try.prog 19 1 true := ⟨Try.isAgg19, Try.sizeOf19⟩
theorem zv19 : ∀ w, (zeroValue 19).run Try.prog w = .ok (.agg #[.pointer none]) w := Try.zeroValue19
theorem az19 : AllZ [aEx (.pointer none)] [.pointer none] := ⟨fun _ _ => rfl, rfl, trivial⟩
theorem zc19 : ∀ (hp : Heap) (O : Nat → Prop) (i : Nat) (A : AV) (u : Value), ([aEx (.pointer none)] : List AV)[i]? = some A → ([.pointer none] : List Value)[i]? = some u → A.holds hp O u ∧ u.oneCell' = true := zc_of az19
theorem st19 : StructTy Try.prog 19 #[{ name := "typ", type := 17, offset := 0, embedded := false, tag := "", pkgPath := "internal/runtime/maps", byteOffset := 0 }] [(0, 1)] [.pointer none] := ⟨Try.runUnderlying19, fun w => by simp [Try.sizeOf17], Try.zeroValue19⟩
theorem z19 : ∀ hp O, CellsHold hp O [aEx (.pointer none)] [.pointer none] := z_of az19
theorem zagg19 (hp : Heap) (O : Nat → Prop) : (aAgg [aEx (.pointer none)]).holds hp O (mkV true [.pointer none]) := zagg_of az19 hp O
theorem ti21 : TyInfo Try.prog 21 1 false := ⟨Try.isAgg21, Try.sizeOf21⟩
theorem ti22 : TyInfo Try.prog 22 1 false := ⟨Try.isAgg22, Try.sizeOf22⟩
theorem zv22 : ∀ w, (zeroValue 22).run Try.prog w = .ok (.slice none 0 0) w := Try.zeroValue22
theorem az22 : AllZ [aEx (.slice none 0 0)] [.slice none 0 0] := ⟨fun _ _ => rfl, rfl, trivial⟩
theorem zc22 : ∀ (hp : Heap) (O : Nat → Prop) (i : Nat) (A : AV) (u : Value), ([aEx (.slice none 0 0)] : List AV)[i]? = some A → ([.slice none 0 0] : List Value)[i]? = some u → A.holds hp O u ∧ u.oneCell' = true := zc_of az22
theorem sl22 : SlInfo Try.prog 22 3 1 := ⟨Try.runUnderlying22, Try.sizeOf3⟩
theorem vt22 : VecTy Try.prog 22 3 1 8 false (.int .i64 0) := vecTy_of Try.underlying22 (by kernel_rfl) rfl (by decide) (fun _ => rfl) Try.isAgg3
theorem ti23 : TyInfo Try.prog 23 3 true := ⟨Try.isAgg23, Try.sizeOf23⟩
theorem zv23 : ∀ w, (zeroValue 23).run Try.prog w = .ok (.agg #[.int .i64 0, .int .i64 0, .slice none 0 0]) w := Try.zeroValue23
theorem az23 : AllZ [aInt 0, aInt 0, aEx (.slice none 0 0)] [.int .i64 0, .int .i64 0, .slice none 0 0] := ⟨fun _ _ => rfl, rfl, fun _ _ => rfl, rfl, fun _ _ => rfl, rfl, trivial⟩
theorem zc23 : ∀ (hp : Heap) (O : Nat → Prop) (i : Nat) (A : AV) (u : Value), ([aInt 0, aInt 0, aEx (.slice none 0 0)] : List AV)[i]? = some A → ([.int .i64 0, .int .i64 0, .slice none 0 0] : List Value)[i]? = some u → A.holds hp O u ∧ u.oneCell' = true := zc_of az23
theorem st23 : StructTy Try.prog 23 #[{ name := "P", type := 3, offset := 0, embedded := false, tag := "", pkgPath := "", byteOffset := 0 }, { name := "M", type := 3, offset := 1, embedded := false, tag := "", pkgPath := "", byteOffset := 8 }, { name := "Mod", type := 22, offset := 2, embedded := false, tag := "", pkgPath := "", byteOffset := 16 }] [(0, 1), (1, 1), (2, 1)] [.int .i64 0, .int .i64 0, .slice none 0 0] := ⟨Try.runUnderlying23, fun w => by simp [Try.sizeOf22, Try.sizeOf3], Try.zeroValue23⟩
theorem z23 : ∀ hp O, CellsHold hp O [aInt 0, aInt 0, aEx (.slice none 0 0)] [.int .i64 0, .int .i64 0, .slice none 0 0] := z_of az23
theorem zagg23 (hp : Heap) (O : Nat → Prop) : (aAgg [aInt 0, aInt 0, aEx (.slice none 0 0)]).holds hp O (mkV true [.int .i64 0, .int .i64 0, .slice none 0 0]) := zagg_of az23 hp O
theorem ti24 : TyInfo Try.prog 24 3 true := ⟨Try.isAgg24, Try.sizeOf24⟩
theorem zv24 : ∀ w, (zeroValue 24).run Try.prog w = .ok (.agg #[.int .i64 0, .int .i64 0, .slice none 0 0]) w := Try.zeroValue24
theorem az24 : AllZ [aInt 0, aInt 0, aEx (.slice none 0 0)] [.int .i64 0, .int .i64 0, .slice none 0 0] := ⟨fun _ _ => rfl, rfl, fun _ _ => rfl, rfl, fun _ _ => rfl, rfl, trivial⟩
theorem zc24 : ∀ (hp : Heap) (O : Nat → Prop) (i : Nat) (A : AV) (u : Value), ([aInt 0, aInt 0, aEx (.slice none 0 0)] : List AV)[i]? = some A → ([.int .i64 0, .int .i64 0, .slice none 0 0] : List Value)[i]? = some u → A.holds hp O u ∧ u.oneCell' = true := zc_of az24
theorem st24 : StructTy Try.prog 24 #[{ name := "P", type := 3, offset := 0, embedded := false, tag := "", pkgPath := "", byteOffset := 0 }, { name := "M", type := 3, offset := 1, embedded := false, tag := "", pkgPath := "", byteOffset := 8 }, { name := "Mod", type := 22, offset := 2, embedded := false, tag := "", pkgPath := "", byteOffset := 16 }] [(0, 1), (1, 1), (2, 1)] [.int .i64 0, .int .i64 0, .slice none 0 0] := ⟨Try.runUnderlying24, fun w => by simp [Try.sizeOf22, Try.sizeOf3], Try.zeroValue24⟩
theorem z24 : ∀ hp O, CellsHold hp O [aInt 0, aInt 0, aEx (.slice none 0 0)] [.int .i64 0, .int .i64 0, .slice none 0 0] := z_of az24
theorem zagg24 (hp : Heap) (O : Nat → Prop) : (aAgg [aInt 0, aInt 0, aEx (.slice none 0 0)]).holds hp O (mkV true [.int .i64 0, .int .i64 0, .slice none 0 0]) := zagg_of az24 hp O
theorem ti25 : TyInfo Try.prog 25 1 false := ⟨Try.isAgg25, Try.sizeOf25⟩
theorem zv25 : ∀ w, (zeroValue 25).run Try.prog w = .ok (.slice none 0 0) w := Try.zeroValue25
theorem az25 : AllZ [aEx (.slice none 0 0)] [.slice none 0 0] := ⟨fun _ _ => rfl, rfl, trivial⟩
theorem zc25 : ∀ (hp : Heap) (O : Nat → Prop) (i : Nat) (A : AV) (u : Value), ([aEx (.slice none 0 0)] : List AV)[i]? = some A → ([.slice none 0 0] : List Value)[i]? = some u → A.holds hp O u ∧ u.oneCell' = true := zc_of az25
theorem sl25 : SlInfo Try.prog 25 22 1 := ⟨Try.runUnderlying25, Try.sizeOf22⟩
theorem vt25 : VecTy Try.prog 25 22 1 24 false (.slice none 0 0) := vecTy_of Try.underlying25 (by kernel_rfl) rfl (by decide) (fun _ => rfl) Try.isAgg22
theorem ti26 : TyInfo Try.prog 26 2 true := ⟨Try.isAgg26, Try.sizeOf26⟩
theorem zv26 : ∀ w, (zeroValue 26).run Try.prog w = .ok (.agg #[.int .i64 0, .slice none 0 0]) w := Try.zeroValue26
theorem az26 : AllZ [aInt 0, aEx (.slice none 0 0)] [.int .i64 0, .slice none 0 0] := ⟨fun _ _ => rfl, rfl, fun _ _ => rfl, rfl, trivial⟩
theorem zc26 : ∀ (hp : Heap) (O : Nat → Prop) (i : Nat) (A : AV) (u : Value), ([aInt 0, aEx (.slice none 0 0)] : List AV)[i]? = some A → ([.int .i64 0, .slice none 0 0] : List Value)[i]? = some u → A.holds hp O u ∧ u.oneCell' = true := zc_of az26
theorem st26 : StructTy Try.prog 26 #[{ name := "Cols", type := 3, offset := 0, embedded := false, tag := "", pkgPath := "", byteOffset := 0 }, { name := "Rows", type := 25, offset := 1, embedded := false, tag := "", pkgPath := "", byteOffset := 8 }] [(0, 1), (1, 1)] [.int .i64 0, .slice none 0 0] := ⟨Try.runUnderlying26, fun w => by simp [Try.sizeOf25, Try.sizeOf3], Try.zeroValue26⟩
theorem z26 : ∀ hp O, CellsHold hp O [aInt 0, aEx (.slice none 0 0)] [.int .i64 0, .slice none 0 0] := z_of az26
theorem zagg26 (hp : Heap) (O : Nat → Prop) : (aAgg [aInt 0, aEx (.slice none 0 0)]).holds hp O (mkV true [.int .i64 0, .slice none 0 0]) := zagg_of az26 hp O
theorem ti27 : TyInfo Try.prog 27 2 true := ⟨Try.isAgg27, Try.sizeOf27⟩
theorem zv27 : ∀ w, (zeroValue 27).run Try.prog w = .ok (.agg #[.int .i64 0, .slice none 0 0]) w := Try.zeroValue27
theorem az27 : AllZ [aInt 0, aEx (.slice none 0 0)] [.int .i64 0, .slice none 0 0] := ⟨fun _ _ => rfl, rfl, fun _ _ => rfl, rfl, trivial⟩
theorem zc27 : ∀ (hp : Heap) (O : Nat → Prop) (i : Nat) (A : AV) (u : Value), ([aInt 0, aEx (.slice none 0 0)] : List AV)[i]? = some A → ([.int .i64 0, .slice none 0 0] : List Value)[i]? = some u → A.holds hp O u ∧ u.oneCell' = true := zc_of az27
theorem st27 : StructTy Try.prog 27 #[{ name := "Cols", type := 3, offset := 0, embedded := false, tag := "", pkgPath := "", byteOffset := 0 }, { name := "Rows", type := 25, offset := 1, embedded := false, tag := "", pkgPath := "", byteOffset := 8 }] [(0, 1), (1, 1)] [.int .i64 0, .slice none 0 0] := ⟨Try.runUnderlying27, fun w => by simp [Try.sizeOf25, Try.sizeOf3], Try.zeroValue27⟩
theorem z27 : ∀ hp O, CellsHold hp O [aInt 0, aEx (.slice none 0 0)] [.int .i64 0, .slice none 0 0] := z_of az27
theorem zagg27 (hp : Heap) (O : Nat → Prop) : (aAgg [aInt 0, aEx (.slice none 0 0)]).holds hp O (mkV true [.int .i64 0, .slice none 0 0]) := zagg_of az27 hp O
theorem ti30 : TyInfo Try.prog 30 1 false := ⟨Try.isAgg30, Try.sizeOf30⟩
theorem zv30 : ∀ w, (zeroValue 30).run Try.prog w = .ok (.int .i64 0) w := Try.zeroValue30
theorem az30 : AllZ [aInt 0] [.int .i64 0] := ⟨fun _ _ => rfl, rfl, trivial⟩
theorem zc30 : ∀ (hp : Heap) (O : Nat → Prop) (i : Nat) (A : AV) (u : Value), ([aInt 0] : List AV)[i]? = some A → ([.int .i64 0] : List Value)[i]? = some u → A.holds hp O u ∧ u.oneCell' = true := zc_of az30
theorem ti67 : TyInfo Try.prog 67 1 false := ⟨Try.isAgg67, Try.sizeOf67⟩
theorem zv67 : ∀ w, (zeroValue 67).run Try.prog w = .ok (.slice none 0 0) w := Try.zeroValue67
theorem az67 : AllZ [aEx (.slice none 0 0)] [.slice none 0 0] := ⟨fun _ _ => rfl, rfl, trivial⟩
theorem zc67 : ∀ (hp : Heap) (O : Nat → Prop) (i : Nat) (A : AV) (u : Value), ([aEx (.slice none 0 0)] : List AV)[i]? = some A → ([.slice none 0 0] : List Value)[i]? = some u → A.holds hp O u ∧ u.oneCell' = true := zc_of az67
theorem sl67 : SlInfo Try.prog 67 27 2 := ⟨Try.runUnderlying67, Try.sizeOf27⟩
theorem vt67 : VecTy Try.prog 67 27 2 32 true (.agg #[.int .i64 0, .slice none 0 0]) := vecTy_of Try.underlying67 (by kernel_rfl) rfl (by decide) (fun h => by cases h) Try.isAgg27
theorem ti69 : TyInfo Try.prog 69 1 false := ⟨Try.isAgg69, Try.sizeOf69⟩
theorem ti93 : TyInfo Try.prog 93 6 true := ⟨Try.isAgg93, Try.sizeOf93⟩
theorem zv93 : ∀ w, (zeroValue 93).run Try.prog w = .ok (.agg #[.int .i64 0, .int .i64 0, .slice none 0 0, .int .i64 0, .slice none 0 0, .slice none 0 0]) w := Try.zeroValue93
theorem az93 : AllZ [aInt 0, aInt 0, aEx (.slice none 0 0), aInt 0, aEx (.slice none 0 0), aEx (.slice none 0 0)] [.int .i64 0, .int .i64 0, .slice none 0 0, .int .i64 0, .slice none 0 0, .slice none 0 0] := ⟨fun _ _ => rfl, rfl, fun _ _ => rfl, rfl, fun _ _ => rfl, rfl, fun _ _ => rfl, rfl, fun _ _ => rfl, rfl, fun _ _ => rfl, rfl, trivial⟩
theorem zc93 : ∀ (hp : Heap) (O : Nat → Prop) (i : Nat) (A : AV) (u : Value), ([aInt 0, aInt 0, aEx (.slice none 0 0), aInt 0, aEx (.slice none 0 0), aEx (.slice none 0 0)] : List AV)[i]? = some A → ([.int .i64 0, .int .i64 0, .slice none 0 0, .int .i64 0, .slice none 0 0, .slice none 0 0] : List Value)[i]? = some u → A.holds hp O u ∧ u.oneCell' = true := zc_of az93
theorem st93 : StructTy Try.prog 93 #[{ name := "f", type := 24, offset := 0, embedded := false, tag := "", pkgPath := "codewright/field", byteOffset := 0 }, { name := "q", type := 3, offset := 3, embedded := false, tag := "", pkgPath := "codewright/field", byteOffset := 40 }, { name := "exp", type := 22, offset := 4, embedded := false, tag := "", pkgPath := "codewright/field", byteOffset := 48 }, { name := "log", type := 22, offset := 5, embedded := false, tag := "", pkgPath := "codewright/field", byteOffset := 72 }] [(0, 3), (3, 1), (4, 1), (5, 1)] [.int .i64 0, .int .i64 0, .slice none 0 0, .int .i64 0, .slice none 0 0, .slice none 0 0] := ⟨Try.runUnderlying93, fun w => by simp [Try.sizeOf22, Try.sizeOf24, Try.sizeOf3], Try.zeroValue93⟩
theorem z93 : ∀ hp O, CellsHold hp O [aInt 0, aInt 0, aEx (.slice none 0 0), aInt 0, aEx (.slice none 0 0), aEx (.slice none 0 0)] [.int .i64 0, .int .i64 0, .slice none 0 0, .int .i64 0, .slice none 0 0, .slice none 0 0] := z_of az93
theorem zagg93 (hp : Heap) (O : Nat → Prop) : (aAgg [aInt 0, aInt 0, aEx (.slice none 0 0), aInt 0, aEx (.slice none 0 0), aEx (.slice none 0 0)]).holds hp O (mkV true [.int .i64 0, .int .i64 0, .slice none 0 0, .int .i64 0, .slice none 0 0, .slice none 0 0]) := zagg_of az93 hp O
theorem ti94 : TyInfo Try.prog 94 6 true := ⟨Try.isAgg94, Try.sizeOf94⟩
theorem zv94 : ∀ w, (zeroValue 94).run Try.prog w = .ok (.agg #[.int .i64 0, .int .i64 0, .slice none 0 0, .int .i64 0, .slice none 0 0, .slice none 0 0]) w := Try.zeroValue94
theorem az94 : AllZ [aInt 0, aInt 0, aEx (.slice none 0 0), aInt 0, aEx (.slice none 0 0), aEx (.slice none 0 0)] [.int .i64 0, .int .i64 0, .slice none 0 0, .int .i64 0, .slice none 0 0, .slice none 0 0] := ⟨fun _ _ => rfl, rfl, fun _ _ => rfl, rfl, fun _ _ => rfl, rfl, fun _ _ => rfl, rfl, fun _ _ => rfl, rfl, fun _ _ => rfl, rfl, trivial⟩
theorem zc94 : ∀ (hp : Heap) (O : Nat → Prop) (i : Nat) (A : AV) (u : Value), ([aInt 0, aInt 0, aEx (.slice none 0 0), aInt 0, aEx (.slice none 0 0), aEx (.slice none 0 0)] : List AV)[i]? = some A → ([.int .i64 0, .int .i64 0, .slice none 0 0, .int .i64 0, .slice none 0 0, .slice none 0 0] : List Value)[i]? = some u → A.holds hp O u ∧ u.oneCell' = true := zc_of az94
theorem st94 : StructTy Try.prog 94 #[{ name := "f", type := 24, offset := 0, embedded := false, tag := "", pkgPath := "codewright/field", byteOffset := 0 }, { name := "q", type := 3, offset := 3, embedded := false, tag := "", pkgPath := "codewright/field", byteOffset := 40 }, { name := "exp", type := 22, offset := 4, embedded := false, tag := "", pkgPath := "codewright/field", byteOffset := 48 }, { name := "log", type := 22, offset := 5, embedded := false, tag := "", pkgPath := "codewright/field", byteOffset := 72 }] [(0, 3), (3, 1), (4, 1), (5, 1)] [.int .i64 0, .int .i64 0, .slice none 0 0, .int .i64 0, .slice none 0 0, .slice none 0 0] := ⟨Try.runUnderlying94, fun w => by simp [Try.sizeOf22, Try.sizeOf24, Try.sizeOf3], Try.zeroValue94⟩
theorem z94 : ∀ hp O, CellsHold hp O [aInt 0, aInt 0, aEx (.slice none 0 0), aInt 0, aEx (.slice none 0 0), aEx (.slice none 0 0)] [.int .i64 0, .int .i64 0, .slice none 0 0, .int .i64 0, .slice none 0 0, .slice none 0 0] := z_of az94
theorem zagg94 (hp : Heap) (O : Nat → Prop) : (aAgg [aInt 0, aInt 0, aEx (.slice none 0 0), aInt 0, aEx (.slice none 0 0), aEx (.slice none 0 0)]).holds hp O (mkV true [.int .i64 0, .int .i64 0, .slice none 0 0, .int .i64 0, .slice none 0 0, .slice none 0 0]) := zagg_of az94 hp O
theorem ti108 : TyInfo Try.prog 108 1 false := ⟨Try.isAgg108, Try.sizeOf108⟩
theorem zv108 : ∀ w, (zeroValue 108).run Try.prog w = .ok (.slice none 0 0) w := Try.zeroValue108
theorem az108 : AllZ [aEx (.slice none 0 0)] [.slice none 0 0] := ⟨fun _ _ => rfl, rfl, trivial⟩
theorem zc108 : ∀ (hp : Heap) (O : Nat → Prop) (i : Nat) (A : AV) (u : Value), ([aEx (.slice none 0 0)] : List AV)[i]? = some A → ([.slice none 0 0] : List Value)[i]? = some u → A.holds hp O u ∧ u.oneCell' = true := zc_of az108
theorem sl108 : SlInfo Try.prog 108 4 1 := ⟨Try.runUnderlying108, Try.sizeOf4⟩
theorem vt108 : VecTy Try.prog 108 4 1 1 false (.bool false) := vecTy_of Try.underlying108 (by kernel_rfl) rfl (by decide) (fun _ => rfl) Try.isAgg4
theorem ti110 : TyInfo Try.prog 110 4 true := ⟨Try.isAgg110, Try.sizeOf110⟩
theorem ti111 : TyInfo Try.prog 111 4 true := ⟨Try.isAgg111, Try.sizeOf111⟩
theorem ti116 : TyInfo Try.prog 116 1 false := ⟨Try.isAgg116, Try.sizeOf116⟩
theorem ti117 : TyInfo Try.prog 117 1 false := ⟨Try.isAgg117, Try.sizeOf117⟩
theorem ti118 : TyInfo Try.prog 118 1 false := ⟨Try.isAgg118, Try.sizeOf118⟩
theorem ti120 : TyInfo Try.prog 120 1 false := ⟨Try.isAgg120, Try.sizeOf120⟩
theorem ti121 : TyInfo Try.prog 121 1 false := ⟨Try.isAgg121, Try.sizeOf121⟩
theorem ti122 : TyInfo Try.prog 122 1 false := ⟨Try.isAgg122, Try.sizeOf122⟩
theorem ti123 : TyInfo Try.prog 123 11 true := ⟨Try.isAgg123, Try.sizeOf123⟩
theorem ti124 : TyInfo Try.prog 124 11 true := ⟨Try.isAgg124, Try.sizeOf124⟩
end Go.Proofs.Ytamhdlkfhhpdpaa
