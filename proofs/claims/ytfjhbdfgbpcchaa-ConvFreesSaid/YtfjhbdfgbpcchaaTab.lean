/-
  Facts on the types of this translation.
-/
import Derived.Test.YtfjhbdfgbpcchaaProg
import Derived.KernelRfl
import Derived.Test.YtfjhbdfgbpcchaaCx
open Go Go.Cw
namespace Go.Proofs.Ytfjhbdfgbpcchaa
set_option maxRecDepth 100000
theorem mixed : Try.prog.follows .mixedOrders = true := by kernel_rfl
theorem ti2 : TyInfo Try.prog 2 1 false := ⟨Try.isAgg2, Try.sizeOf2⟩
theorem zv2 : ∀ w, (zeroValue 2).run Try.prog w = .ok (.int .i64 0) w := Try.zeroValue2
theorem az2 : AllZ [aInt 0] [.int .i64 0] := ⟨fun _ _ => rfl, rfl, trivial⟩
theorem zc2 : ∀ (hp : Heap) (O : Nat → Prop) (i : Nat) (A : AV) (u : Value), ([aInt 0] : List AV)[i]? = some A → ([.int .i64 0] : List Value)[i]? = some u → A.holds hp O u ∧ u.oneCell' = true := zc_of az2
theorem ti3 : TyInfo Try.prog 3 1 false := ⟨Try.isAgg3, Try.sizeOf3⟩
theorem zv3 : ∀ w, (zeroValue 3).run Try.prog w = .ok (.int .i64 0) w := Try.zeroValue3
theorem az3 : AllZ [aInt 0] [.int .i64 0] := ⟨fun _ _ => rfl, rfl, trivial⟩
theorem zc3 : ∀ (hp : Heap) (O : Nat → Prop) (i : Nat) (A : AV) (u : Value), ([aInt 0] : List AV)[i]? = some A → ([.int .i64 0] : List Value)[i]? = some u → A.holds hp O u ∧ u.oneCell' = true := zc_of az3
theorem ti4 : TyInfo Try.prog 4 1 false := ⟨Try.isAgg4, Try.sizeOf4⟩
theorem zv4 : ∀ w, (zeroValue 4).run Try.prog w = .ok (.bool false) w := Try.zeroValue4
theorem az4 : AllZ [aBool false] [.bool false] := ⟨fun _ _ => rfl, rfl, trivial⟩
theorem zc4 : ∀ (hp : Heap) (O : Nat → Prop) (i : Nat) (A : AV) (u : Value), ([aBool false] : List AV)[i]? = some A → ([.bool false] : List Value)[i]? = some u → A.holds hp O u ∧ u.oneCell' = true := zc_of az4
theorem ti5 : TyInfo Try.prog 5 1 false := ⟨Try.isAgg5, Try.sizeOf5⟩
theorem ti6 : TyInfo Try.prog 6 1 false := ⟨Try.isAgg6, Try.sizeOf6⟩
theorem ti7 : TyInfo Try.prog 7 4 true := ⟨Try.isAgg7, Try.sizeOf7⟩
theorem ti8 : TyInfo Try.prog 8 4 true := ⟨Try.isAgg8, Try.sizeOf8⟩
theorem ti12 : TyInfo Try.prog 12 1 false := ⟨Try.isAgg12, Try.sizeOf12⟩
theorem ti13 : TyInfo Try.prog 13 2 true := ⟨Try.isAgg13, Try.sizeOf13⟩
theorem ti14 : TyInfo Try.prog 14 2 true := ⟨Try.isAgg14, Try.sizeOf14⟩
theorem ti15 : TyInfo Try.prog 15 1 false := ⟨Try.isAgg15, Try.sizeOf15⟩
theorem ti16 : TyInfo Try.prog 16 1 false := ⟨Try.isAgg16, Try.sizeOf16⟩
theorem ti17 : TyInfo Try.prog 17 1 false := ⟨Try.isAgg17, Try.sizeOf17⟩
theorem ti18 : TyInfo Try.prog 18 1 true := ⟨Try.isAgg18, Try.sizeOf18⟩
theorem zv18 : ∀ w, (zeroValue 18).run Try.prog w = .ok (.agg #[.pointer none]) w := Try.zeroValue18
theorem az18 : AllZ [aEx (.pointer none)] [.pointer none] := ⟨fun _ _ => rfl, rfl, trivial⟩
theorem zc18 : ∀ (hp : Heap) (O : Nat → Prop) (i : Nat) (A : AV) (u : Value), ([aEx (.pointer none)] : List AV)[i]? = some A → ([.pointer none] : List Value)[i]? = some u → A.holds hp O u ∧ u.oneCell' = true := zc_of az18
theorem st18 : StructTy Try.prog 18 #[{ name := "typ", type := 17, offset := 0, embedded := false, tag := "", pkgPath := "internal/runtime/maps", byteOffset := 0 }] [(0, 1)] [.pointer none] := ⟨Try.runUnderlying18, fun w => by simp [Try.sizeOf17], Try.zeroValue18⟩
theorem z18 : ∀ hp O, CellsHold hp O [aEx (.pointer none)] [.pointer none] := z_of az18
theorem zagg18 (hp : Heap) (O : Nat → Prop) : (aAgg [aEx (.pointer none)]).holds hp O (mkV true [.pointer none]) := zagg_of az18 hp O
theorem ti19 : TyInfo Try.prog 19 1 true := ⟨Try.isAgg19, Try.sizeOf19⟩
theorem zv19 : ∀ w, (zeroValue 19).run Try.prog w = .ok (.agg #[.pointer none]) w := Try.zeroValue19
theorem az19 : AllZ [aEx (.pointer none)] [.pointer none] := ⟨fun _ _ => rfl, rfl, trivial⟩
theorem zc19 : ∀ (hp : Heap) (O : Nat → Prop) (i : Nat) (A : AV) (u : Value), ([aEx (.pointer none)] : List AV)[i]? = some A → ([.pointer none] : List Value)[i]? = some u → A.holds hp O u ∧ u.oneCell' = true := zc_of az19
theorem st19 : StructTy Try.prog 19 #[{ name := "typ", type := 17, offset := 0, embedded := false, tag := "", pkgPath := "internal/runtime/maps", byteOffset := 0 }] [(0, 1)] [.pointer none] := ⟨Try.runUnderlying19, fun w => by simp [Try.sizeOf17], Try.zeroValue19⟩
theorem z19 : ∀ hp O, CellsHold hp O [aEx (.pointer none)] [.pointer none] := z_of az19
theorem zagg19 (hp : Heap) (O : Nat → Prop) : (aAgg [aEx (.pointer none)]).holds hp O (mkV true [.pointer none]) := zagg_of az19 hp O
theorem ti21 : TyInfo Try.prog 21 1 false := ⟨Try.isAgg21, Try.sizeOf21⟩
theorem ti22 : TyInfo Try.prog 22 1 false := ⟨Try.isAgg22, Try.sizeOf22⟩
theorem zv22 : ∀ w, (zeroValue 22).run Try.prog w = .ok (.slice none 0 0) w := Try.zeroValue22
theorem az22 : AllZ [aEx (.slice none 0 0)] [.slice none 0 0] := ⟨fun _ _ => rfl, rfl, trivial⟩
theorem zc22 : ∀ (hp : Heap) (O : Nat → Prop) (i : Nat) (A : AV) (u : Value), ([aEx (.slice none 0 0)] : List AV)[i]? = some A → ([.slice none 0 0] : List Value)[i]? = some u → A.holds hp O u ∧ u.oneCell' = true := zc_of az22
theorem sl22 : SlInfo Try.prog 22 3 1 := ⟨Try.runUnderlying22, Try.sizeOf3⟩
theorem vt22 : VecTy Try.prog 22 3 1 8 false (.int .i64 0) := vecTy_of Try.underlying22 (by kernel_rfl) rfl (by decide) (fun _ => rfl) Try.isAgg3
theorem ti23 : TyInfo Try.prog 23 3 true := ⟨Try.isAgg23, Try.sizeOf23⟩
theorem zv23 : ∀ w, (zeroValue 23).run Try.prog w = .ok (.agg #[.int .i64 0, .int .i64 0, .slice none 0 0]) w := Try.zeroValue23
theorem az23 : AllZ [aInt 0, aInt 0, aEx (.slice none 0 0)] [.int .i64 0, .int .i64 0, .slice none 0 0] := ⟨fun _ _ => rfl, rfl, fun _ _ => rfl, rfl, fun _ _ => rfl, rfl, trivial⟩
theorem zc23 : ∀ (hp : Heap) (O : Nat → Prop) (i : Nat) (A : AV) (u : Value), ([aInt 0, aInt 0, aEx (.slice none 0 0)] : List AV)[i]? = some A → ([.int .i64 0, .int .i64 0, .slice none 0 0] : List Value)[i]? = some u → A.holds hp O u ∧ u.oneCell' = true := zc_of az23
theorem st23 : StructTy Try.prog 23 #[{ name := "P", type := 3, offset := 0, embedded := false, tag := "", pkgPath := "", byteOffset := 0 }, { name := "M", type := 3, offset := 1, embedded := false, tag := "", pkgPath := "", byteOffset := 8 }, { name := "Mod", type := 22, offset := 2, embedded := false, tag := "", pkgPath := "", byteOffset := 16 }] [(0, 1), (1, 1), (2, 1)] [.int .i64 0, .int .i64 0, .slice none 0 0] := ⟨Try.runUnderlying23, fun w => by simp [Try.sizeOf22, Try.sizeOf3], Try.zeroValue23⟩
theorem z23 : ∀ hp O, CellsHold hp O [aInt 0, aInt 0, aEx (.slice none 0 0)] [.int .i64 0, .int .i64 0, .slice none 0 0] := z_of az23
theorem zagg23 (hp : Heap) (O : Nat → Prop) : (aAgg [aInt 0, aInt 0, aEx (.slice none 0 0)]).holds hp O (mkV true [.int .i64 0, .int .i64 0, .slice none 0 0]) := zagg_of az23 hp O
theorem ti24 : TyInfo Try.prog 24 3 true := ⟨Try.isAgg24, Try.sizeOf24⟩
theorem zv24 : ∀ w, (zeroValue 24).run Try.prog w = .ok (.agg #[.int .i64 0, .int .i64 0, .slice none 0 0]) w := Try.zeroValue24
theorem az24 : AllZ [aInt 0, aInt 0, aEx (.slice none 0 0)] [.int .i64 0, .int .i64 0, .slice none 0 0] := ⟨fun _ _ => rfl, rfl, fun _ _ => rfl, rfl, fun _ _ => rfl, rfl, trivial⟩
theorem zc24 : ∀ (hp : Heap) (O : Nat → Prop) (i : Nat) (A : AV) (u : Value), ([aInt 0, aInt 0, aEx (.slice none 0 0)] : List AV)[i]? = some A → ([.int .i64 0, .int .i64 0, .slice none 0 0] : List Value)[i]? = some u → A.holds hp O u ∧ u.oneCell' = true := zc_of az24
theorem st24 : StructTy Try.prog 24 #[{ name := "P", type := 3, offset := 0, embedded := false, tag := "", pkgPath := "", byteOffset := 0 }, { name := "M", type := 3, offset := 1, embedded := false, tag := "", pkgPath := "", byteOffset := 8 }, { name := "Mod", type := 22, offset := 2, embedded := false, tag := "", pkgPath := "", byteOffset := 16 }] [(0, 1), (1, 1), (2, 1)] [.int .i64 0, .int .i64 0, .slice none 0 0] := ⟨Try.runUnderlying24, fun w => by simp [Try.sizeOf22, Try.sizeOf3], Try.zeroValue24⟩
theorem z24 : ∀ hp O, CellsHold hp O [aInt 0, aInt 0, aEx (.slice none 0 0)] [.int .i64 0, .int .i64 0, .slice none 0 0] := z_of az24
theorem zagg24 (hp : Heap) (O : Nat → Prop) : (aAgg [aInt 0, aInt 0, aEx (.slice none 0 0)]).holds hp O (mkV true [.int .i64 0, .int .i64 0, .slice none 0 0]) := zagg_of az24 hp O
theorem ti25 : TyInfo Try.prog 25 1 false := ⟨Try.isAgg25, Try.sizeOf25⟩
theorem zv25 : ∀ w, (zeroValue 25).run Try.prog w = .ok (.slice none 0 0) w := Try.zeroValue25
theorem az25 : AllZ [aEx (.slice none 0 0)] [.slice none 0 0] := ⟨fun _ _ => rfl, rfl, trivial⟩
theorem zc25 : ∀ (hp : Heap) (O : Nat → Prop) (i : Nat) (A : AV) (u : Value), ([aEx (.slice none 0 0)] : List AV)[i]? = some A → ([.slice none 0 0] : List Value)[i]? = some u → A.holds hp O u ∧ u.oneCell' = true := zc_of az25
theorem sl25 : SlInfo Try.prog 25 42 1 := ⟨Try.runUnderlying25, Try.sizeOf42⟩
theorem vt25 : VecTy Try.prog 25 42 1 24 false (.slice none 0 0) := vecTy_of Try.underlying25 (by kernel_rfl) rfl (by decide) (fun _ => rfl) Try.isAgg42
theorem ti26 : TyInfo Try.prog 26 4 true := ⟨Try.isAgg26, Try.sizeOf26⟩
theorem zv26 : ∀ w, (zeroValue 26).run Try.prog w = .ok (.agg #[.int .i64 0, .int .i64 0, .slice none 0 0, .slice none 0 0]) w := Try.zeroValue26
theorem az26 : AllZ [aInt 0, aInt 0, aEx (.slice none 0 0), aEx (.slice none 0 0)] [.int .i64 0, .int .i64 0, .slice none 0 0, .slice none 0 0] := ⟨fun _ _ => rfl, rfl, fun _ _ => rfl, rfl, fun _ _ => rfl, rfl, fun _ _ => rfl, rfl, trivial⟩
theorem zc26 : ∀ (hp : Heap) (O : Nat → Prop) (i : Nat) (A : AV) (u : Value), ([aInt 0, aInt 0, aEx (.slice none 0 0), aEx (.slice none 0 0)] : List AV)[i]? = some A → ([.int .i64 0, .int .i64 0, .slice none 0 0, .slice none 0 0] : List Value)[i]? = some u → A.holds hp O u ∧ u.oneCell' = true := zc_of az26
theorem st26 : StructTy Try.prog 26 #[{ name := "F", type := 24, offset := 0, embedded := false, tag := "", pkgPath := "", byteOffset := 0 }, { name := "Gen", type := 25, offset := 3, embedded := false, tag := "", pkgPath := "", byteOffset := 40 }] [(0, 3), (3, 1)] [.int .i64 0, .int .i64 0, .slice none 0 0, .slice none 0 0] := ⟨Try.runUnderlying26, fun w => by simp [Try.sizeOf24, Try.sizeOf25], Try.zeroValue26⟩
theorem z26 : ∀ hp O, CellsHold hp O [aInt 0, aInt 0, aEx (.slice none 0 0), aEx (.slice none 0 0)] [.int .i64 0, .int .i64 0, .slice none 0 0, .slice none 0 0] := z_of az26
theorem zagg26 (hp : Heap) (O : Nat → Prop) : (aAgg [aInt 0, aInt 0, aEx (.slice none 0 0), aEx (.slice none 0 0)]).holds hp O (mkV true [.int .i64 0, .int .i64 0, .slice none 0 0, .slice none 0 0]) := zagg_of az26 hp O
theorem ti27 : TyInfo Try.prog 27 4 true := ⟨Try.isAgg27, Try.sizeOf27⟩
theorem zv27 : ∀ w, (zeroValue 27).run Try.prog w = .ok (.agg #[.int .i64 0, .int .i64 0, .slice none 0 0, .slice none 0 0]) w := Try.zeroValue27
theorem az27 : AllZ [aInt 0, aInt 0, aEx (.slice none 0 0), aEx (.slice none 0 0)] [.int .i64 0, .int .i64 0, .slice none 0 0, .slice none 0 0] := ⟨fun _ _ => rfl, rfl, fun _ _ => rfl, rfl, fun _ _ => rfl, rfl, fun _ _ => rfl, rfl, trivial⟩
theorem zc27 : ∀ (hp : Heap) (O : Nat → Prop) (i : Nat) (A : AV) (u : Value), ([aInt 0, aInt 0, aEx (.slice none 0 0), aEx (.slice none 0 0)] : List AV)[i]? = some A → ([.int .i64 0, .int .i64 0, .slice none 0 0, .slice none 0 0] : List Value)[i]? = some u → A.holds hp O u ∧ u.oneCell' = true := zc_of az27
theorem st27 : StructTy Try.prog 27 #[{ name := "F", type := 24, offset := 0, embedded := false, tag := "", pkgPath := "", byteOffset := 0 }, { name := "Gen", type := 25, offset := 3, embedded := false, tag := "", pkgPath := "", byteOffset := 40 }] [(0, 3), (3, 1)] [.int .i64 0, .int .i64 0, .slice none 0 0, .slice none 0 0] := ⟨Try.runUnderlying27, fun w => by simp [Try.sizeOf24, Try.sizeOf25], Try.zeroValue27⟩
theorem z27 : ∀ hp O, CellsHold hp O [aInt 0, aInt 0, aEx (.slice none 0 0), aEx (.slice none 0 0)] [.int .i64 0, .int .i64 0, .slice none 0 0, .slice none 0 0] := z_of az27
theorem zagg27 (hp : Heap) (O : Nat → Prop) : (aAgg [aInt 0, aInt 0, aEx (.slice none 0 0), aEx (.slice none 0 0)]).holds hp O (mkV true [.int .i64 0, .int .i64 0, .slice none 0 0, .slice none 0 0]) := zagg_of az27 hp O
theorem ti29 : TyInfo Try.prog 29 1 false := ⟨Try.isAgg29, Try.sizeOf29⟩
theorem zv29 : ∀ w, (zeroValue 29).run Try.prog w = .ok (.int .i64 0) w := Try.zeroValue29
theorem az29 : AllZ [aInt 0] [.int .i64 0] := ⟨fun _ _ => rfl, rfl, trivial⟩
theorem zc29 : ∀ (hp : Heap) (O : Nat → Prop) (i : Nat) (A : AV) (u : Value), ([aInt 0] : List AV)[i]? = some A → ([.int .i64 0] : List Value)[i]? = some u → A.holds hp O u ∧ u.oneCell' = true := zc_of az29
theorem ti42 : TyInfo Try.prog 42 1 false := ⟨Try.isAgg42, Try.sizeOf42⟩
theorem zv42 : ∀ w, (zeroValue 42).run Try.prog w = .ok (.slice none 0 0) w := Try.zeroValue42
theorem az42 : AllZ [aEx (.slice none 0 0)] [.slice none 0 0] := ⟨fun _ _ => rfl, rfl, trivial⟩
theorem zc42 : ∀ (hp : Heap) (O : Nat → Prop) (i : Nat) (A : AV) (u : Value), ([aEx (.slice none 0 0)] : List AV)[i]? = some A → ([.slice none 0 0] : List Value)[i]? = some u → A.holds hp O u ∧ u.oneCell' = true := zc_of az42
theorem sl42 : SlInfo Try.prog 42 22 1 := ⟨Try.runUnderlying42, Try.sizeOf22⟩
theorem vt42 : VecTy Try.prog 42 22 1 24 false (.slice none 0 0) := vecTy_of Try.underlying42 (by kernel_rfl) rfl (by decide) (fun _ => rfl) Try.isAgg22
theorem ti54 : TyInfo Try.prog 54 3 true := ⟨Try.isAgg54, Try.sizeOf54⟩
theorem zv54 : ∀ w, (zeroValue 54).run Try.prog w = .ok (.agg #[.int .i64 0, .slice none 0 0, .slice none 0 0]) w := Try.zeroValue54
theorem az54 : AllZ [aInt 0, aEx (.slice none 0 0), aEx (.slice none 0 0)] [.int .i64 0, .slice none 0 0, .slice none 0 0] := ⟨fun _ _ => rfl, rfl, fun _ _ => rfl, rfl, fun _ _ => rfl, rfl, trivial⟩
theorem zc54 : ∀ (hp : Heap) (O : Nat → Prop) (i : Nat) (A : AV) (u : Value), ([aInt 0, aEx (.slice none 0 0), aEx (.slice none 0 0)] : List AV)[i]? = some A → ([.int .i64 0, .slice none 0 0, .slice none 0 0] : List Value)[i]? = some u → A.holds hp O u ∧ u.oneCell' = true := zc_of az54
theorem st54 : StructTy Try.prog 54 #[{ name := "Distance", type := 3, offset := 0, embedded := false, tag := "", pkgPath := "", byteOffset := 0 }, { name := "Message", type := 42, offset := 1, embedded := false, tag := "", pkgPath := "", byteOffset := 8 }, { name := "Potential", type := 22, offset := 2, embedded := false, tag := "", pkgPath := "", byteOffset := 32 }] [(0, 1), (1, 1), (2, 1)] [.int .i64 0, .slice none 0 0, .slice none 0 0] := ⟨Try.runUnderlying54, fun w => by simp [Try.sizeOf22, Try.sizeOf3, Try.sizeOf42], Try.zeroValue54⟩
theorem z54 : ∀ hp O, CellsHold hp O [aInt 0, aEx (.slice none 0 0), aEx (.slice none 0 0)] [.int .i64 0, .slice none 0 0, .slice none 0 0] := z_of az54
theorem zagg54 (hp : Heap) (O : Nat → Prop) : (aAgg [aInt 0, aEx (.slice none 0 0), aEx (.slice none 0 0)]).holds hp O (mkV true [.int .i64 0, .slice none 0 0, .slice none 0 0]) := zagg_of az54 hp O
theorem ti55 : TyInfo Try.prog 55 3 true := ⟨Try.isAgg55, Try.sizeOf55⟩
theorem zv55 : ∀ w, (zeroValue 55).run Try.prog w = .ok (.agg #[.int .i64 0, .slice none 0 0, .slice none 0 0]) w := Try.zeroValue55
theorem az55 : AllZ [aInt 0, aEx (.slice none 0 0), aEx (.slice none 0 0)] [.int .i64 0, .slice none 0 0, .slice none 0 0] := ⟨fun _ _ => rfl, rfl, fun _ _ => rfl, rfl, fun _ _ => rfl, rfl, trivial⟩
theorem zc55 : ∀ (hp : Heap) (O : Nat → Prop) (i : Nat) (A : AV) (u : Value), ([aInt 0, aEx (.slice none 0 0), aEx (.slice none 0 0)] : List AV)[i]? = some A → ([.int .i64 0, .slice none 0 0, .slice none 0 0] : List Value)[i]? = some u → A.holds hp O u ∧ u.oneCell' = true := zc_of az55
theorem st55 : StructTy Try.prog 55 #[{ name := "Distance", type := 3, offset := 0, embedded := false, tag := "", pkgPath := "", byteOffset := 0 }, { name := "Message", type := 42, offset := 1, embedded := false, tag := "", pkgPath := "", byteOffset := 8 }, { name := "Potential", type := 22, offset := 2, embedded := false, tag := "", pkgPath := "", byteOffset := 32 }] [(0, 1), (1, 1), (2, 1)] [.int .i64 0, .slice none 0 0, .slice none 0 0] := ⟨Try.runUnderlying55, fun w => by simp [Try.sizeOf22, Try.sizeOf3, Try.sizeOf42], Try.zeroValue55⟩
theorem z55 : ∀ hp O, CellsHold hp O [aInt 0, aEx (.slice none 0 0), aEx (.slice none 0 0)] [.int .i64 0, .slice none 0 0, .slice none 0 0] := z_of az55
theorem zagg55 (hp : Heap) (O : Nat → Prop) : (aAgg [aInt 0, aEx (.slice none 0 0), aEx (.slice none 0 0)]).holds hp O (mkV true [.int .i64 0, .slice none 0 0, .slice none 0 0]) := zagg_of az55 hp O
theorem ti68 : TyInfo Try.prog 68 5 true := ⟨Try.isAgg68, Try.sizeOf68⟩
theorem zv68 : ∀ w, (zeroValue 68).run Try.prog w = .ok (.agg #[.int .i64 0, .int .i64 0, .slice none 0 0, .int .i64 0, .slice none 0 0]) w := Try.zeroValue68
theorem az68 : AllZ [aInt 0, aInt 0, aEx (.slice none 0 0), aInt 0, aEx (.slice none 0 0)] [.int .i64 0, .int .i64 0, .slice none 0 0, .int .i64 0, .slice none 0 0] := ⟨fun _ _ => rfl, rfl, fun _ _ => rfl, rfl, fun _ _ => rfl, rfl, fun _ _ => rfl, rfl, fun _ _ => rfl, rfl, trivial⟩
theorem zc68 : ∀ (hp : Heap) (O : Nat → Prop) (i : Nat) (A : AV) (u : Value), ([aInt 0, aInt 0, aEx (.slice none 0 0), aInt 0, aEx (.slice none 0 0)] : List AV)[i]? = some A → ([.int .i64 0, .int .i64 0, .slice none 0 0, .int .i64 0, .slice none 0 0] : List Value)[i]? = some u → A.holds hp O u ∧ u.oneCell' = true := zc_of az68
theorem st68 : StructTy Try.prog 68 #[{ name := "F", type := 24, offset := 0, embedded := false, tag := "", pkgPath := "", byteOffset := 0 }, { name := "N", type := 3, offset := 3, embedded := false, tag := "", pkgPath := "", byteOffset := 40 }, { name := "Gen", type := 42, offset := 4, embedded := false, tag := "", pkgPath := "", byteOffset := 48 }] [(0, 3), (3, 1), (4, 1)] [.int .i64 0, .int .i64 0, .slice none 0 0, .int .i64 0, .slice none 0 0] := ⟨Try.runUnderlying68, fun w => by simp [Try.sizeOf24, Try.sizeOf3, Try.sizeOf42], Try.zeroValue68⟩
theorem z68 : ∀ hp O, CellsHold hp O [aInt 0, aInt 0, aEx (.slice none 0 0), aInt 0, aEx (.slice none 0 0)] [.int .i64 0, .int .i64 0, .slice none 0 0, .int .i64 0, .slice none 0 0] := z_of az68
theorem zagg68 (hp : Heap) (O : Nat → Prop) : (aAgg [aInt 0, aInt 0, aEx (.slice none 0 0), aInt 0, aEx (.slice none 0 0)]).holds hp O (mkV true [.int .i64 0, .int .i64 0, .slice none 0 0, .int .i64 0, .slice none 0 0]) := zagg_of az68 hp O
theorem ti69 : TyInfo Try.prog 69 5 true := ⟨Try.isAgg69, Try.sizeOf69⟩
theorem zv69 : ∀ w, (zeroValue 69).run Try.prog w = .ok (.agg #[.int .i64 0, .int .i64 0, .slice none 0 0, .int .i64 0, .slice none 0 0]) w := Try.zeroValue69
theorem az69 : AllZ [aInt 0, aInt 0, aEx (.slice none 0 0), aInt 0, aEx (.slice none 0 0)] [.int .i64 0, .int .i64 0, .slice none 0 0, .int .i64 0, .slice none 0 0] := ⟨fun _ _ => rfl, rfl, fun _ _ => rfl, rfl, fun _ _ => rfl, rfl, fun _ _ => rfl, rfl, fun _ _ => rfl, rfl, trivial⟩
theorem zc69 : ∀ (hp : Heap) (O : Nat → Prop) (i : Nat) (A : AV) (u : Value), ([aInt 0, aInt 0, aEx (.slice none 0 0), aInt 0, aEx (.slice none 0 0)] : List AV)[i]? = some A → ([.int .i64 0, .int .i64 0, .slice none 0 0, .int .i64 0, .slice none 0 0] : List Value)[i]? = some u → A.holds hp O u ∧ u.oneCell' = true := zc_of az69
theorem st69 : StructTy Try.prog 69 #[{ name := "F", type := 24, offset := 0, embedded := false, tag := "", pkgPath := "", byteOffset := 0 }, { name := "N", type := 3, offset := 3, embedded := false, tag := "", pkgPath := "", byteOffset := 40 }, { name := "Gen", type := 42, offset := 4, embedded := false, tag := "", pkgPath := "", byteOffset := 48 }] [(0, 3), (3, 1), (4, 1)] [.int .i64 0, .int .i64 0, .slice none 0 0, .int .i64 0, .slice none 0 0] := ⟨Try.runUnderlying69, fun w => by simp [Try.sizeOf24, Try.sizeOf3, Try.sizeOf42], Try.zeroValue69⟩
theorem z69 : ∀ hp O, CellsHold hp O [aInt 0, aInt 0, aEx (.slice none 0 0), aInt 0, aEx (.slice none 0 0)] [.int .i64 0, .int .i64 0, .slice none 0 0, .int .i64 0, .slice none 0 0] := z_of az69
theorem zagg69 (hp : Heap) (O : Nat → Prop) : (aAgg [aInt 0, aInt 0, aEx (.slice none 0 0), aInt 0, aEx (.slice none 0 0)]).holds hp O (mkV true [.int .i64 0, .int .i64 0, .slice none 0 0, .int .i64 0, .slice none 0 0]) := zagg_of az69 hp O
theorem ti79 : TyInfo Try.prog 79 1 false := ⟨Try.isAgg79, Try.sizeOf79⟩
theorem ti82 : TyInfo Try.prog 82 1 false := ⟨Try.isAgg82, Try.sizeOf82⟩
theorem ti83 : TyInfo Try.prog 83 9 true := ⟨Try.isAgg83, Try.sizeOf83⟩
theorem zv83 : ∀ w, (zeroValue 83).run Try.prog w = .ok (.agg #[.pointer none, .slice none 0 0, .int .i64 0, .int .i64 0, .slice none 0 0, .int .i64 0, .int .i64 0, .int .i64 0, .slice none 0 0]) w := Try.zeroValue83
theorem az83 : AllZ [aEx (.pointer none), aEx (.slice none 0 0), aInt 0, aInt 0, aEx (.slice none 0 0), aInt 0, aInt 0, aInt 0, aEx (.slice none 0 0)] [.pointer none, .slice none 0 0, .int .i64 0, .int .i64 0, .slice none 0 0, .int .i64 0, .int .i64 0, .int .i64 0, .slice none 0 0] := ⟨fun _ _ => rfl, rfl, fun _ _ => rfl, rfl, fun _ _ => rfl, rfl, fun _ _ => rfl, rfl, fun _ _ => rfl, rfl, fun _ _ => rfl, rfl, fun _ _ => rfl, rfl, fun _ _ => rfl, rfl, fun _ _ => rfl, rfl, trivial⟩
theorem zc83 : ∀ (hp : Heap) (O : Nat → Prop) (i : Nat) (A : AV) (u : Value), ([aEx (.pointer none), aEx (.slice none 0 0), aInt 0, aInt 0, aEx (.slice none 0 0), aInt 0, aInt 0, aInt 0, aEx (.slice none 0 0)] : List AV)[i]? = some A → ([.pointer none, .slice none 0 0, .int .i64 0, .int .i64 0, .slice none 0 0, .int .i64 0, .int .i64 0, .int .i64 0, .slice none 0 0] : List Value)[i]? = some u → A.holds hp O u ∧ u.oneCell' = true := zc_of az83
theorem st83 : StructTy Try.prog 83 #[{ name := "g", type := 82, offset := 0, embedded := false, tag := "", pkgPath := "codewright/conv", byteOffset := 0 }, { name := "gen", type := 25, offset := 1, embedded := false, tag := "", pkgPath := "codewright/conv", byteOffset := 8 }, { name := "inputs", type := 3, offset := 2, embedded := false, tag := "", pkgPath := "codewright/conv", byteOffset := 32 }, { name := "outputs", type := 3, offset := 3, embedded := false, tag := "", pkgPath := "codewright/conv", byteOffset := 40 }, { name := "degrees", type := 22, offset := 4, embedded := false, tag := "", pkgPath := "codewright/conv", byteOffset := 48 }, { name := "memory", type := 3, offset := 5, embedded := false, tag := "", pkgPath := "codewright/conv", byteOffset := 72 }, { name := "order", type := 3, offset := 6, embedded := false, tag := "", pkgPath := "codewright/conv", byteOffset := 80 }, { name := "states", type := 3, offset := 7, embedded := false, tag := "", pkgPath := "codewright/conv", byteOffset := 88 }, { name := "first", type := 22, offset := 8, embedded := false, tag := "", pkgPath := "codewright/conv", byteOffset := 96 }] [(0, 1), (1, 1), (2, 1), (3, 1), (4, 1), (5, 1), (6, 1), (7, 1), (8, 1)] [.pointer none, .slice none 0 0, .int .i64 0, .int .i64 0, .slice none 0 0, .int .i64 0, .int .i64 0, .int .i64 0, .slice none 0 0] := ⟨Try.runUnderlying83, fun w => by simp [Try.sizeOf22, Try.sizeOf25, Try.sizeOf3, Try.sizeOf82], Try.zeroValue83⟩
theorem z83 : ∀ hp O, CellsHold hp O [aEx (.pointer none), aEx (.slice none 0 0), aInt 0, aInt 0, aEx (.slice none 0 0), aInt 0, aInt 0, aInt 0, aEx (.slice none 0 0)] [.pointer none, .slice none 0 0, .int .i64 0, .int .i64 0, .slice none 0 0, .int .i64 0, .int .i64 0, .int .i64 0, .slice none 0 0] := z_of az83
theorem zagg83 (hp : Heap) (O : Nat → Prop) : (aAgg [aEx (.pointer none), aEx (.slice none 0 0), aInt 0, aInt 0, aEx (.slice none 0 0), aInt 0, aInt 0, aInt 0, aEx (.slice none 0 0)]).holds hp O (mkV true [.pointer none, .slice none 0 0, .int .i64 0, .int .i64 0, .slice none 0 0, .int .i64 0, .int .i64 0, .int .i64 0, .slice none 0 0]) := zagg_of az83 hp O
theorem ti84 : TyInfo Try.prog 84 9 true := ⟨Try.isAgg84, Try.sizeOf84⟩
theorem zv84 : ∀ w, (zeroValue 84).run Try.prog w = .ok (.agg #[.pointer none, .slice none 0 0, .int .i64 0, .int .i64 0, .slice none 0 0, .int .i64 0, .int .i64 0, .int .i64 0, .slice none 0 0]) w := Try.zeroValue84
theorem az84 : AllZ [aEx (.pointer none), aEx (.slice none 0 0), aInt 0, aInt 0, aEx (.slice none 0 0), aInt 0, aInt 0, aInt 0, aEx (.slice none 0 0)] [.pointer none, .slice none 0 0, .int .i64 0, .int .i64 0, .slice none 0 0, .int .i64 0, .int .i64 0, .int .i64 0, .slice none 0 0] := ⟨fun _ _ => rfl, rfl, fun _ _ => rfl, rfl, fun _ _ => rfl, rfl, fun _ _ => rfl, rfl, fun _ _ => rfl, rfl, fun _ _ => rfl, rfl, fun _ _ => rfl, rfl, fun _ _ => rfl, rfl, fun _ _ => rfl, rfl, trivial⟩
theorem zc84 : ∀ (hp : Heap) (O : Nat → Prop) (i : Nat) (A : AV) (u : Value), ([aEx (.pointer none), aEx (.slice none 0 0), aInt 0, aInt 0, aEx (.slice none 0 0), aInt 0, aInt 0, aInt 0, aEx (.slice none 0 0)] : List AV)[i]? = some A → ([.pointer none, .slice none 0 0, .int .i64 0, .int .i64 0, .slice none 0 0, .int .i64 0, .int .i64 0, .int .i64 0, .slice none 0 0] : List Value)[i]? = some u → A.holds hp O u ∧ u.oneCell' = true := zc_of az84
theorem st84 : StructTy Try.prog 84 #[{ name := "g", type := 82, offset := 0, embedded := false, tag := "", pkgPath := "codewright/conv", byteOffset := 0 }, { name := "gen", type := 25, offset := 1, embedded := false, tag := "", pkgPath := "codewright/conv", byteOffset := 8 }, { name := "inputs", type := 3, offset := 2, embedded := false, tag := "", pkgPath := "codewright/conv", byteOffset := 32 }, { name := "outputs", type := 3, offset := 3, embedded := false, tag := "", pkgPath := "codewright/conv", byteOffset := 40 }, { name := "degrees", type := 22, offset := 4, embedded := false, tag := "", pkgPath := "codewright/conv", byteOffset := 48 }, { name := "memory", type := 3, offset := 5, embedded := false, tag := "", pkgPath := "codewright/conv", byteOffset := 72 }, { name := "order", type := 3, offset := 6, embedded := false, tag := "", pkgPath := "codewright/conv", byteOffset := 80 }, { name := "states", type := 3, offset := 7, embedded := false, tag := "", pkgPath := "codewright/conv", byteOffset := 88 }, { name := "first", type := 22, offset := 8, embedded := false, tag := "", pkgPath := "codewright/conv", byteOffset := 96 }] [(0, 1), (1, 1), (2, 1), (3, 1), (4, 1), (5, 1), (6, 1), (7, 1), (8, 1)] [.pointer none, .slice none 0 0, .int .i64 0, .int .i64 0, .slice none 0 0, .int .i64 0, .int .i64 0, .int .i64 0, .slice none 0 0] := ⟨Try.runUnderlying84, fun w => by simp [Try.sizeOf22, Try.sizeOf25, Try.sizeOf3, Try.sizeOf82], Try.zeroValue84⟩
theorem z84 : ∀ hp O, CellsHold hp O [aEx (.pointer none), aEx (.slice none 0 0), aInt 0, aInt 0, aEx (.slice none 0 0), aInt 0, aInt 0, aInt 0, aEx (.slice none 0 0)] [.pointer none, .slice none 0 0, .int .i64 0, .int .i64 0, .slice none 0 0, .int .i64 0, .int .i64 0, .int .i64 0, .slice none 0 0] := z_of az84
theorem zagg84 (hp : Heap) (O : Nat → Prop) : (aAgg [aEx (.pointer none), aEx (.slice none 0 0), aInt 0, aInt 0, aEx (.slice none 0 0), aInt 0, aInt 0, aInt 0, aEx (.slice none 0 0)]).holds hp O (mkV true [.pointer none, .slice none 0 0, .int .i64 0, .int .i64 0, .slice none 0 0, .int .i64 0, .int .i64 0, .int .i64 0, .slice none 0 0]) := zagg_of az84 hp O
theorem ti95 : TyInfo Try.prog 95 3 true := ⟨Try.isAgg95, Try.sizeOf95⟩
theorem zv95 : ∀ w, (zeroValue 95).run Try.prog w = .ok (.agg #[.int .i64 0, .slice none 0 0, .slice none 0 0]) w := Try.zeroValue95
theorem az95 : AllZ [aInt 0, aEx (.slice none 0 0), aEx (.slice none 0 0)] [.int .i64 0, .slice none 0 0, .slice none 0 0] := ⟨fun _ _ => rfl, rfl, fun _ _ => rfl, rfl, fun _ _ => rfl, rfl, trivial⟩
theorem zc95 : ∀ (hp : Heap) (O : Nat → Prop) (i : Nat) (A : AV) (u : Value), ([aInt 0, aEx (.slice none 0 0), aEx (.slice none 0 0)] : List AV)[i]? = some A → ([.int .i64 0, .slice none 0 0, .slice none 0 0] : List Value)[i]? = some u → A.holds hp O u ∧ u.oneCell' = true := zc_of az95
theorem st95 : StructTy Try.prog 95 #[{ name := "inputs", type := 3, offset := 0, embedded := false, tag := "", pkgPath := "codewright/conv", byteOffset := 0 }, { name := "next", type := 22, offset := 1, embedded := false, tag := "", pkgPath := "codewright/conv", byteOffset := 8 }, { name := "weight", type := 22, offset := 2, embedded := false, tag := "", pkgPath := "codewright/conv", byteOffset := 32 }] [(0, 1), (1, 1), (2, 1)] [.int .i64 0, .slice none 0 0, .slice none 0 0] := ⟨Try.runUnderlying95, fun w => by simp [Try.sizeOf22, Try.sizeOf3], Try.zeroValue95⟩
theorem z95 : ∀ hp O, CellsHold hp O [aInt 0, aEx (.slice none 0 0), aEx (.slice none 0 0)] [.int .i64 0, .slice none 0 0, .slice none 0 0] := z_of az95
theorem zagg95 (hp : Heap) (O : Nat → Prop) : (aAgg [aInt 0, aEx (.slice none 0 0), aEx (.slice none 0 0)]).holds hp O (mkV true [.int .i64 0, .slice none 0 0, .slice none 0 0]) := zagg_of az95 hp O
theorem ti96 : TyInfo Try.prog 96 3 true := ⟨Try.isAgg96, Try.sizeOf96⟩
theorem zv96 : ∀ w, (zeroValue 96).run Try.prog w = .ok (.agg #[.int .i64 0, .slice none 0 0, .slice none 0 0]) w := Try.zeroValue96
theorem az96 : AllZ [aInt 0, aEx (.slice none 0 0), aEx (.slice none 0 0)] [.int .i64 0, .slice none 0 0, .slice none 0 0] := ⟨fun _ _ => rfl, rfl, fun _ _ => rfl, rfl, fun _ _ => rfl, rfl, trivial⟩
theorem zc96 : ∀ (hp : Heap) (O : Nat → Prop) (i : Nat) (A : AV) (u : Value), ([aInt 0, aEx (.slice none 0 0), aEx (.slice none 0 0)] : List AV)[i]? = some A → ([.int .i64 0, .slice none 0 0, .slice none 0 0] : List Value)[i]? = some u → A.holds hp O u ∧ u.oneCell' = true := zc_of az96
theorem st96 : StructTy Try.prog 96 #[{ name := "inputs", type := 3, offset := 0, embedded := false, tag := "", pkgPath := "codewright/conv", byteOffset := 0 }, { name := "next", type := 22, offset := 1, embedded := false, tag := "", pkgPath := "codewright/conv", byteOffset := 8 }, { name := "weight", type := 22, offset := 2, embedded := false, tag := "", pkgPath := "codewright/conv", byteOffset := 32 }] [(0, 1), (1, 1), (2, 1)] [.int .i64 0, .slice none 0 0, .slice none 0 0] := ⟨Try.runUnderlying96, fun w => by simp [Try.sizeOf22, Try.sizeOf3], Try.zeroValue96⟩
theorem z96 : ∀ hp O, CellsHold hp O [aInt 0, aEx (.slice none 0 0), aEx (.slice none 0 0)] [.int .i64 0, .slice none 0 0, .slice none 0 0] := z_of az96
theorem zagg96 (hp : Heap) (O : Nat → Prop) : (aAgg [aInt 0, aEx (.slice none 0 0), aEx (.slice none 0 0)]).holds hp O (mkV true [.int .i64 0, .slice none 0 0, .slice none 0 0]) := zagg_of az96 hp O
theorem ti102 : TyInfo Try.prog 102 1 false := ⟨Try.isAgg102, Try.sizeOf102⟩
theorem zv102 : ∀ w, (zeroValue 102).run Try.prog w = .ok (.slice none 0 0) w := Try.zeroValue102
theorem az102 : AllZ [aEx (.slice none 0 0)] [.slice none 0 0] := ⟨fun _ _ => rfl, rfl, trivial⟩
theorem zc102 : ∀ (hp : Heap) (O : Nat → Prop) (i : Nat) (A : AV) (u : Value), ([aEx (.slice none 0 0)] : List AV)[i]? = some A → ([.slice none 0 0] : List Value)[i]? = some u → A.holds hp O u ∧ u.oneCell' = true := zc_of az102
theorem sl102 : SlInfo Try.prog 102 4 1 := ⟨Try.runUnderlying102, Try.sizeOf4⟩
theorem vt102 : VecTy Try.prog 102 4 1 1 false (.bool false) := vecTy_of Try.underlying102 (by kernel_rfl) rfl (by decide) (fun _ => rfl) Try.isAgg4
theorem ti119 : TyInfo Try.prog 119 2 true := ⟨Try.isAgg119, Try.sizeOf119⟩
theorem zv119 : ∀ w, (zeroValue 119).run Try.prog w = .ok (.agg #[.int .i64 0, .slice none 0 0]) w := Try.zeroValue119
theorem az119 : AllZ [aInt 0, aEx (.slice none 0 0)] [.int .i64 0, .slice none 0 0] := ⟨fun _ _ => rfl, rfl, fun _ _ => rfl, rfl, trivial⟩
theorem zc119 : ∀ (hp : Heap) (O : Nat → Prop) (i : Nat) (A : AV) (u : Value), ([aInt 0, aEx (.slice none 0 0)] : List AV)[i]? = some A → ([.int .i64 0, .slice none 0 0] : List Value)[i]? = some u → A.holds hp O u ∧ u.oneCell' = true := zc_of az119
theorem st119 : StructTy Try.prog 119 #[{ name := "Cols", type := 3, offset := 0, embedded := false, tag := "", pkgPath := "", byteOffset := 0 }, { name := "Rows", type := 42, offset := 1, embedded := false, tag := "", pkgPath := "", byteOffset := 8 }] [(0, 1), (1, 1)] [.int .i64 0, .slice none 0 0] := ⟨Try.runUnderlying119, fun w => by simp [Try.sizeOf3, Try.sizeOf42], Try.zeroValue119⟩
theorem z119 : ∀ hp O, CellsHold hp O [aInt 0, aEx (.slice none 0 0)] [.int .i64 0, .slice none 0 0] := z_of az119
theorem zagg119 (hp : Heap) (O : Nat → Prop) : (aAgg [aInt 0, aEx (.slice none 0 0)]).holds hp O (mkV true [.int .i64 0, .slice none 0 0]) := zagg_of az119 hp O
theorem ti120 : TyInfo Try.prog 120 2 true := ⟨Try.isAgg120, Try.sizeOf120⟩
theorem zv120 : ∀ w, (zeroValue 120).run Try.prog w = .ok (.agg #[.int .i64 0, .slice none 0 0]) w := Try.zeroValue120
theorem az120 : AllZ [aInt 0, aEx (.slice none 0 0)] [.int .i64 0, .slice none 0 0] := ⟨fun _ _ => rfl, rfl, fun _ _ => rfl, rfl, trivial⟩
theorem zc120 : ∀ (hp : Heap) (O : Nat → Prop) (i : Nat) (A : AV) (u : Value), ([aInt 0, aEx (.slice none 0 0)] : List AV)[i]? = some A → ([.int .i64 0, .slice none 0 0] : List Value)[i]? = some u → A.holds hp O u ∧ u.oneCell' = true := zc_of az120
theorem st120 : StructTy Try.prog 120 #[{ name := "Cols", type := 3, offset := 0, embedded := false, tag := "", pkgPath := "", byteOffset := 0 }, { name := "Rows", type := 42, offset := 1, embedded := false, tag := "", pkgPath := "", byteOffset := 8 }] [(0, 1), (1, 1)] [.int .i64 0, .slice none 0 0] := ⟨Try.runUnderlying120, fun w => by simp [Try.sizeOf3, Try.sizeOf42], Try.zeroValue120⟩
theorem z120 : ∀ hp O, CellsHold hp O [aInt 0, aEx (.slice none 0 0)] [.int .i64 0, .slice none 0 0] := z_of az120
theorem zagg120 (hp : Heap) (O : Nat → Prop) : (aAgg [aInt 0, aEx (.slice none 0 0)]).holds hp O (mkV true [.int .i64 0, .slice none 0 0]) := zagg_of az120 hp O
theorem ti142 : TyInfo Try.prog 142 6 true := ⟨Try.isAgg142, Try.sizeOf142⟩
theorem zv142 : ∀ w, (zeroValue 142).run Try.prog w = .ok (.agg #[.int .i64 0, .int .i64 0, .slice none 0 0, .int .i64 0, .slice none 0 0, .slice none 0 0]) w := Try.zeroValue142
theorem az142 : AllZ [aInt 0, aInt 0, aEx (.slice none 0 0), aInt 0, aEx (.slice none 0 0), aEx (.slice none 0 0)] [.int .i64 0, .int .i64 0, .slice none 0 0, .int .i64 0, .slice none 0 0, .slice none 0 0] := ⟨fun _ _ => rfl, rfl, fun _ _ => rfl, rfl, fun _ _ => rfl, rfl, fun _ _ => rfl, rfl, fun _ _ => rfl, rfl, fun _ _ => rfl, rfl, trivial⟩
theorem zc142 : ∀ (hp : Heap) (O : Nat → Prop) (i : Nat) (A : AV) (u : Value), ([aInt 0, aInt 0, aEx (.slice none 0 0), aInt 0, aEx (.slice none 0 0), aEx (.slice none 0 0)] : List AV)[i]? = some A → ([.int .i64 0, .int .i64 0, .slice none 0 0, .int .i64 0, .slice none 0 0, .slice none 0 0] : List Value)[i]? = some u → A.holds hp O u ∧ u.oneCell' = true := zc_of az142
theorem st142 : StructTy Try.prog 142 #[{ name := "f", type := 24, offset := 0, embedded := false, tag := "", pkgPath := "codewright/field", byteOffset := 0 }, { name := "q", type := 3, offset := 3, embedded := false, tag := "", pkgPath := "codewright/field", byteOffset := 40 }, { name := "exp", type := 22, offset := 4, embedded := false, tag := "", pkgPath := "codewright/field", byteOffset := 48 }, { name := "log", type := 22, offset := 5, embedded := false, tag := "", pkgPath := "codewright/field", byteOffset := 72 }] [(0, 3), (3, 1), (4, 1), (5, 1)] [.int .i64 0, .int .i64 0, .slice none 0 0, .int .i64 0, .slice none 0 0, .slice none 0 0] := ⟨Try.runUnderlying142, fun w => by simp [Try.sizeOf22, Try.sizeOf24, Try.sizeOf3], Try.zeroValue142⟩
theorem z142 : ∀ hp O, CellsHold hp O [aInt 0, aInt 0, aEx (.slice none 0 0), aInt 0, aEx (.slice none 0 0), aEx (.slice none 0 0)] [.int .i64 0, .int .i64 0, .slice none 0 0, .int .i64 0, .slice none 0 0, .slice none 0 0] := z_of az142
theorem zagg142 (hp : Heap) (O : Nat → Prop) : (aAgg [aInt 0, aInt 0, aEx (.slice none 0 0), aInt 0, aEx (.slice none 0 0), aEx (.slice none 0 0)]).holds hp O (mkV true [.int .i64 0, .int .i64 0, .slice none 0 0, .int .i64 0, .slice none 0 0, .slice none 0 0]) := zagg_of az142 hp O
theorem ti143 : TyInfo Try.prog 143 6 true := ⟨Try.isAgg143, Try.sizeOf143⟩
theorem zv143 : ∀ w, (zeroValue 143).run Try.prog w = .ok (.agg #[.int .i64 0, .int .i64 0, .slice none 0 0, .int .i64 0, .slice none 0 0, .slice none 0 0]) w := Try.zeroValue143
theorem az143 : AllZ [aInt 0, aInt 0, aEx (.slice none 0 0), aInt 0, aEx (.slice none 0 0), aEx (.slice none 0 0)] [.int .i64 0, .int .i64 0, .slice none 0 0, .int .i64 0, .slice none 0 0, .slice none 0 0] := ⟨fun _ _ => rfl, rfl, fun _ _ => rfl, rfl, fun _ _ => rfl, rfl, fun _ _ => rfl, rfl, fun _ _ => rfl, rfl, fun _ _ => rfl, rfl, trivial⟩
theorem zc143 : ∀ (hp : Heap) (O : Nat → Prop) (i : Nat) (A : AV) (u : Value), ([aInt 0, aInt 0, aEx (.slice none 0 0), aInt 0, aEx (.slice none 0 0), aEx (.slice none 0 0)] : List AV)[i]? = some A → ([.int .i64 0, .int .i64 0, .slice none 0 0, .int .i64 0, .slice none 0 0, .slice none 0 0] : List Value)[i]? = some u → A.holds hp O u ∧ u.oneCell' = true := zc_of az143
theorem st143 : StructTy Try.prog 143 #[{ name := "f", type := 24, offset := 0, embedded := false, tag := "", pkgPath := "codewright/field", byteOffset := 0 }, { name := "q", type := 3, offset := 3, embedded := false, tag := "", pkgPath := "codewright/field", byteOffset := 40 }, { name := "exp", type := 22, offset := 4, embedded := false, tag := "", pkgPath := "codewright/field", byteOffset := 48 }, { name := "log", type := 22, offset := 5, embedded := false, tag := "", pkgPath := "codewright/field", byteOffset := 72 }] [(0, 3), (3, 1), (4, 1), (5, 1)] [.int .i64 0, .int .i64 0, .slice none 0 0, .int .i64 0, .slice none 0 0, .slice none 0 0] := ⟨Try.runUnderlying143, fun w => by simp [Try.sizeOf22, Try.sizeOf24, Try.sizeOf3], Try.zeroValue143⟩
theorem z143 : ∀ hp O, CellsHold hp O [aInt 0, aInt 0, aEx (.slice none 0 0), aInt 0, aEx (.slice none 0 0), aEx (.slice none 0 0)] [.int .i64 0, .int .i64 0, .slice none 0 0, .int .i64 0, .slice none 0 0, .slice none 0 0] := z_of az143
theorem zagg143 (hp : Heap) (O : Nat → Prop) : (aAgg [aInt 0, aInt 0, aEx (.slice none 0 0), aInt 0, aEx (.slice none 0 0), aEx (.slice none 0 0)]).holds hp O (mkV true [.int .i64 0, .int .i64 0, .slice none 0 0, .int .i64 0, .slice none 0 0, .slice none 0 0]) := zagg_of az143 hp O
theorem ti169 : TyInfo Try.prog 169 1 false := ⟨Try.isAgg169, Try.sizeOf169⟩
theorem zv169 : ∀ w, (zeroValue 169).run Try.prog w = .ok (.slice none 0 0) w := Try.zeroValue169
theorem az169 : AllZ [aEx (.slice none 0 0)] [.slice none 0 0] := ⟨fun _ _ => rfl, rfl, trivial⟩
theorem zc169 : ∀ (hp : Heap) (O : Nat → Prop) (i : Nat) (A : AV) (u : Value), ([aEx (.slice none 0 0)] : List AV)[i]? = some A → ([.slice none 0 0] : List Value)[i]? = some u → A.holds hp O u ∧ u.oneCell' = true := zc_of az169
theorem sl169 : SlInfo Try.prog 169 120 2 := ⟨Try.runUnderlying169, Try.sizeOf120⟩
theorem vt169 : VecTy Try.prog 169 120 2 32 true (.agg #[.int .i64 0, .slice none 0 0]) := vecTy_of Try.underlying169 (by kernel_rfl) rfl (by decide) (fun h => by cases h) Try.isAgg120
theorem ti178 : TyInfo Try.prog 178 4 true := ⟨Try.isAgg178, Try.sizeOf178⟩
theorem ti179 : TyInfo Try.prog 179 4 true := ⟨Try.isAgg179, Try.sizeOf179⟩
theorem ti183 : TyInfo Try.prog 183 1 false := ⟨Try.isAgg183, Try.sizeOf183⟩
theorem ti184 : TyInfo Try.prog 184 1 false := ⟨Try.isAgg184, Try.sizeOf184⟩
theorem ti185 : TyInfo Try.prog 185 1 false := ⟨Try.isAgg185, Try.sizeOf185⟩
theorem ti187 : TyInfo Try.prog 187 1 false := ⟨Try.isAgg187, Try.sizeOf187⟩
theorem ti188 : TyInfo Try.prog 188 1 false := ⟨Try.isAgg188, Try.sizeOf188⟩
theorem ti189 : TyInfo Try.prog 189 1 false := ⟨Try.isAgg189, Try.sizeOf189⟩
theorem ti190 : TyInfo Try.prog 190 11 true := ⟨Try.isAgg190, Try.sizeOf190⟩
theorem ti191 : TyInfo Try.prog 191 11 true := ⟨Try.isAgg191, Try.sizeOf191⟩
end Go.Proofs.Ytfjhbdfgbpcchaa
