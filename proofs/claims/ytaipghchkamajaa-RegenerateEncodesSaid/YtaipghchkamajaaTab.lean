/-
  Walks of functions of the program and the reference.
-/
import Derived.Test.YtaipghchkamajaaProg
import Derived.KernelRfl
import Derived.Test.YtaipghchkamajaaCxLib
open Go Go.Cw
namespace Go.Proofs.Ytaipghchkamajaa
set_option maxRecDepth 100000
theorem mixed : Try.prog.follows .mixedOrders = true := by kernel_rfl
theorem ti2 : TyInfo Try.prog 2 1 false := ⟨Try.isAgg2, Try.sizeOf2⟩
theorem zv2 : ∀ w, (zeroValue 2).run Try.prog w = .ok (.int .i64 0) w := Try.zeroValue2
theorem az2 : AllZ [aInt 0] [.int .i64 0] := ⟨fun _ _ => rfl, rfl, trivial⟩
theorem zc2 : ∀ (hp : Heap) (O : Nat → Prop) (i : Nat) (A : AV) (u : Value), ([aInt 0] : List AV)[i]? = some A → ([.int .i64 0] : List Value)[i]? = some u → A.holds hp O u ∧ u.oneCell' = true := zc_of az2
theorem ti3 : TyInfo Try.prog 3 1 false := ⟨Try.isAgg3, Try.sizeOf3⟩
theorem zv3 : ∀ w, (zeroValue 3).run Try.prog w = .ok (.int .i64 0) w := Try.zeroValue3
theorem az3 : AllZ [aInt 0] [.int .i64 0] := ⟨fun _ _ => rfl, rfl, trivial⟩
theorem zc3 : ∀ (hp : Heap) (O : Nat → Prop) (i : Nat) (A : AV) (u : Value), ([aInt 0] : List AV)[i]? = some A → ([.int .i64 0] : List Value)[i]? = some u → A.holds hp O u ∧ u.oneCell' = true := zc_of az3
theorem ti4 : TyInfo Try.prog 4 1 false := ⟨Try.isAgg4, Try.sizeOf4⟩
theorem zv4 : ∀ w, (zeroValue 4).run Try.prog w = .ok (.bool false) w := Try.zeroValue4
theorem az4 : AllZ [aBool false] [.bool false] := ⟨fun _ _ => rfl, rfl, trivial⟩
theorem zc4 : ∀ (hp : Heap) (O : Nat → Prop) (i : Nat) (A : AV) (u : Value), ([aBool false] : List AV)[i]? = some A → ([.bool false] : List Value)[i]? = some u → A.holds hp O u ∧ u.oneCell' = true := zc_of az4
theorem ti5 : TyInfo Try.prog 5 1 false := ⟨Try.isAgg5, Try.sizeOf5⟩
theorem ti6 : TyInfo Try.prog 6 1 false := ⟨Try.isAgg6, Try.sizeOf6⟩
theorem ti7 : TyInfo Try.prog 7 4 true := ⟨Try.isAgg7, Try.sizeOf7⟩
theorem ti8 : TyInfo Try.prog 8 4 true := ⟨Try.isAgg8, Try.sizeOf8⟩
theorem ti12 : TyInfo Try.prog 12 1 false := ⟨Try.isAgg12, Try.sizeOf12⟩
theorem ti13 : TyInfo Try.prog 13 2 true := ⟨Try.isAgg13, Try.sizeOf13⟩
theorem ti14 : TyInfo Try.prog 14 2 true := ⟨Try.isAgg14, Try.sizeOf14⟩
theorem ti15 : TyInfo Try.prog 15 1 false := ⟨Try.isAgg15, Try.sizeOf15⟩
theorem ti16 : TyInfo Try.prog 16 1 false := ⟨Try.isAgg16, Try.sizeOf16⟩
theorem ti17 : TyInfo Try.prog 17 1 false := ⟨Try.isAgg17, Try.sizeOf17⟩
theorem ti18 : TyInfo Try.prog 18 1 true := ⟨Try.isAgg18, Try.sizeOf18⟩
theorem zv18 : ∀ w, (zeroValue 18).run Try.prog w = .ok (.agg #[.pointer none]) w := Try.zeroValue18
theorem az18 : AllZ [aEx (.pointer none)] [.pointer none] := ⟨fun _ _ => rfl, rfl, trivial⟩
theorem zc18 : ∀ (hp : Heap) (O : Nat → Prop) (i : Nat) (A : AV) (u : Value), ([aEx (.pointer none)] : List AV)[i]? = some A → ([.pointer none] : List Value)[i]? = some u → A.holds hp O u ∧ u.oneCell' = true := zc_of az18
theorem st18 : StructTy Try.prog 18 #[{ name := "typ", type := 17, offset := 0, embedded := false, tag := "", pkgPath := "internal/runtime/maps", byteOffset := 0 }] [(0, 1)] [.pointer none] := ⟨Try.runUnderlying18, fun w => by simp [Try.sizeOf17], Try.zeroValue18⟩
theorem z18 : ∀ hp O, CellsHold hp O [aEx (.pointer none)] [.pointer none] := z_of az18
theorem zagg18 (hp : Heap) (O : Nat → Prop) : (aAgg [aEx (.pointer none)]).holds hp O (mkV true [.pointer none]) := zagg_of az18 hp O
theorem ti19 : TyInfo Try.prog 19 1 true := ⟨Try.isAgg19, Try.sizeOf19⟩
theorem zv19 : ∀ w, (zeroValue 19).run Try.prog w = .ok (.agg #[.pointer none]) w := Try.zeroValue19
theorem az19 : AllZ [aEx (.pointer none)] [.pointer none] := ⟨fun _ _ => rfl, rfl, trivial⟩
theorem zc19 : ∀ (hp : Heap) (O : Nat → Prop) (i : Nat) (A : AV) (u : Value), ([aEx (.pointer none)] : List AV)[i]? = some A → ([.pointer none] : List Value)[i]? = some u → A.holds hp O u ∧ u.oneCell' = true := zc_of az19
theorem st19 : StructTy Try.prog 19 #[{ name := "typ", type := 17, offset := 0, embedded := false, tag := "", pkgPath := "internal/runtime/maps", byteOffset := 0 }] [(0, 1)] [.pointer none] := ⟨Try.runUnderlying19, fun w => by simp [Try.sizeOf17], Try.zeroValue19⟩
theorem z19 : ∀ hp O, CellsHold hp O [aEx (.pointer none)] [.pointer none] := z_of az19
theorem zagg19 (hp : Heap) (O : Nat → Prop) : (aAgg [aEx (.pointer none)]).holds hp O (mkV true [.pointer none]) := zagg_of az19 hp O
theorem ti21 : TyInfo Try.prog 21 1 false := ⟨Try.isAgg21, Try.sizeOf21⟩
theorem ti22 : TyInfo Try.prog 22 1 false := ⟨Try.isAgg22, Try.sizeOf22⟩
theorem zv22 : ∀ w, (zeroValue 22).run Try.prog w = .ok (.int .i64 0) w := Try.zeroValue22
theorem az22 : AllZ [aInt 0] [.int .i64 0] := ⟨fun _ _ => rfl, rfl, trivial⟩
theorem zc22 : ∀ (hp : Heap) (O : Nat → Prop) (i : Nat) (A : AV) (u : Value), ([aInt 0] : List AV)[i]? = some A → ([.int .i64 0] : List Value)[i]? = some u → A.holds hp O u ∧ u.oneCell' = true := zc_of az22
theorem ti28 : TyInfo Try.prog 28 1 false := ⟨Try.isAgg28, Try.sizeOf28⟩
theorem zv28 : ∀ w, (zeroValue 28).run Try.prog w = .ok (.slice none 0 0) w := Try.zeroValue28
theorem az28 : AllZ [aEx (.slice none 0 0)] [.slice none 0 0] := ⟨fun _ _ => rfl, rfl, trivial⟩
theorem zc28 : ∀ (hp : Heap) (O : Nat → Prop) (i : Nat) (A : AV) (u : Value), ([aEx (.slice none 0 0)] : List AV)[i]? = some A → ([.slice none 0 0] : List Value)[i]? = some u → A.holds hp O u ∧ u.oneCell' = true := zc_of az28
theorem sl28 : SlInfo Try.prog 28 40 2 := ⟨Try.runUnderlying28, Try.sizeOf40⟩
theorem vt28 : VecTy Try.prog 28 40 2 32 true (.agg #[.int .i64 0, .slice none 0 0]) := vecTy_of Try.underlying28 (by kernel_rfl) rfl (by decide) (fun h => by cases h) Try.isAgg40
theorem ti29 : TyInfo Try.prog 29 1 false := ⟨Try.isAgg29, Try.sizeOf29⟩
theorem zv29 : ∀ w, (zeroValue 29).run Try.prog w = .ok (.slice none 0 0) w := Try.zeroValue29
theorem az29 : AllZ [aEx (.slice none 0 0)] [.slice none 0 0] := ⟨fun _ _ => rfl, rfl, trivial⟩
theorem zc29 : ∀ (hp : Heap) (O : Nat → Prop) (i : Nat) (A : AV) (u : Value), ([aEx (.slice none 0 0)] : List AV)[i]? = some A → ([.slice none 0 0] : List Value)[i]? = some u → A.holds hp O u ∧ u.oneCell' = true := zc_of az29
theorem sl29 : SlInfo Try.prog 29 3 1 := ⟨Try.runUnderlying29, Try.sizeOf3⟩
theorem vt29 : VecTy Try.prog 29 3 1 8 false (.int .i64 0) := vecTy_of Try.underlying29 (by kernel_rfl) rfl (by decide) (fun _ => rfl) Try.isAgg3
theorem ti30 : TyInfo Try.prog 30 1 false := ⟨Try.isAgg30, Try.sizeOf30⟩
theorem zv30 : ∀ w, (zeroValue 30).run Try.prog w = .ok (.slice none 0 0) w := Try.zeroValue30
theorem az30 : AllZ [aEx (.slice none 0 0)] [.slice none 0 0] := ⟨fun _ _ => rfl, rfl, trivial⟩
theorem zc30 : ∀ (hp : Heap) (O : Nat → Prop) (i : Nat) (A : AV) (u : Value), ([aEx (.slice none 0 0)] : List AV)[i]? = some A → ([.slice none 0 0] : List Value)[i]? = some u → A.holds hp O u ∧ u.oneCell' = true := zc_of az30
theorem sl30 : SlInfo Try.prog 30 89 3 := ⟨Try.runUnderlying30, Try.sizeOf89⟩
theorem vt30 : VecTy Try.prog 30 89 3 24 true (.agg #[.int .i64 0, .int .i64 0, .int .i64 0]) := vecTy_of Try.underlying30 (by kernel_rfl) rfl (by decide) (fun h => by cases h) Try.isAgg89
theorem ti31 : TyInfo Try.prog 31 2 true := ⟨Try.isAgg31, Try.sizeOf31⟩
theorem zv31 : ∀ w, (zeroValue 31).run Try.prog w = .ok (.agg #[.int .i64 0, .slice none 0 0]) w := Try.zeroValue31
theorem az31 : AllZ [aInt 0, aEx (.slice none 0 0)] [.int .i64 0, .slice none 0 0] := ⟨fun _ _ => rfl, rfl, fun _ _ => rfl, rfl, trivial⟩
theorem zc31 : ∀ (hp : Heap) (O : Nat → Prop) (i : Nat) (A : AV) (u : Value), ([aInt 0, aEx (.slice none 0 0)] : List AV)[i]? = some A → ([.int .i64 0, .slice none 0 0] : List Value)[i]? = some u → A.holds hp O u ∧ u.oneCell' = true := zc_of az31
theorem st31 : StructTy Try.prog 31 #[{ name := "Vertices", type := 3, offset := 0, embedded := false, tag := "", pkgPath := "", byteOffset := 0 }, { name := "Arcs", type := 30, offset := 1, embedded := false, tag := "", pkgPath := "", byteOffset := 8 }] [(0, 1), (1, 1)] [.int .i64 0, .slice none 0 0] := ⟨Try.runUnderlying31, fun w => by simp [Try.sizeOf3, Try.sizeOf30], Try.zeroValue31⟩
theorem z31 : ∀ hp O, CellsHold hp O [aInt 0, aEx (.slice none 0 0)] [.int .i64 0, .slice none 0 0] := z_of az31
theorem zagg31 (hp : Heap) (O : Nat → Prop) : (aAgg [aInt 0, aEx (.slice none 0 0)]).holds hp O (mkV true [.int .i64 0, .slice none 0 0]) := zagg_of az31 hp O
theorem ti32 : TyInfo Try.prog 32 2 true := ⟨Try.isAgg32, Try.sizeOf32⟩
theorem zv32 : ∀ w, (zeroValue 32).run Try.prog w = .ok (.agg #[.int .i64 0, .slice none 0 0]) w := Try.zeroValue32
theorem az32 : AllZ [aInt 0, aEx (.slice none 0 0)] [.int .i64 0, .slice none 0 0] := ⟨fun _ _ => rfl, rfl, fun _ _ => rfl, rfl, trivial⟩
theorem zc32 : ∀ (hp : Heap) (O : Nat → Prop) (i : Nat) (A : AV) (u : Value), ([aInt 0, aEx (.slice none 0 0)] : List AV)[i]? = some A → ([.int .i64 0, .slice none 0 0] : List Value)[i]? = some u → A.holds hp O u ∧ u.oneCell' = true := zc_of az32
theorem st32 : StructTy Try.prog 32 #[{ name := "Vertices", type := 3, offset := 0, embedded := false, tag := "", pkgPath := "", byteOffset := 0 }, { name := "Arcs", type := 30, offset := 1, embedded := false, tag := "", pkgPath := "", byteOffset := 8 }] [(0, 1), (1, 1)] [.int .i64 0, .slice none 0 0] := ⟨Try.runUnderlying32, fun w => by simp [Try.sizeOf3, Try.sizeOf30], Try.zeroValue32⟩
theorem z32 : ∀ hp O, CellsHold hp O [aInt 0, aEx (.slice none 0 0)] [.int .i64 0, .slice none 0 0] := z_of az32
theorem zagg32 (hp : Heap) (O : Nat → Prop) : (aAgg [aInt 0, aEx (.slice none 0 0)]).holds hp O (mkV true [.int .i64 0, .slice none 0 0]) := zagg_of az32 hp O
theorem ti39 : TyInfo Try.prog 39 2 true := ⟨Try.isAgg39, Try.sizeOf39⟩
theorem zv39 : ∀ w, (zeroValue 39).run Try.prog w = .ok (.agg #[.int .i64 0, .slice none 0 0]) w := Try.zeroValue39
theorem az39 : AllZ [aInt 0, aEx (.slice none 0 0)] [.int .i64 0, .slice none 0 0] := ⟨fun _ _ => rfl, rfl, fun _ _ => rfl, rfl, trivial⟩
theorem zc39 : ∀ (hp : Heap) (O : Nat → Prop) (i : Nat) (A : AV) (u : Value), ([aInt 0, aEx (.slice none 0 0)] : List AV)[i]? = some A → ([.int .i64 0, .slice none 0 0] : List Value)[i]? = some u → A.holds hp O u ∧ u.oneCell' = true := zc_of az39
theorem st39 : StructTy Try.prog 39 #[{ name := "Node", type := 3, offset := 0, embedded := false, tag := "", pkgPath := "", byteOffset := 0 }, { name := "Helpers", type := 29, offset := 1, embedded := false, tag := "", pkgPath := "", byteOffset := 8 }] [(0, 1), (1, 1)] [.int .i64 0, .slice none 0 0] := ⟨Try.runUnderlying39, fun w => by simp [Try.sizeOf29, Try.sizeOf3], Try.zeroValue39⟩
theorem z39 : ∀ hp O, CellsHold hp O [aInt 0, aEx (.slice none 0 0)] [.int .i64 0, .slice none 0 0] := z_of az39
theorem zagg39 (hp : Heap) (O : Nat → Prop) : (aAgg [aInt 0, aEx (.slice none 0 0)]).holds hp O (mkV true [.int .i64 0, .slice none 0 0]) := zagg_of az39 hp O
theorem ti40 : TyInfo Try.prog 40 2 true := ⟨Try.isAgg40, Try.sizeOf40⟩
theorem zv40 : ∀ w, (zeroValue 40).run Try.prog w = .ok (.agg #[.int .i64 0, .slice none 0 0]) w := Try.zeroValue40
theorem az40 : AllZ [aInt 0, aEx (.slice none 0 0)] [.int .i64 0, .slice none 0 0] := ⟨fun _ _ => rfl, rfl, fun _ _ => rfl, rfl, trivial⟩
theorem zc40 : ∀ (hp : Heap) (O : Nat → Prop) (i : Nat) (A : AV) (u : Value), ([aInt 0, aEx (.slice none 0 0)] : List AV)[i]? = some A → ([.int .i64 0, .slice none 0 0] : List Value)[i]? = some u → A.holds hp O u ∧ u.oneCell' = true := zc_of az40
theorem st40 : StructTy Try.prog 40 #[{ name := "Node", type := 3, offset := 0, embedded := false, tag := "", pkgPath := "", byteOffset := 0 }, { name := "Helpers", type := 29, offset := 1, embedded := false, tag := "", pkgPath := "", byteOffset := 8 }] [(0, 1), (1, 1)] [.int .i64 0, .slice none 0 0] := ⟨Try.runUnderlying40, fun w => by simp [Try.sizeOf29, Try.sizeOf3], Try.zeroValue40⟩
theorem z40 : ∀ hp O, CellsHold hp O [aInt 0, aEx (.slice none 0 0)] [.int .i64 0, .slice none 0 0] := z_of az40
theorem zagg40 (hp : Heap) (O : Nat → Prop) : (aAgg [aInt 0, aEx (.slice none 0 0)]).holds hp O (mkV true [.int .i64 0, .slice none 0 0]) := zagg_of az40 hp O
theorem ti42 : TyInfo Try.prog 42 1 false := ⟨Try.isAgg42, Try.sizeOf42⟩
theorem zv42 : ∀ w, (zeroValue 42).run Try.prog w = .ok (.slice none 0 0) w := Try.zeroValue42
theorem az42 : AllZ [aEx (.slice none 0 0)] [.slice none 0 0] := ⟨fun _ _ => rfl, rfl, trivial⟩
theorem zc42 : ∀ (hp : Heap) (O : Nat → Prop) (i : Nat) (A : AV) (u : Value), ([aEx (.slice none 0 0)] : List AV)[i]? = some A → ([.slice none 0 0] : List Value)[i]? = some u → A.holds hp O u ∧ u.oneCell' = true := zc_of az42
theorem sl42 : SlInfo Try.prog 42 4 1 := ⟨Try.runUnderlying42, Try.sizeOf4⟩
theorem vt42 : VecTy Try.prog 42 4 1 1 false (.bool false) := vecTy_of Try.underlying42 (by kernel_rfl) rfl (by decide) (fun _ => rfl) Try.isAgg4
theorem ti43 : TyInfo Try.prog 43 3 true := ⟨Try.isAgg43, Try.sizeOf43⟩
theorem zv43 : ∀ w, (zeroValue 43).run Try.prog w = .ok (.agg #[.int .i64 0, .slice none 0 0, .slice none 0 0]) w := Try.zeroValue43
theorem az43 : AllZ [aInt 0, aEx (.slice none 0 0), aEx (.slice none 0 0)] [.int .i64 0, .slice none 0 0, .slice none 0 0] := ⟨fun _ _ => rfl, rfl, fun _ _ => rfl, rfl, fun _ _ => rfl, rfl, trivial⟩
theorem zc43 : ∀ (hp : Heap) (O : Nat → Prop) (i : Nat) (A : AV) (u : Value), ([aInt 0, aEx (.slice none 0 0), aEx (.slice none 0 0)] : List AV)[i]? = some A → ([.int .i64 0, .slice none 0 0, .slice none 0 0] : List Value)[i]? = some u → A.holds hp O u ∧ u.oneCell' = true := zc_of az43
theorem st43 : StructTy Try.prog 43 #[{ name := "Value", type := 3, offset := 0, embedded := false, tag := "", pkgPath := "", byteOffset := 0 }, { name := "Along", type := 29, offset := 1, embedded := false, tag := "", pkgPath := "", byteOffset := 8 }, { name := "Side", type := 42, offset := 2, embedded := false, tag := "", pkgPath := "", byteOffset := 32 }] [(0, 1), (1, 1), (2, 1)] [.int .i64 0, .slice none 0 0, .slice none 0 0] := ⟨Try.runUnderlying43, fun w => by simp [Try.sizeOf29, Try.sizeOf3, Try.sizeOf42], Try.zeroValue43⟩
theorem z43 : ∀ hp O, CellsHold hp O [aInt 0, aEx (.slice none 0 0), aEx (.slice none 0 0)] [.int .i64 0, .slice none 0 0, .slice none 0 0] := z_of az43
theorem zagg43 (hp : Heap) (O : Nat → Prop) : (aAgg [aInt 0, aEx (.slice none 0 0), aEx (.slice none 0 0)]).holds hp O (mkV true [.int .i64 0, .slice none 0 0, .slice none 0 0]) := zagg_of az43 hp O
theorem ti44 : TyInfo Try.prog 44 3 true := ⟨Try.isAgg44, Try.sizeOf44⟩
theorem zv44 : ∀ w, (zeroValue 44).run Try.prog w = .ok (.agg #[.int .i64 0, .slice none 0 0, .slice none 0 0]) w := Try.zeroValue44
theorem az44 : AllZ [aInt 0, aEx (.slice none 0 0), aEx (.slice none 0 0)] [.int .i64 0, .slice none 0 0, .slice none 0 0] := ⟨fun _ _ => rfl, rfl, fun _ _ => rfl, rfl, fun _ _ => rfl, rfl, trivial⟩
theorem zc44 : ∀ (hp : Heap) (O : Nat → Prop) (i : Nat) (A : AV) (u : Value), ([aInt 0, aEx (.slice none 0 0), aEx (.slice none 0 0)] : List AV)[i]? = some A → ([.int .i64 0, .slice none 0 0, .slice none 0 0] : List Value)[i]? = some u → A.holds hp O u ∧ u.oneCell' = true := zc_of az44
theorem st44 : StructTy Try.prog 44 #[{ name := "Value", type := 3, offset := 0, embedded := false, tag := "", pkgPath := "", byteOffset := 0 }, { name := "Along", type := 29, offset := 1, embedded := false, tag := "", pkgPath := "", byteOffset := 8 }, { name := "Side", type := 42, offset := 2, embedded := false, tag := "", pkgPath := "", byteOffset := 32 }] [(0, 1), (1, 1), (2, 1)] [.int .i64 0, .slice none 0 0, .slice none 0 0] := ⟨Try.runUnderlying44, fun w => by simp [Try.sizeOf29, Try.sizeOf3, Try.sizeOf42], Try.zeroValue44⟩
theorem z44 : ∀ hp O, CellsHold hp O [aInt 0, aEx (.slice none 0 0), aEx (.slice none 0 0)] [.int .i64 0, .slice none 0 0, .slice none 0 0] := z_of az44
theorem zagg44 (hp : Heap) (O : Nat → Prop) : (aAgg [aInt 0, aEx (.slice none 0 0), aEx (.slice none 0 0)]).holds hp O (mkV true [.int .i64 0, .slice none 0 0, .slice none 0 0]) := zagg_of az44 hp O
theorem ti50 : TyInfo Try.prog 50 3 true := ⟨Try.isAgg50, Try.sizeOf50⟩
theorem zv50 : ∀ w, (zeroValue 50).run Try.prog w = .ok (.agg #[.int .i64 0, .int .i64 0, .slice none 0 0]) w := Try.zeroValue50
theorem az50 : AllZ [aInt 0, aInt 0, aEx (.slice none 0 0)] [.int .i64 0, .int .i64 0, .slice none 0 0] := ⟨fun _ _ => rfl, rfl, fun _ _ => rfl, rfl, fun _ _ => rfl, rfl, trivial⟩
theorem zc50 : ∀ (hp : Heap) (O : Nat → Prop) (i : Nat) (A : AV) (u : Value), ([aInt 0, aInt 0, aEx (.slice none 0 0)] : List AV)[i]? = some A → ([.int .i64 0, .int .i64 0, .slice none 0 0] : List Value)[i]? = some u → A.holds hp O u ∧ u.oneCell' = true := zc_of az50
theorem st50 : StructTy Try.prog 50 #[{ name := "P", type := 3, offset := 0, embedded := false, tag := "", pkgPath := "", byteOffset := 0 }, { name := "M", type := 3, offset := 1, embedded := false, tag := "", pkgPath := "", byteOffset := 8 }, { name := "Mod", type := 29, offset := 2, embedded := false, tag := "", pkgPath := "", byteOffset := 16 }] [(0, 1), (1, 1), (2, 1)] [.int .i64 0, .int .i64 0, .slice none 0 0] := ⟨Try.runUnderlying50, fun w => by simp [Try.sizeOf29, Try.sizeOf3], Try.zeroValue50⟩
theorem z50 : ∀ hp O, CellsHold hp O [aInt 0, aInt 0, aEx (.slice none 0 0)] [.int .i64 0, .int .i64 0, .slice none 0 0] := z_of az50
theorem zagg50 (hp : Heap) (O : Nat → Prop) : (aAgg [aInt 0, aInt 0, aEx (.slice none 0 0)]).holds hp O (mkV true [.int .i64 0, .int .i64 0, .slice none 0 0]) := zagg_of az50 hp O
theorem ti51 : TyInfo Try.prog 51 3 true := ⟨Try.isAgg51, Try.sizeOf51⟩
theorem zv51 : ∀ w, (zeroValue 51).run Try.prog w = .ok (.agg #[.int .i64 0, .int .i64 0, .slice none 0 0]) w := Try.zeroValue51
theorem az51 : AllZ [aInt 0, aInt 0, aEx (.slice none 0 0)] [.int .i64 0, .int .i64 0, .slice none 0 0] := ⟨fun _ _ => rfl, rfl, fun _ _ => rfl, rfl, fun _ _ => rfl, rfl, trivial⟩
theorem zc51 : ∀ (hp : Heap) (O : Nat → Prop) (i : Nat) (A : AV) (u : Value), ([aInt 0, aInt 0, aEx (.slice none 0 0)] : List AV)[i]? = some A → ([.int .i64 0, .int .i64 0, .slice none 0 0] : List Value)[i]? = some u → A.holds hp O u ∧ u.oneCell' = true := zc_of az51
theorem st51 : StructTy Try.prog 51 #[{ name := "P", type := 3, offset := 0, embedded := false, tag := "", pkgPath := "", byteOffset := 0 }, { name := "M", type := 3, offset := 1, embedded := false, tag := "", pkgPath := "", byteOffset := 8 }, { name := "Mod", type := 29, offset := 2, embedded := false, tag := "", pkgPath := "", byteOffset := 16 }] [(0, 1), (1, 1), (2, 1)] [.int .i64 0, .int .i64 0, .slice none 0 0] := ⟨Try.runUnderlying51, fun w => by simp [Try.sizeOf29, Try.sizeOf3], Try.zeroValue51⟩
theorem z51 : ∀ hp O, CellsHold hp O [aInt 0, aInt 0, aEx (.slice none 0 0)] [.int .i64 0, .int .i64 0, .slice none 0 0] := z_of az51
theorem zagg51 (hp : Heap) (O : Nat → Prop) : (aAgg [aInt 0, aInt 0, aEx (.slice none 0 0)]).holds hp O (mkV true [.int .i64 0, .int .i64 0, .slice none 0 0]) := zagg_of az51 hp O
theorem ti52 : TyInfo Try.prog 52 7 true := ⟨Try.isAgg52, Try.sizeOf52⟩
theorem zv52 : ∀ w, (zeroValue 52).run Try.prog w = .ok (.agg #[.int .i64 0, .int .i64 0, .slice none 0 0, .int .i64 0, .int .i64 0, .int .i64 0, .slice none 0 0]) w := Try.zeroValue52
theorem az52 : AllZ [aInt 0, aInt 0, aEx (.slice none 0 0), aInt 0, aInt 0, aInt 0, aEx (.slice none 0 0)] [.int .i64 0, .int .i64 0, .slice none 0 0, .int .i64 0, .int .i64 0, .int .i64 0, .slice none 0 0] := ⟨fun _ _ => rfl, rfl, fun _ _ => rfl, rfl, fun _ _ => rfl, rfl, fun _ _ => rfl, rfl, fun _ _ => rfl, rfl, fun _ _ => rfl, rfl, fun _ _ => rfl, rfl, trivial⟩
theorem zc52 : ∀ (hp : Heap) (O : Nat → Prop) (i : Nat) (A : AV) (u : Value), ([aInt 0, aInt 0, aEx (.slice none 0 0), aInt 0, aInt 0, aInt 0, aEx (.slice none 0 0)] : List AV)[i]? = some A → ([.int .i64 0, .int .i64 0, .slice none 0 0, .int .i64 0, .int .i64 0, .int .i64 0, .slice none 0 0] : List Value)[i]? = some u → A.holds hp O u ∧ u.oneCell' = true := zc_of az52
theorem st52 : StructTy Try.prog 52 #[{ name := "F", type := 51, offset := 0, embedded := false, tag := "", pkgPath := "", byteOffset := 0 }, { name := "Kind", type := 3, offset := 3, embedded := false, tag := "", pkgPath := "", byteOffset := 40 }, { name := "K", type := 3, offset := 4, embedded := false, tag := "", pkgPath := "", byteOffset := 48 }, { name := "D", type := 3, offset := 5, embedded := false, tag := "", pkgPath := "", byteOffset := 56 }, { name := "Points", type := 29, offset := 6, embedded := false, tag := "", pkgPath := "", byteOffset := 64 }] [(0, 3), (3, 1), (4, 1), (5, 1), (6, 1)] [.int .i64 0, .int .i64 0, .slice none 0 0, .int .i64 0, .int .i64 0, .int .i64 0, .slice none 0 0] := ⟨Try.runUnderlying52, fun w => by simp [Try.sizeOf29, Try.sizeOf3, Try.sizeOf51], Try.zeroValue52⟩
theorem z52 : ∀ hp O, CellsHold hp O [aInt 0, aInt 0, aEx (.slice none 0 0), aInt 0, aInt 0, aInt 0, aEx (.slice none 0 0)] [.int .i64 0, .int .i64 0, .slice none 0 0, .int .i64 0, .int .i64 0, .int .i64 0, .slice none 0 0] := z_of az52
theorem zagg52 (hp : Heap) (O : Nat → Prop) : (aAgg [aInt 0, aInt 0, aEx (.slice none 0 0), aInt 0, aInt 0, aInt 0, aEx (.slice none 0 0)]).holds hp O (mkV true [.int .i64 0, .int .i64 0, .slice none 0 0, .int .i64 0, .int .i64 0, .int .i64 0, .slice none 0 0]) := zagg_of az52 hp O
theorem ti53 : TyInfo Try.prog 53 7 true := ⟨Try.isAgg53, Try.sizeOf53⟩
theorem zv53 : ∀ w, (zeroValue 53).run Try.prog w = .ok (.agg #[.int .i64 0, .int .i64 0, .slice none 0 0, .int .i64 0, .int .i64 0, .int .i64 0, .slice none 0 0]) w := Try.zeroValue53
theorem az53 : AllZ [aInt 0, aInt 0, aEx (.slice none 0 0), aInt 0, aInt 0, aInt 0, aEx (.slice none 0 0)] [.int .i64 0, .int .i64 0, .slice none 0 0, .int .i64 0, .int .i64 0, .int .i64 0, .slice none 0 0] := ⟨fun _ _ => rfl, rfl, fun _ _ => rfl, rfl, fun _ _ => rfl, rfl, fun _ _ => rfl, rfl, fun _ _ => rfl, rfl, fun _ _ => rfl, rfl, fun _ _ => rfl, rfl, trivial⟩
theorem zc53 : ∀ (hp : Heap) (O : Nat → Prop) (i : Nat) (A : AV) (u : Value), ([aInt 0, aInt 0, aEx (.slice none 0 0), aInt 0, aInt 0, aInt 0, aEx (.slice none 0 0)] : List AV)[i]? = some A → ([.int .i64 0, .int .i64 0, .slice none 0 0, .int .i64 0, .int .i64 0, .int .i64 0, .slice none 0 0] : List Value)[i]? = some u → A.holds hp O u ∧ u.oneCell' = true := zc_of az53
theorem st53 : StructTy Try.prog 53 #[{ name := "F", type := 51, offset := 0, embedded := false, tag := "", pkgPath := "", byteOffset := 0 }, { name := "Kind", type := 3, offset := 3, embedded := false, tag := "", pkgPath := "", byteOffset := 40 }, { name := "K", type := 3, offset := 4, embedded := false, tag := "", pkgPath := "", byteOffset := 48 }, { name := "D", type := 3, offset := 5, embedded := false, tag := "", pkgPath := "", byteOffset := 56 }, { name := "Points", type := 29, offset := 6, embedded := false, tag := "", pkgPath := "", byteOffset := 64 }] [(0, 3), (3, 1), (4, 1), (5, 1), (6, 1)] [.int .i64 0, .int .i64 0, .slice none 0 0, .int .i64 0, .int .i64 0, .int .i64 0, .slice none 0 0] := ⟨Try.runUnderlying53, fun w => by simp [Try.sizeOf29, Try.sizeOf3, Try.sizeOf51], Try.zeroValue53⟩
theorem z53 : ∀ hp O, CellsHold hp O [aInt 0, aInt 0, aEx (.slice none 0 0), aInt 0, aInt 0, aInt 0, aEx (.slice none 0 0)] [.int .i64 0, .int .i64 0, .slice none 0 0, .int .i64 0, .int .i64 0, .int .i64 0, .slice none 0 0] := z_of az53
theorem zagg53 (hp : Heap) (O : Nat → Prop) : (aAgg [aInt 0, aInt 0, aEx (.slice none 0 0), aInt 0, aInt 0, aInt 0, aEx (.slice none 0 0)]).holds hp O (mkV true [.int .i64 0, .int .i64 0, .slice none 0 0, .int .i64 0, .int .i64 0, .int .i64 0, .slice none 0 0]) := zagg_of az53 hp O
theorem ti65 : TyInfo Try.prog 65 1 false := ⟨Try.isAgg65, Try.sizeOf65⟩
theorem zv65 : ∀ w, (zeroValue 65).run Try.prog w = .ok (.slice none 0 0) w := Try.zeroValue65
theorem az65 : AllZ [aEx (.slice none 0 0)] [.slice none 0 0] := ⟨fun _ _ => rfl, rfl, trivial⟩
theorem zc65 : ∀ (hp : Heap) (O : Nat → Prop) (i : Nat) (A : AV) (u : Value), ([aEx (.slice none 0 0)] : List AV)[i]? = some A → ([.slice none 0 0] : List Value)[i]? = some u → A.holds hp O u ∧ u.oneCell' = true := zc_of az65
theorem sl65 : SlInfo Try.prog 65 29 1 := ⟨Try.runUnderlying65, Try.sizeOf29⟩
theorem vt65 : VecTy Try.prog 65 29 1 24 false (.slice none 0 0) := vecTy_of Try.underlying65 (by kernel_rfl) rfl (by decide) (fun _ => rfl) Try.isAgg29
theorem ti88 : TyInfo Try.prog 88 3 true := ⟨Try.isAgg88, Try.sizeOf88⟩
theorem zv88 : ∀ w, (zeroValue 88).run Try.prog w = .ok (.agg #[.int .i64 0, .int .i64 0, .int .i64 0]) w := Try.zeroValue88
theorem az88 : AllZ [aInt 0, aInt 0, aInt 0] [.int .i64 0, .int .i64 0, .int .i64 0] := ⟨fun _ _ => rfl, rfl, fun _ _ => rfl, rfl, fun _ _ => rfl, rfl, trivial⟩
theorem zc88 : ∀ (hp : Heap) (O : Nat → Prop) (i : Nat) (A : AV) (u : Value), ([aInt 0, aInt 0, aInt 0] : List AV)[i]? = some A → ([.int .i64 0, .int .i64 0, .int .i64 0] : List Value)[i]? = some u → A.holds hp O u ∧ u.oneCell' = true := zc_of az88
theorem st88 : StructTy Try.prog 88 #[{ name := "From", type := 3, offset := 0, embedded := false, tag := "", pkgPath := "", byteOffset := 0 }, { name := "To", type := 3, offset := 1, embedded := false, tag := "", pkgPath := "", byteOffset := 8 }, { name := "Cap", type := 3, offset := 2, embedded := false, tag := "", pkgPath := "", byteOffset := 16 }] [(0, 1), (1, 1), (2, 1)] [.int .i64 0, .int .i64 0, .int .i64 0] := ⟨Try.runUnderlying88, fun w => by simp [Try.sizeOf3], Try.zeroValue88⟩
theorem z88 : ∀ hp O, CellsHold hp O [aInt 0, aInt 0, aInt 0] [.int .i64 0, .int .i64 0, .int .i64 0] := z_of az88
theorem zagg88 (hp : Heap) (O : Nat → Prop) : (aAgg [aInt 0, aInt 0, aInt 0]).holds hp O (mkV true [.int .i64 0, .int .i64 0, .int .i64 0]) := zagg_of az88 hp O
theorem fo88 : Try.prog.fieldsOf 88 = #[{ name := "From", type := 3, offset := 0, embedded := false, tag := "", pkgPath := "", byteOffset := 0 }, { name := "To", type := 3, offset := 1, embedded := false, tag := "", pkgPath := "", byteOffset := 8 }, { name := "Cap", type := 3, offset := 2, embedded := false, tag := "", pkgPath := "", byteOffset := 16 }] := by unfold Program.fieldsOf; rw [Try.underlying88]
theorem is88 : IntsTy Try.prog 88 3 := ⟨by rw [fo88]; exact Try.underlying88, by rw [fo88]; exact ⟨rfl, by decide, Try.underlying3, Try.isAgg3, rfl, by decide, Try.underlying3, Try.isAgg3, rfl, by decide, Try.underlying3, Try.isAgg3, trivial⟩, by rw [fo88]; rfl, by kernel_rfl, by kernel_rfl⟩
theorem ti89 : TyInfo Try.prog 89 3 true := ⟨Try.isAgg89, Try.sizeOf89⟩
theorem zv89 : ∀ w, (zeroValue 89).run Try.prog w = .ok (.agg #[.int .i64 0, .int .i64 0, .int .i64 0]) w := Try.zeroValue89
theorem az89 : AllZ [aInt 0, aInt 0, aInt 0] [.int .i64 0, .int .i64 0, .int .i64 0] := ⟨fun _ _ => rfl, rfl, fun _ _ => rfl, rfl, fun _ _ => rfl, rfl, trivial⟩
theorem zc89 : ∀ (hp : Heap) (O : Nat → Prop) (i : Nat) (A : AV) (u : Value), ([aInt 0, aInt 0, aInt 0] : List AV)[i]? = some A → ([.int .i64 0, .int .i64 0, .int .i64 0] : List Value)[i]? = some u → A.holds hp O u ∧ u.oneCell' = true := zc_of az89
theorem st89 : StructTy Try.prog 89 #[{ name := "From", type := 3, offset := 0, embedded := false, tag := "", pkgPath := "", byteOffset := 0 }, { name := "To", type := 3, offset := 1, embedded := false, tag := "", pkgPath := "", byteOffset := 8 }, { name := "Cap", type := 3, offset := 2, embedded := false, tag := "", pkgPath := "", byteOffset := 16 }] [(0, 1), (1, 1), (2, 1)] [.int .i64 0, .int .i64 0, .int .i64 0] := ⟨Try.runUnderlying89, fun w => by simp [Try.sizeOf3], Try.zeroValue89⟩
theorem z89 : ∀ hp O, CellsHold hp O [aInt 0, aInt 0, aInt 0] [.int .i64 0, .int .i64 0, .int .i64 0] := z_of az89
theorem zagg89 (hp : Heap) (O : Nat → Prop) : (aAgg [aInt 0, aInt 0, aInt 0]).holds hp O (mkV true [.int .i64 0, .int .i64 0, .int .i64 0]) := zagg_of az89 hp O
theorem fo89 : Try.prog.fieldsOf 89 = #[{ name := "From", type := 3, offset := 0, embedded := false, tag := "", pkgPath := "", byteOffset := 0 }, { name := "To", type := 3, offset := 1, embedded := false, tag := "", pkgPath := "", byteOffset := 8 }, { name := "Cap", type := 3, offset := 2, embedded := false, tag := "", pkgPath := "", byteOffset := 16 }] := by unfold Program.fieldsOf; rw [Try.underlying89]
theorem is89 : IntsTy Try.prog 89 3 := ⟨by rw [fo89]; exact Try.underlying89, by rw [fo89]; exact ⟨rfl, by decide, Try.underlying3, Try.isAgg3, rfl, by decide, Try.underlying3, Try.isAgg3, rfl, by decide, Try.underlying3, Try.isAgg3, trivial⟩, by rw [fo89]; rfl, by kernel_rfl, by kernel_rfl⟩
theorem ti95 : TyInfo Try.prog 95 1 false := ⟨Try.isAgg95, Try.sizeOf95⟩
theorem ti106 : TyInfo Try.prog 106 2 true := ⟨Try.isAgg106, Try.sizeOf106⟩
theorem zv106 : ∀ w, (zeroValue 106).run Try.prog w = .ok (.agg #[.int .i64 0, .slice none 0 0]) w := Try.zeroValue106
theorem az106 : AllZ [aInt 0, aEx (.slice none 0 0)] [.int .i64 0, .slice none 0 0] := ⟨fun _ _ => rfl, rfl, fun _ _ => rfl, rfl, trivial⟩
theorem zc106 : ∀ (hp : Heap) (O : Nat → Prop) (i : Nat) (A : AV) (u : Value), ([aInt 0, aEx (.slice none 0 0)] : List AV)[i]? = some A → ([.int .i64 0, .slice none 0 0] : List Value)[i]? = some u → A.holds hp O u ∧ u.oneCell' = true := zc_of az106
theorem st106 : StructTy Try.prog 106 #[{ name := "Cols", type := 3, offset := 0, embedded := false, tag := "", pkgPath := "", byteOffset := 0 }, { name := "Rows", type := 65, offset := 1, embedded := false, tag := "", pkgPath := "", byteOffset := 8 }] [(0, 1), (1, 1)] [.int .i64 0, .slice none 0 0] := ⟨Try.runUnderlying106, fun w => by simp [Try.sizeOf3, Try.sizeOf65], Try.zeroValue106⟩
theorem z106 : ∀ hp O, CellsHold hp O [aInt 0, aEx (.slice none 0 0)] [.int .i64 0, .slice none 0 0] := z_of az106
theorem zagg106 (hp : Heap) (O : Nat → Prop) : (aAgg [aInt 0, aEx (.slice none 0 0)]).holds hp O (mkV true [.int .i64 0, .slice none 0 0]) := zagg_of az106 hp O
theorem ti107 : TyInfo Try.prog 107 2 true := ⟨Try.isAgg107, Try.sizeOf107⟩
theorem zv107 : ∀ w, (zeroValue 107).run Try.prog w = .ok (.agg #[.int .i64 0, .slice none 0 0]) w := Try.zeroValue107
theorem az107 : AllZ [aInt 0, aEx (.slice none 0 0)] [.int .i64 0, .slice none 0 0] := ⟨fun _ _ => rfl, rfl, fun _ _ => rfl, rfl, trivial⟩
theorem zc107 : ∀ (hp : Heap) (O : Nat → Prop) (i : Nat) (A : AV) (u : Value), ([aInt 0, aEx (.slice none 0 0)] : List AV)[i]? = some A → ([.int .i64 0, .slice none 0 0] : List Value)[i]? = some u → A.holds hp O u ∧ u.oneCell' = true := zc_of az107
theorem st107 : StructTy Try.prog 107 #[{ name := "Cols", type := 3, offset := 0, embedded := false, tag := "", pkgPath := "", byteOffset := 0 }, { name := "Rows", type := 65, offset := 1, embedded := false, tag := "", pkgPath := "", byteOffset := 8 }] [(0, 1), (1, 1)] [.int .i64 0, .slice none 0 0] := ⟨Try.runUnderlying107, fun w => by simp [Try.sizeOf3, Try.sizeOf65], Try.zeroValue107⟩
theorem z107 : ∀ hp O, CellsHold hp O [aInt 0, aEx (.slice none 0 0)] [.int .i64 0, .slice none 0 0] := z_of az107
theorem zagg107 (hp : Heap) (O : Nat → Prop) : (aAgg [aInt 0, aEx (.slice none 0 0)]).holds hp O (mkV true [.int .i64 0, .slice none 0 0]) := zagg_of az107 hp O
theorem ti116 : TyInfo Try.prog 116 1 false := ⟨Try.isAgg116, Try.sizeOf116⟩
theorem ti117 : TyInfo Try.prog 117 10 true := ⟨Try.isAgg117, Try.sizeOf117⟩
theorem zv117 : ∀ w, (zeroValue 117).run Try.prog w = .ok (.agg #[.int .i64 0, .int .i64 0, .slice none 0 0, .int .i64 0, .int .i64 0, .int .i64 0, .slice none 0 0, .pointer none, .slice none 0 0, .slice none 0 0]) w := Try.zeroValue117
theorem az117 : AllZ [aInt 0, aInt 0, aEx (.slice none 0 0), aInt 0, aInt 0, aInt 0, aEx (.slice none 0 0), aEx (.pointer none), aEx (.slice none 0 0), aEx (.slice none 0 0)] [.int .i64 0, .int .i64 0, .slice none 0 0, .int .i64 0, .int .i64 0, .int .i64 0, .slice none 0 0, .pointer none, .slice none 0 0, .slice none 0 0] := ⟨fun _ _ => rfl, rfl, fun _ _ => rfl, rfl, fun _ _ => rfl, rfl, fun _ _ => rfl, rfl, fun _ _ => rfl, rfl, fun _ _ => rfl, rfl, fun _ _ => rfl, rfl, fun _ _ => rfl, rfl, fun _ _ => rfl, rfl, fun _ _ => rfl, rfl, trivial⟩
theorem zc117 : ∀ (hp : Heap) (O : Nat → Prop) (i : Nat) (A : AV) (u : Value), ([aInt 0, aInt 0, aEx (.slice none 0 0), aInt 0, aInt 0, aInt 0, aEx (.slice none 0 0), aEx (.pointer none), aEx (.slice none 0 0), aEx (.slice none 0 0)] : List AV)[i]? = some A → ([.int .i64 0, .int .i64 0, .slice none 0 0, .int .i64 0, .int .i64 0, .int .i64 0, .slice none 0 0, .pointer none, .slice none 0 0, .slice none 0 0] : List Value)[i]? = some u → A.holds hp O u ∧ u.oneCell' = true := zc_of az117
theorem st117 : StructTy Try.prog 117 #[{ name := "r", type := 53, offset := 0, embedded := false, tag := "", pkgPath := "codewright/regenerate", byteOffset := 0 }, { name := "g", type := 95, offset := 7, embedded := false, tag := "", pkgPath := "codewright/regenerate", byteOffset := 88 }, { name := "points", type := 29, offset := 8, embedded := false, tag := "", pkgPath := "codewright/regenerate", byteOffset := 96 }, { name := "contents", type := 65, offset := 9, embedded := false, tag := "", pkgPath := "codewright/regenerate", byteOffset := 120 }] [(0, 7), (7, 1), (8, 1), (9, 1)] [.int .i64 0, .int .i64 0, .slice none 0 0, .int .i64 0, .int .i64 0, .int .i64 0, .slice none 0 0, .pointer none, .slice none 0 0, .slice none 0 0] := ⟨Try.runUnderlying117, fun w => by simp [Try.sizeOf29, Try.sizeOf53, Try.sizeOf65, Try.sizeOf95], Try.zeroValue117⟩
theorem z117 : ∀ hp O, CellsHold hp O [aInt 0, aInt 0, aEx (.slice none 0 0), aInt 0, aInt 0, aInt 0, aEx (.slice none 0 0), aEx (.pointer none), aEx (.slice none 0 0), aEx (.slice none 0 0)] [.int .i64 0, .int .i64 0, .slice none 0 0, .int .i64 0, .int .i64 0, .int .i64 0, .slice none 0 0, .pointer none, .slice none 0 0, .slice none 0 0] := z_of az117
theorem zagg117 (hp : Heap) (O : Nat → Prop) : (aAgg [aInt 0, aInt 0, aEx (.slice none 0 0), aInt 0, aInt 0, aInt 0, aEx (.slice none 0 0), aEx (.pointer none), aEx (.slice none 0 0), aEx (.slice none 0 0)]).holds hp O (mkV true [.int .i64 0, .int .i64 0, .slice none 0 0, .int .i64 0, .int .i64 0, .int .i64 0, .slice none 0 0, .pointer none, .slice none 0 0, .slice none 0 0]) := zagg_of az117 hp O
theorem ti118 : TyInfo Try.prog 118 10 true := ⟨Try.isAgg118, Try.sizeOf118⟩
theorem zv118 : ∀ w, (zeroValue 118).run Try.prog w = .ok (.agg #[.int .i64 0, .int .i64 0, .slice none 0 0, .int .i64 0, .int .i64 0, .int .i64 0, .slice none 0 0, .pointer none, .slice none 0 0, .slice none 0 0]) w := Try.zeroValue118
theorem az118 : AllZ [aInt 0, aInt 0, aEx (.slice none 0 0), aInt 0, aInt 0, aInt 0, aEx (.slice none 0 0), aEx (.pointer none), aEx (.slice none 0 0), aEx (.slice none 0 0)] [.int .i64 0, .int .i64 0, .slice none 0 0, .int .i64 0, .int .i64 0, .int .i64 0, .slice none 0 0, .pointer none, .slice none 0 0, .slice none 0 0] := ⟨fun _ _ => rfl, rfl, fun _ _ => rfl, rfl, fun _ _ => rfl, rfl, fun _ _ => rfl, rfl, fun _ _ => rfl, rfl, fun _ _ => rfl, rfl, fun _ _ => rfl, rfl, fun _ _ => rfl, rfl, fun _ _ => rfl, rfl, fun _ _ => rfl, rfl, trivial⟩
theorem zc118 : ∀ (hp : Heap) (O : Nat → Prop) (i : Nat) (A : AV) (u : Value), ([aInt 0, aInt 0, aEx (.slice none 0 0), aInt 0, aInt 0, aInt 0, aEx (.slice none 0 0), aEx (.pointer none), aEx (.slice none 0 0), aEx (.slice none 0 0)] : List AV)[i]? = some A → ([.int .i64 0, .int .i64 0, .slice none 0 0, .int .i64 0, .int .i64 0, .int .i64 0, .slice none 0 0, .pointer none, .slice none 0 0, .slice none 0 0] : List Value)[i]? = some u → A.holds hp O u ∧ u.oneCell' = true := zc_of az118
theorem st118 : StructTy Try.prog 118 #[{ name := "r", type := 53, offset := 0, embedded := false, tag := "", pkgPath := "codewright/regenerate", byteOffset := 0 }, { name := "g", type := 95, offset := 7, embedded := false, tag := "", pkgPath := "codewright/regenerate", byteOffset := 88 }, { name := "points", type := 29, offset := 8, embedded := false, tag := "", pkgPath := "codewright/regenerate", byteOffset := 96 }, { name := "contents", type := 65, offset := 9, embedded := false, tag := "", pkgPath := "codewright/regenerate", byteOffset := 120 }] [(0, 7), (7, 1), (8, 1), (9, 1)] [.int .i64 0, .int .i64 0, .slice none 0 0, .int .i64 0, .int .i64 0, .int .i64 0, .slice none 0 0, .pointer none, .slice none 0 0, .slice none 0 0] := ⟨Try.runUnderlying118, fun w => by simp [Try.sizeOf29, Try.sizeOf53, Try.sizeOf65, Try.sizeOf95], Try.zeroValue118⟩
theorem z118 : ∀ hp O, CellsHold hp O [aInt 0, aInt 0, aEx (.slice none 0 0), aInt 0, aInt 0, aInt 0, aEx (.slice none 0 0), aEx (.pointer none), aEx (.slice none 0 0), aEx (.slice none 0 0)] [.int .i64 0, .int .i64 0, .slice none 0 0, .int .i64 0, .int .i64 0, .int .i64 0, .slice none 0 0, .pointer none, .slice none 0 0, .slice none 0 0] := z_of az118
theorem zagg118 (hp : Heap) (O : Nat → Prop) : (aAgg [aInt 0, aInt 0, aEx (.slice none 0 0), aInt 0, aInt 0, aInt 0, aEx (.slice none 0 0), aEx (.pointer none), aEx (.slice none 0 0), aEx (.slice none 0 0)]).holds hp O (mkV true [.int .i64 0, .int .i64 0, .slice none 0 0, .int .i64 0, .int .i64 0, .int .i64 0, .slice none 0 0, .pointer none, .slice none 0 0, .slice none 0 0]) := zagg_of az118 hp O
theorem ti129 : TyInfo Try.prog 129 6 true := ⟨Try.isAgg129, Try.sizeOf129⟩
theorem zv129 : ∀ w, (zeroValue 129).run Try.prog w = .ok (.agg #[.int .i64 0, .int .i64 0, .slice none 0 0, .int .i64 0, .slice none 0 0, .slice none 0 0]) w := Try.zeroValue129
theorem az129 : AllZ [aInt 0, aInt 0, aEx (.slice none 0 0), aInt 0, aEx (.slice none 0 0), aEx (.slice none 0 0)] [.int .i64 0, .int .i64 0, .slice none 0 0, .int .i64 0, .slice none 0 0, .slice none 0 0] := ⟨fun _ _ => rfl, rfl, fun _ _ => rfl, rfl, fun _ _ => rfl, rfl, fun _ _ => rfl, rfl, fun _ _ => rfl, rfl, fun _ _ => rfl, rfl, trivial⟩
theorem zc129 : ∀ (hp : Heap) (O : Nat → Prop) (i : Nat) (A : AV) (u : Value), ([aInt 0, aInt 0, aEx (.slice none 0 0), aInt 0, aEx (.slice none 0 0), aEx (.slice none 0 0)] : List AV)[i]? = some A → ([.int .i64 0, .int .i64 0, .slice none 0 0, .int .i64 0, .slice none 0 0, .slice none 0 0] : List Value)[i]? = some u → A.holds hp O u ∧ u.oneCell' = true := zc_of az129
theorem st129 : StructTy Try.prog 129 #[{ name := "f", type := 51, offset := 0, embedded := false, tag := "", pkgPath := "codewright/field", byteOffset := 0 }, { name := "q", type := 3, offset := 3, embedded := false, tag := "", pkgPath := "codewright/field", byteOffset := 40 }, { name := "exp", type := 29, offset := 4, embedded := false, tag := "", pkgPath := "codewright/field", byteOffset := 48 }, { name := "log", type := 29, offset := 5, embedded := false, tag := "", pkgPath := "codewright/field", byteOffset := 72 }] [(0, 3), (3, 1), (4, 1), (5, 1)] [.int .i64 0, .int .i64 0, .slice none 0 0, .int .i64 0, .slice none 0 0, .slice none 0 0] := ⟨Try.runUnderlying129, fun w => by simp [Try.sizeOf29, Try.sizeOf3, Try.sizeOf51], Try.zeroValue129⟩
theorem z129 : ∀ hp O, CellsHold hp O [aInt 0, aInt 0, aEx (.slice none 0 0), aInt 0, aEx (.slice none 0 0), aEx (.slice none 0 0)] [.int .i64 0, .int .i64 0, .slice none 0 0, .int .i64 0, .slice none 0 0, .slice none 0 0] := z_of az129
theorem zagg129 (hp : Heap) (O : Nat → Prop) : (aAgg [aInt 0, aInt 0, aEx (.slice none 0 0), aInt 0, aEx (.slice none 0 0), aEx (.slice none 0 0)]).holds hp O (mkV true [.int .i64 0, .int .i64 0, .slice none 0 0, .int .i64 0, .slice none 0 0, .slice none 0 0]) := zagg_of az129 hp O
theorem ti130 : TyInfo Try.prog 130 6 true := ⟨Try.isAgg130, Try.sizeOf130⟩
theorem zv130 : ∀ w, (zeroValue 130).run Try.prog w = .ok (.agg #[.int .i64 0, .int .i64 0, .slice none 0 0, .int .i64 0, .slice none 0 0, .slice none 0 0]) w := Try.zeroValue130
theorem az130 : AllZ [aInt 0, aInt 0, aEx (.slice none 0 0), aInt 0, aEx (.slice none 0 0), aEx (.slice none 0 0)] [.int .i64 0, .int .i64 0, .slice none 0 0, .int .i64 0, .slice none 0 0, .slice none 0 0] := ⟨fun _ _ => rfl, rfl, fun _ _ => rfl, rfl, fun _ _ => rfl, rfl, fun _ _ => rfl, rfl, fun _ _ => rfl, rfl, fun _ _ => rfl, rfl, trivial⟩
theorem zc130 : ∀ (hp : Heap) (O : Nat → Prop) (i : Nat) (A : AV) (u : Value), ([aInt 0, aInt 0, aEx (.slice none 0 0), aInt 0, aEx (.slice none 0 0), aEx (.slice none 0 0)] : List AV)[i]? = some A → ([.int .i64 0, .int .i64 0, .slice none 0 0, .int .i64 0, .slice none 0 0, .slice none 0 0] : List Value)[i]? = some u → A.holds hp O u ∧ u.oneCell' = true := zc_of az130
theorem st130 : StructTy Try.prog 130 #[{ name := "f", type := 51, offset := 0, embedded := false, tag := "", pkgPath := "codewright/field", byteOffset := 0 }, { name := "q", type := 3, offset := 3, embedded := false, tag := "", pkgPath := "codewright/field", byteOffset := 40 }, { name := "exp", type := 29, offset := 4, embedded := false, tag := "", pkgPath := "codewright/field", byteOffset := 48 }, { name := "log", type := 29, offset := 5, embedded := false, tag := "", pkgPath := "codewright/field", byteOffset := 72 }] [(0, 3), (3, 1), (4, 1), (5, 1)] [.int .i64 0, .int .i64 0, .slice none 0 0, .int .i64 0, .slice none 0 0, .slice none 0 0] := ⟨Try.runUnderlying130, fun w => by simp [Try.sizeOf29, Try.sizeOf3, Try.sizeOf51], Try.zeroValue130⟩
theorem z130 : ∀ hp O, CellsHold hp O [aInt 0, aInt 0, aEx (.slice none 0 0), aInt 0, aEx (.slice none 0 0), aEx (.slice none 0 0)] [.int .i64 0, .int .i64 0, .slice none 0 0, .int .i64 0, .slice none 0 0, .slice none 0 0] := z_of az130
theorem zagg130 (hp : Heap) (O : Nat → Prop) : (aAgg [aInt 0, aInt 0, aEx (.slice none 0 0), aInt 0, aEx (.slice none 0 0), aEx (.slice none 0 0)]).holds hp O (mkV true [.int .i64 0, .int .i64 0, .slice none 0 0, .int .i64 0, .slice none 0 0, .slice none 0 0]) := zagg_of az130 hp O
theorem ti147 : TyInfo Try.prog 147 1 false := ⟨Try.isAgg147, Try.sizeOf147⟩
theorem zv147 : ∀ w, (zeroValue 147).run Try.prog w = .ok (.slice none 0 0) w := Try.zeroValue147
theorem az147 : AllZ [aEx (.slice none 0 0)] [.slice none 0 0] := ⟨fun _ _ => rfl, rfl, trivial⟩
theorem zc147 : ∀ (hp : Heap) (O : Nat → Prop) (i : Nat) (A : AV) (u : Value), ([aEx (.slice none 0 0)] : List AV)[i]? = some A → ([.slice none 0 0] : List Value)[i]? = some u → A.holds hp O u ∧ u.oneCell' = true := zc_of az147
theorem sl147 : SlInfo Try.prog 147 65 1 := ⟨Try.runUnderlying147, Try.sizeOf65⟩
theorem vt147 : VecTy Try.prog 147 65 1 24 false (.slice none 0 0) := vecTy_of Try.underlying147 (by kernel_rfl) rfl (by decide) (fun _ => rfl) Try.isAgg65
theorem ti152 : TyInfo Try.prog 152 1 false := ⟨Try.isAgg152, Try.sizeOf152⟩
theorem zv152 : ∀ w, (zeroValue 152).run Try.prog w = .ok (.slice none 0 0) w := Try.zeroValue152
theorem az152 : AllZ [aEx (.slice none 0 0)] [.slice none 0 0] := ⟨fun _ _ => rfl, rfl, trivial⟩
theorem zc152 : ∀ (hp : Heap) (O : Nat → Prop) (i : Nat) (A : AV) (u : Value), ([aEx (.slice none 0 0)] : List AV)[i]? = some A → ([.slice none 0 0] : List Value)[i]? = some u → A.holds hp O u ∧ u.oneCell' = true := zc_of az152
theorem sl152 : SlInfo Try.prog 152 107 2 := ⟨Try.runUnderlying152, Try.sizeOf107⟩
theorem vt152 : VecTy Try.prog 152 107 2 32 true (.agg #[.int .i64 0, .slice none 0 0]) := vecTy_of Try.underlying152 (by kernel_rfl) rfl (by decide) (fun h => by cases h) Try.isAgg107
theorem ti163 : TyInfo Try.prog 163 4 true := ⟨Try.isAgg163, Try.sizeOf163⟩
theorem ti164 : TyInfo Try.prog 164 4 true := ⟨Try.isAgg164, Try.sizeOf164⟩
theorem ti169 : TyInfo Try.prog 169 1 false := ⟨Try.isAgg169, Try.sizeOf169⟩
theorem ti170 : TyInfo Try.prog 170 1 false := ⟨Try.isAgg170, Try.sizeOf170⟩
theorem ti171 : TyInfo Try.prog 171 1 false := ⟨Try.isAgg171, Try.sizeOf171⟩
theorem ti173 : TyInfo Try.prog 173 1 false := ⟨Try.isAgg173, Try.sizeOf173⟩
theorem ti174 : TyInfo Try.prog 174 1 false := ⟨Try.isAgg174, Try.sizeOf174⟩
theorem ti175 : TyInfo Try.prog 175 1 false := ⟨Try.isAgg175, Try.sizeOf175⟩
theorem ti176 : TyInfo Try.prog 176 11 true := ⟨Try.isAgg176, Try.sizeOf176⟩
theorem ti177 : TyInfo Try.prog 177 11 true := ⟨Try.isAgg177, Try.sizeOf177⟩
end Go.Proofs.Ytaipghchkamajaa
