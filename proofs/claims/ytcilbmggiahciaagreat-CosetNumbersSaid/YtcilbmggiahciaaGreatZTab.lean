/-
  Walks of functions of the program and the reference.
-/
import Derived.Test.YtcilbmggiahciaaGreatProg
import Derived.KernelRfl
import Derived.Test.YtcilbmggiahciaaGreatCxLib
open Go Go.Cw
namespace Go.Proofs.YtcilbmggiahciaaGreat
open Tryz
set_option maxRecDepth 100000
theorem mixed:Tryz.prog.follows .mixedOrders=true:=by kernel_rfl
theorem ti3:TyInfo Tryz.prog 3 1 false:=⟨isAgg3,sizeOf3⟩
theorem zv3:∀w,(zeroValue 3).run Tryz.prog w = .ok (.int .i64 0) w:=Tryz.zeroValue3
theorem az3:AllZ [aInt 0] [.int .i64 0]:=⟨fun _ _=>rfl,rfl,trivial⟩
theorem zc3:∀(hp:Heap) (O:Nat->Prop) (i:Nat) (A:AV) (u:Value),([aInt 0]:List AV)[i]? = some A->([.int .i64 0]:List Value)[i]? = some u->A.holds hp O u/\u.oneCell'=true:=zc_of az3
theorem ti4:TyInfo Tryz.prog 4 1 false:=⟨isAgg4,sizeOf4⟩
theorem ti22:TyInfo Tryz.prog 22 1 false:=⟨isAgg22,sizeOf22⟩
theorem sl22:SlInfo Tryz.prog 22 3 1:=⟨runUnderlying22,sizeOf3⟩
theorem vt22:VecTy Tryz.prog 22 3 1 8 false (.int .i64 0):=vecTy_of underlying22 (by kernel_rfl) rfl (by decide) (fun _=>rfl) isAgg3
theorem ti24:TyInfo Tryz.prog 24 3 true:=⟨isAgg24,sizeOf24⟩
theorem zv24:∀w,(zeroValue 24).run Tryz.prog w = .ok (.agg #[.int .i64 0,.int .i64 0,.slice none 0 0]) w:=Tryz.zeroValue24
theorem az24:AllZ [aInt 0,aInt 0,aEx (.slice none 0 0)] [.int .i64 0,.int .i64 0,.slice none 0 0]:=⟨fun _ _=>rfl,rfl,fun _ _=>rfl,rfl,fun _ _=>rfl,rfl,trivial⟩
theorem zc24:∀(hp:Heap) (O:Nat->Prop) (i:Nat) (A:AV) (u:Value),([aInt 0,aInt 0,aEx (.slice none 0 0)]:List AV)[i]? = some A->([.int .i64 0,.int .i64 0,.slice none 0 0]:List Value)[i]? = some u->A.holds hp O u/\u.oneCell'=true:=zc_of az24
theorem st24:StructTy Tryz.prog 24 #[{ name:="P",type:=3,offset:=0,embedded:=false,tag:="",pkgPath:="",byteOffset:=0 },{ name:="M",type:=3,offset:=1,embedded:=false,tag:="",pkgPath:="",byteOffset:=8 },{ name:="Mod",type:=22,offset:=2,embedded:=false,tag:="",pkgPath:="",byteOffset:=16 }] [(0,1),(1,1),(2,1)] [.int .i64 0,.int .i64 0,.slice none 0 0]:=⟨runUnderlying24,fun w=>by simp [sizeOf22,sizeOf3],Tryz.zeroValue24⟩
theorem z24:∀hp O,CellsHold hp O [aInt 0,aInt 0,aEx (.slice none 0 0)] [.int .i64 0,.int .i64 0,.slice none 0 0]:=z_of az24
theorem ti25:TyInfo Tryz.prog 25 1 false:=⟨isAgg25,sizeOf25⟩
theorem sl25:SlInfo Tryz.prog 25 22 1:=⟨runUnderlying25,sizeOf22⟩
theorem vt25:VecTy Tryz.prog 25 22 1 24 false (.slice none 0 0):=vecTy_of underlying25 (by kernel_rfl) rfl (by decide) (fun _=>rfl) isAgg22
theorem ti27:TyInfo Tryz.prog 27 5 true:=⟨isAgg27,sizeOf27⟩
theorem zv27:∀w,(zeroValue 27).run Tryz.prog w = .ok (.agg #[.int .i64 0,.int .i64 0,.slice none 0 0,.int .i64 0,.slice none 0 0]) w:=Tryz.zeroValue27
theorem az27:AllZ [aInt 0,aInt 0,aEx (.slice none 0 0),aInt 0,aEx (.slice none 0 0)] [.int .i64 0,.int .i64 0,.slice none 0 0,.int .i64 0,.slice none 0 0]:=⟨fun _ _=>rfl,rfl,fun _ _=>rfl,rfl,fun _ _=>rfl,rfl,fun _ _=>rfl,rfl,fun _ _=>rfl,rfl,trivial⟩
theorem zc27:∀(hp:Heap) (O:Nat->Prop) (i:Nat) (A:AV) (u:Value),([aInt 0,aInt 0,aEx (.slice none 0 0),aInt 0,aEx (.slice none 0 0)]:List AV)[i]? = some A->([.int .i64 0,.int .i64 0,.slice none 0 0,.int .i64 0,.slice none 0 0]:List Value)[i]? = some u->A.holds hp O u/\u.oneCell'=true:=zc_of az27
theorem st27:StructTy Tryz.prog 27 #[{ name:="F",type:=24,offset:=0,embedded:=false,tag:="",pkgPath:="",byteOffset:=0 },{ name:="N",type:=3,offset:=3,embedded:=false,tag:="",pkgPath:="",byteOffset:=40 },{ name:="Gen",type:=25,offset:=4,embedded:=false,tag:="",pkgPath:="",byteOffset:=48 }] [(0,3),(3,1),(4,1)] [.int .i64 0,.int .i64 0,.slice none 0 0,.int .i64 0,.slice none 0 0]:=⟨runUnderlying27,fun w=>by simp [sizeOf24,sizeOf25,sizeOf3],Tryz.zeroValue27⟩
theorem z27:∀hp O,CellsHold hp O [aInt 0,aInt 0,aEx (.slice none 0 0),aInt 0,aEx (.slice none 0 0)] [.int .i64 0,.int .i64 0,.slice none 0 0,.int .i64 0,.slice none 0 0]:=z_of az27
theorem ti28:TyInfo Tryz.prog 28 1 false:=⟨isAgg28,sizeOf28⟩
theorem sl28:SlInfo Tryz.prog 28 45 3:=⟨runUnderlying28,sizeOf45⟩
theorem ti45:TyInfo Tryz.prog 45 3 true:=⟨isAgg45,sizeOf45⟩
theorem zv45:∀w,(zeroValue 45).run Tryz.prog w = .ok (.agg #[.int .i64 0,.int .i64 0,.int .i64 0]) w:=Tryz.zeroValue45
theorem az45:AllZ [aInt 0,aInt 0,aInt 0] [.int .i64 0,.int .i64 0,.int .i64 0]:=⟨fun _ _=>rfl,rfl,fun _ _=>rfl,rfl,fun _ _=>rfl,rfl,trivial⟩
theorem zc45:∀(hp:Heap) (O:Nat->Prop) (i:Nat) (A:AV) (u:Value),([aInt 0,aInt 0,aInt 0]:List AV)[i]? = some A->([.int .i64 0,.int .i64 0,.int .i64 0]:List Value)[i]? = some u->A.holds hp O u/\u.oneCell'=true:=zc_of az45
theorem st45:StructTy Tryz.prog 45 #[{ name:="Weight",type:=3,offset:=0,embedded:=false,tag:="",pkgPath:="",byteOffset:=0 },{ name:="Pos",type:=3,offset:=1,embedded:=false,tag:="",pkgPath:="",byteOffset:=8 },{ name:="Coef",type:=3,offset:=2,embedded:=false,tag:="",pkgPath:="",byteOffset:=16 }] [(0,1),(1,1),(2,1)] [.int .i64 0,.int .i64 0,.int .i64 0]:=⟨runUnderlying45,fun w=>by simp [sizeOf3],Tryz.zeroValue45⟩
theorem z45:∀hp O,CellsHold hp O [aInt 0,aInt 0,aInt 0] [.int .i64 0,.int .i64 0,.int .i64 0]:=z_of az45
theorem fo45:Tryz.prog.fieldsOf 45 = #[{ name:="Weight",type:=3,offset:=0,embedded:=false,tag:="",pkgPath:="",byteOffset:=0 },{ name:="Pos",type:=3,offset:=1,embedded:=false,tag:="",pkgPath:="",byteOffset:=8 },{ name:="Coef",type:=3,offset:=2,embedded:=false,tag:="",pkgPath:="",byteOffset:=16 }]:=by unfold Program.fieldsOf;rw [underlying45]
theorem is45:IntsTy Tryz.prog 45 3:=⟨by rw [fo45];exact underlying45,by rw [fo45];exact ⟨rfl,by decide,underlying3,isAgg3,rfl,by decide,underlying3,isAgg3,rfl,by decide,underlying3,isAgg3,trivial⟩,by rw [fo45];rfl,by kernel_rfl,by kernel_rfl⟩
theorem ti64:TyInfo Tryz.prog 64 1 false:=⟨isAgg64,sizeOf64⟩
theorem zv64:∀w,(zeroValue 64).run Tryz.prog w = .ok (.pointer none) w:=Tryz.zeroValue64
theorem az64:AllZ [aEx (.pointer none)] [.pointer none]:=⟨fun _ _=>rfl,rfl,trivial⟩
theorem zc64:∀(hp:Heap) (O:Nat->Prop) (i:Nat) (A:AV) (u:Value),([aEx (.pointer none)]:List AV)[i]? = some A->([.pointer none]:List Value)[i]? = some u->A.holds hp O u/\u.oneCell'=true:=zc_of az64
theorem ti68:TyInfo Tryz.prog 68 1 false:=⟨isAgg68,sizeOf68⟩
theorem zv68:∀w,(zeroValue 68).run Tryz.prog w = .ok (.pointer none) w:=Tryz.zeroValue68
theorem az68:AllZ [aEx (.pointer none)] [.pointer none]:=⟨fun _ _=>rfl,rfl,trivial⟩
theorem zc68:∀(hp:Heap) (O:Nat->Prop) (i:Nat) (A:AV) (u:Value),([aEx (.pointer none)]:List AV)[i]? = some A->([.pointer none]:List Value)[i]? = some u->A.holds hp O u/\u.oneCell'=true:=zc_of az68
theorem az70:AllZ [aEx (.pointer none),aInt 0,aInt 0,aInt 0,aInt 0,aEx (.slice none 0 0)] [.pointer none,.int .i64 0,.int .i64 0,.int .i64 0,.int .i64 0,.slice none 0 0]:=⟨fun _ _=>rfl,rfl,fun _ _=>rfl,rfl,fun _ _=>rfl,rfl,fun _ _=>rfl,rfl,fun _ _=>rfl,rfl,fun _ _=>rfl,rfl,trivial⟩
theorem st70:StructTy Tryz.prog 70 #[{ name:="g",type:=68,offset:=0,embedded:=false,tag:="",pkgPath:="codewright/coset",byteOffset:=0 },{ name:="q",type:=3,offset:=1,embedded:=false,tag:="",pkgPath:="codewright/coset",byteOffset:=8 },{ name:="n",type:=3,offset:=2,embedded:=false,tag:="",pkgPath:="codewright/coset",byteOffset:=16 },{ name:="r",type:=3,offset:=3,embedded:=false,tag:="",pkgPath:="codewright/coset",byteOffset:=24 },{ name:="count",type:=3,offset:=4,embedded:=false,tag:="",pkgPath:="codewright/coset",byteOffset:=32 },{ name:="cols",type:=25,offset:=5,embedded:=false,tag:="",pkgPath:="codewright/coset",byteOffset:=40 }] [(0,1),(1,1),(2,1),(3,1),(4,1),(5,1)] [.pointer none,.int .i64 0,.int .i64 0,.int .i64 0,.int .i64 0,.slice none 0 0]:=⟨runUnderlying70,fun w=>by simp [sizeOf25,sizeOf3,sizeOf68],Tryz.zeroValue70⟩
theorem z70:∀hp O,CellsHold hp O [aEx (.pointer none),aInt 0,aInt 0,aInt 0,aInt 0,aEx (.slice none 0 0)] [.pointer none,.int .i64 0,.int .i64 0,.int .i64 0,.int .i64 0,.slice none 0 0]:=z_of az70
theorem ti77:TyInfo Tryz.prog 77 1 false:=⟨isAgg77,sizeOf77⟩
theorem zv77:∀w,(zeroValue 77).run Tryz.prog w = .ok (.map none) w:=Tryz.zeroValue77
theorem az77:AllZ [aEx (.map none)] [.map none]:=⟨fun _ _=>rfl,rfl,trivial⟩
theorem zc77:∀(hp:Heap) (O:Nat->Prop) (i:Nat) (A:AV) (u:Value),([aEx (.map none)]:List AV)[i]? = some A->([.map none]:List Value)[i]? = some u->A.holds hp O u/\u.oneCell'=true:=zc_of az77
theorem ti78:TyInfo Tryz.prog 78 1 false:=⟨isAgg78,sizeOf78⟩
theorem zv78:∀w,(zeroValue 78).run Tryz.prog w = .ok (.nilFunc) w:=Tryz.zeroValue78
theorem az78:AllZ [aEx .nilFunc] [.nilFunc]:=⟨fun _ _=>rfl,rfl,trivial⟩
theorem zc78:∀(hp:Heap) (O:Nat->Prop) (i:Nat) (A:AV) (u:Value),([aEx .nilFunc]:List AV)[i]? = some A->([.nilFunc]:List Value)[i]? = some u->A.holds hp O u/\u.oneCell'=true:=zc_of az78
theorem ti107:TyInfo Tryz.prog 107 2 true:=⟨isAgg107,sizeOf107⟩
theorem zv107:∀w,(zeroValue 107).run Tryz.prog w = .ok (.agg #[.int .i64 0,.slice none 0 0]) w:=Tryz.zeroValue107
theorem az107:AllZ [aInt 0,aEx (.slice none 0 0)] [.int .i64 0,.slice none 0 0]:=⟨fun _ _=>rfl,rfl,fun _ _=>rfl,rfl,trivial⟩
theorem zc107:∀(hp:Heap) (O:Nat->Prop) (i:Nat) (A:AV) (u:Value),([aInt 0,aEx (.slice none 0 0)]:List AV)[i]? = some A->([.int .i64 0,.slice none 0 0]:List Value)[i]? = some u->A.holds hp O u/\u.oneCell'=true:=zc_of az107
theorem st107:StructTy Tryz.prog 107 #[{ name:="Cols",type:=3,offset:=0,embedded:=false,tag:="",pkgPath:="",byteOffset:=0 },{ name:="Rows",type:=25,offset:=1,embedded:=false,tag:="",pkgPath:="",byteOffset:=8 }] [(0,1),(1,1)] [.int .i64 0,.slice none 0 0]:=⟨runUnderlying107,fun w=>by simp [sizeOf25,sizeOf3],Tryz.zeroValue107⟩
theorem z107:∀hp O,CellsHold hp O [aInt 0,aEx (.slice none 0 0)] [.int .i64 0,.slice none 0 0]:=z_of az107
theorem az116:AllZ [aInt 0,aInt 0,aEx (.slice none 0 0),aInt 0,aEx (.slice none 0 0),aEx (.slice none 0 0)] [.int .i64 0,.int .i64 0,.slice none 0 0,.int .i64 0,.slice none 0 0,.slice none 0 0]:=⟨fun _ _=>rfl,rfl,fun _ _=>rfl,rfl,fun _ _=>rfl,rfl,fun _ _=>rfl,rfl,fun _ _=>rfl,rfl,fun _ _=>rfl,rfl,trivial⟩
theorem st116:StructTy Tryz.prog 116 #[{ name:="f",type:=24,offset:=0,embedded:=false,tag:="",pkgPath:="codewright/field",byteOffset:=0 },{ name:="q",type:=3,offset:=3,embedded:=false,tag:="",pkgPath:="codewright/field",byteOffset:=40 },{ name:="exp",type:=22,offset:=4,embedded:=false,tag:="",pkgPath:="codewright/field",byteOffset:=48 },{ name:="log",type:=22,offset:=5,embedded:=false,tag:="",pkgPath:="codewright/field",byteOffset:=72 }] [(0,3),(3,1),(4,1),(5,1)] [.int .i64 0,.int .i64 0,.slice none 0 0,.int .i64 0,.slice none 0 0,.slice none 0 0]:=⟨runUnderlying116,fun w=>by simp [sizeOf22,sizeOf24,sizeOf3],Tryz.zeroValue116⟩
theorem z116:∀hp O,CellsHold hp O [aInt 0,aInt 0,aEx (.slice none 0 0),aInt 0,aEx (.slice none 0 0),aEx (.slice none 0 0)] [.int .i64 0,.int .i64 0,.slice none 0 0,.int .i64 0,.slice none 0 0,.slice none 0 0]:=z_of az116
theorem sl140:SlInfo Tryz.prog 140 107 2:=⟨runUnderlying140,sizeOf107⟩
theorem vt140:VecTy Tryz.prog 140 107 2 32 true (.agg #[.int .i64 0,.slice none 0 0]):=vecTy_of underlying140 (by kernel_rfl) rfl (by decide) (fun h=>by cases h) isAgg107
theorem ti148:TyInfo Tryz.prog 148 4 true:=⟨isAgg148,sizeOf148⟩
theorem zv148:∀w,(zeroValue 148).run Tryz.prog w = .ok (.agg #[.pointer none,.int .i64 0,.slice none 0 0,.slice none 0 0]) w:=Tryz.zeroValue148
theorem az148:AllZ [aEx (.pointer none),aInt 0,aEx (.slice none 0 0),aEx (.slice none 0 0)] [.pointer none,.int .i64 0,.slice none 0 0,.slice none 0 0]:=⟨fun _ _=>rfl,rfl,fun _ _=>rfl,rfl,fun _ _=>rfl,rfl,fun _ _=>rfl,rfl,trivial⟩
theorem zc148:∀(hp:Heap) (O:Nat->Prop) (i:Nat) (A:AV) (u:Value),([aEx (.pointer none),aInt 0,aEx (.slice none 0 0),aEx (.slice none 0 0)]:List AV)[i]? = some A->([.pointer none,.int .i64 0,.slice none 0 0,.slice none 0 0]:List Value)[i]? = some u->A.holds hp O u/\u.oneCell'=true:=zc_of az148
theorem st148:StructTy Tryz.prog 148 #[{ name:="g",type:=68,offset:=0,embedded:=false,tag:="",pkgPath:="codewright/space",byteOffset:=0 },{ name:="a",type:=107,offset:=1,embedded:=false,tag:="",pkgPath:="codewright/space",byteOffset:=8 },{ name:="pivots",type:=22,offset:=3,embedded:=false,tag:="",pkgPath:="codewright/space",byteOffset:=40 }] [(0,1),(1,2),(3,1)] [.pointer none,.int .i64 0,.slice none 0 0,.slice none 0 0]:=⟨runUnderlying148,fun w=>by simp [sizeOf107,sizeOf22,sizeOf68],Tryz.zeroValue148⟩
theorem z148:∀hp O,CellsHold hp O [aEx (.pointer none),aInt 0,aEx (.slice none 0 0),aEx (.slice none 0 0)] [.pointer none,.int .i64 0,.slice none 0 0,.slice none 0 0]:=z_of az148
theorem sl152:SlInfo Tryz.prog 152 4 1:=⟨runUnderlying152,sizeOf4⟩
theorem vt152:VecTy Tryz.prog 152 4 1 1 false (.bool false):=vecTy_of underlying152 (by kernel_rfl) rfl (by decide) (fun _=>rfl) isAgg4
end Go.Proofs.YtcilbmggiahciaaGreat

