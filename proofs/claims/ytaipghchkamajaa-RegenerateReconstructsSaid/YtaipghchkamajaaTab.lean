/-
  Walks.
-/
import Derived.Test.YtaipghchkamajaaProg
import Derived.KernelRfl
import Derived.Test.YtaipghchkamajaaCxLib
open Go Go.Cw
namespace Go.Proofs.Ytaipghchkamajaa
set_option maxRecDepth 100000
theorem mixed:Try.prog.follows .mixedOrders=true:=by kernel_rfl
theorem ti3:TyInfo Try.prog 3 1 false:=⟨Try.isAgg3,Try.sizeOf3⟩
theorem zv3:∀w,(zeroValue 3).run Try.prog w = .ok (.int .i64 0) w:=Try.zeroValue3
theorem az3:AllZ [aInt 0] [.int .i64 0]:=⟨fun _ _=>rfl,rfl,trivial⟩
theorem zc3:∀(hp:Heap) (O:Nat->Prop) (i:Nat) (A:AV) (u:Value),([aInt 0]:List AV)[i]? = some A->([.int .i64 0]:List Value)[i]? = some u->A.holds hp O u/\u.oneCell'=true:=zc_of az3
theorem ti4:TyInfo Try.prog 4 1 false:=⟨Try.isAgg4,Try.sizeOf4⟩
theorem ti29:TyInfo Try.prog 29 1 false:=⟨Try.isAgg29,Try.sizeOf29⟩
theorem sl29:SlInfo Try.prog 29 3 1:=⟨Try.runUnderlying29,Try.sizeOf3⟩
theorem vt29:VecTy Try.prog 29 3 1 8 false (.int .i64 0):=F_e Try.underlying29 (by kernel_rfl) rfl (by decide) (fun _=>rfl) Try.isAgg3
theorem sl42:SlInfo Try.prog 42 4 1:=⟨Try.runUnderlying42,Try.sizeOf4⟩
theorem vt42:VecTy Try.prog 42 4 1 1 false (.bool false):=F_e Try.underlying42 (by kernel_rfl) rfl (by decide) (fun _=>rfl) Try.isAgg4
theorem ti51:TyInfo Try.prog 51 3 true:=⟨Try.isAgg51,Try.sizeOf51⟩
theorem az51:AllZ [aInt 0,aInt 0,aEx (.slice none 0 0)] [.int .i64 0,.int .i64 0,.slice none 0 0]:=⟨fun _ _=>rfl,rfl,fun _ _=>rfl,rfl,fun _ _=>rfl,rfl,trivial⟩
theorem st51:StructTy Try.prog 51 #[{ name:="P",type:=3,offset:=0,embedded:=false,tag:="",pkgPath:="",byteOffset:=0 },{ name:="M",type:=3,offset:=1,embedded:=false,tag:="",pkgPath:="",byteOffset:=8 },{ name:="Mod",type:=29,offset:=2,embedded:=false,tag:="",pkgPath:="",byteOffset:=16 }] [(0,1),(1,1),(2,1)] [.int .i64 0,.int .i64 0,.slice none 0 0]:=⟨Try.runUnderlying51,fun w=>by simp [Try.sizeOf29,Try.sizeOf3],Try.zeroValue51⟩
theorem z51:∀hp O,CellsHold hp O [aInt 0,aInt 0,aEx (.slice none 0 0)] [.int .i64 0,.int .i64 0,.slice none 0 0]:=z_of az51
theorem ti53:TyInfo Try.prog 53 7 true:=⟨Try.isAgg53,Try.sizeOf53⟩
theorem ti65:TyInfo Try.prog 65 1 false:=⟨Try.isAgg65,Try.sizeOf65⟩
theorem sl65:SlInfo Try.prog 65 29 1:=⟨Try.runUnderlying65,Try.sizeOf29⟩
theorem vt65:VecTy Try.prog 65 29 1 24 false (.slice none 0 0):=F_e Try.underlying65 (by kernel_rfl) rfl (by decide) (fun _=>rfl) Try.isAgg29
theorem ti95:TyInfo Try.prog 95 1 false:=⟨Try.isAgg95,Try.sizeOf95⟩
theorem ti107:TyInfo Try.prog 107 2 true:=⟨Try.isAgg107,Try.sizeOf107⟩
theorem zv107:∀w,(zeroValue 107).run Try.prog w = .ok (.agg #[.int .i64 0,.slice none 0 0]) w:=Try.zeroValue107
theorem az107:AllZ [aInt 0,aEx (.slice none 0 0)] [.int .i64 0,.slice none 0 0]:=⟨fun _ _=>rfl,rfl,fun _ _=>rfl,rfl,trivial⟩
theorem zc107:∀(hp:Heap) (O:Nat->Prop) (i:Nat) (A:AV) (u:Value),([aInt 0,aEx (.slice none 0 0)]:List AV)[i]? = some A->([.int .i64 0,.slice none 0 0]:List Value)[i]? = some u->A.holds hp O u/\u.oneCell'=true:=zc_of az107
theorem st107:StructTy Try.prog 107 #[{ name:="Cols",type:=3,offset:=0,embedded:=false,tag:="",pkgPath:="",byteOffset:=0 },{ name:="Rows",type:=65,offset:=1,embedded:=false,tag:="",pkgPath:="",byteOffset:=8 }] [(0,1),(1,1)] [.int .i64 0,.slice none 0 0]:=⟨Try.runUnderlying107,fun w=>by simp [Try.sizeOf3,Try.sizeOf65],Try.zeroValue107⟩
theorem z107:∀hp O,CellsHold hp O [aInt 0,aEx (.slice none 0 0)] [.int .i64 0,.slice none 0 0]:=z_of az107
theorem az118:AllZ [aInt 0,aInt 0,aEx (.slice none 0 0),aInt 0,aInt 0,aInt 0,aEx (.slice none 0 0),aEx (.pointer none),aEx (.slice none 0 0),aEx (.slice none 0 0)] [.int .i64 0,.int .i64 0,.slice none 0 0,.int .i64 0,.int .i64 0,.int .i64 0,.slice none 0 0,.pointer none,.slice none 0 0,.slice none 0 0]:=⟨fun _ _=>rfl,rfl,fun _ _=>rfl,rfl,fun _ _=>rfl,rfl,fun _ _=>rfl,rfl,fun _ _=>rfl,rfl,fun _ _=>rfl,rfl,fun _ _=>rfl,rfl,fun _ _=>rfl,rfl,fun _ _=>rfl,rfl,fun _ _=>rfl,rfl,trivial⟩
theorem st118:StructTy Try.prog 118 #[{ name:="r",type:=53,offset:=0,embedded:=false,tag:="",pkgPath:="codewright/regenerate",byteOffset:=0 },{ name:="g",type:=95,offset:=7,embedded:=false,tag:="",pkgPath:="codewright/regenerate",byteOffset:=88 },{ name:="points",type:=29,offset:=8,embedded:=false,tag:="",pkgPath:="codewright/regenerate",byteOffset:=96 },{ name:="contents",type:=65,offset:=9,embedded:=false,tag:="",pkgPath:="codewright/regenerate",byteOffset:=120 }] [(0,7),(7,1),(8,1),(9,1)] [.int .i64 0,.int .i64 0,.slice none 0 0,.int .i64 0,.int .i64 0,.int .i64 0,.slice none 0 0,.pointer none,.slice none 0 0,.slice none 0 0]:=⟨Try.runUnderlying118,fun w=>by simp [Try.sizeOf29,Try.sizeOf53,Try.sizeOf65,Try.sizeOf95],Try.zeroValue118⟩
theorem z118:∀hp O,CellsHold hp O [aInt 0,aInt 0,aEx (.slice none 0 0),aInt 0,aInt 0,aInt 0,aEx (.slice none 0 0),aEx (.pointer none),aEx (.slice none 0 0),aEx (.slice none 0 0)] [.int .i64 0,.int .i64 0,.slice none 0 0,.int .i64 0,.int .i64 0,.int .i64 0,.slice none 0 0,.pointer none,.slice none 0 0,.slice none 0 0]:=z_of az118
theorem az130:AllZ [aInt 0,aInt 0,aEx (.slice none 0 0),aInt 0,aEx (.slice none 0 0),aEx (.slice none 0 0)] [.int .i64 0,.int .i64 0,.slice none 0 0,.int .i64 0,.slice none 0 0,.slice none 0 0]:=⟨fun _ _=>rfl,rfl,fun _ _=>rfl,rfl,fun _ _=>rfl,rfl,fun _ _=>rfl,rfl,fun _ _=>rfl,rfl,fun _ _=>rfl,rfl,trivial⟩
theorem st130:StructTy Try.prog 130 #[{ name:="f",type:=51,offset:=0,embedded:=false,tag:="",pkgPath:="codewright/field",byteOffset:=0 },{ name:="q",type:=3,offset:=3,embedded:=false,tag:="",pkgPath:="codewright/field",byteOffset:=40 },{ name:="exp",type:=29,offset:=4,embedded:=false,tag:="",pkgPath:="codewright/field",byteOffset:=48 },{ name:="log",type:=29,offset:=5,embedded:=false,tag:="",pkgPath:="codewright/field",byteOffset:=72 }] [(0,3),(3,1),(4,1),(5,1)] [.int .i64 0,.int .i64 0,.slice none 0 0,.int .i64 0,.slice none 0 0,.slice none 0 0]:=⟨Try.runUnderlying130,fun w=>by simp [Try.sizeOf29,Try.sizeOf3,Try.sizeOf51],Try.zeroValue130⟩
theorem z130:∀hp O,CellsHold hp O [aInt 0,aInt 0,aEx (.slice none 0 0),aInt 0,aEx (.slice none 0 0),aEx (.slice none 0 0)] [.int .i64 0,.int .i64 0,.slice none 0 0,.int .i64 0,.slice none 0 0,.slice none 0 0]:=z_of az130
theorem sl147:SlInfo Try.prog 147 65 1:=⟨Try.runUnderlying147,Try.sizeOf65⟩
theorem vt147:VecTy Try.prog 147 65 1 24 false (.slice none 0 0):=F_e Try.underlying147 (by kernel_rfl) rfl (by decide) (fun _=>rfl) Try.isAgg65
theorem sl152:SlInfo Try.prog 152 107 2:=⟨Try.runUnderlying152,Try.sizeOf107⟩
theorem vt152:VecTy Try.prog 152 107 2 32 true (.agg #[.int .i64 0,.slice none 0 0]):=F_e Try.underlying152 (by kernel_rfl) rfl (by decide) (fun h=>by cases h) Try.isAgg107
end Go.Proofs.Ytaipghchkamajaa
