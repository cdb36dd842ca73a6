/-
  Facts on the types of this translation.
-/
import Derived.Test.YtaipghchkamajaaProg
import Derived.KernelRfl
import Derived.Test.YtaipghchkamajaaCw
open Go Go.Cw
namespace Go.Proofs.Ytaipghchkamajaa
theorem mixed : Try.prog.follows .mixedOrders = true := by kernel_rfl
theorem ti2 : TyInfo Try.prog 2 1 false := ⟨Try.isAgg2, Try.sizeOf2⟩
theorem ti3 : TyInfo Try.prog 3 1 false := ⟨Try.isAgg3, Try.sizeOf3⟩
theorem ti4 : TyInfo Try.prog 4 1 false := ⟨Try.isAgg4, Try.sizeOf4⟩
theorem ti5 : TyInfo Try.prog 5 1 false := ⟨Try.isAgg5, Try.sizeOf5⟩
theorem ti6 : TyInfo Try.prog 6 1 false := ⟨Try.isAgg6, Try.sizeOf6⟩
theorem ti7 : TyInfo Try.prog 7 4 true := ⟨Try.isAgg7, Try.sizeOf7⟩
theorem ti8 : TyInfo Try.prog 8 4 true := ⟨Try.isAgg8, Try.sizeOf8⟩
theorem ti12 : TyInfo Try.prog 12 1 false := ⟨Try.isAgg12, Try.sizeOf12⟩
theorem ti13 : TyInfo Try.prog 13 2 true := ⟨Try.isAgg13, Try.sizeOf13⟩
theorem ti14 : TyInfo Try.prog 14 2 true := ⟨Try.isAgg14, Try.sizeOf14⟩
theorem ti15 : TyInfo Try.prog 15 1 false := ⟨Try.isAgg15, Try.sizeOf15⟩
theorem ti16 : TyInfo Try.prog 16 1 false := ⟨Try.isAgg16, Try.sizeOf16⟩
theorem ti17 : TyInfo Try.prog 17 1 false := ⟨Try.isAgg17, Try.sizeOf17⟩
theorem ti18 : TyInfo Try.prog 18 1 true := ⟨Try.isAgg18, Try.sizeOf18⟩
theorem ti19 : TyInfo Try.prog 19 1 true := ⟨Try.isAgg19, Try.sizeOf19⟩
theorem ti21 : TyInfo Try.prog 21 1 false := ⟨Try.isAgg21, Try.sizeOf21⟩
theorem ti22 : TyInfo Try.prog 22 1 false := ⟨Try.isAgg22, Try.sizeOf22⟩
theorem ti28 : TyInfo Try.prog 28 1 false := ⟨Try.isAgg28, Try.sizeOf28⟩
theorem sl28 : SlInfo Try.prog 28 40 2 := ⟨Try.runUnderlying28, Try.sizeOf40⟩
theorem vt28 : VecTy Try.prog 28 40 2 32 true (.agg #[.int .i64 0, .slice none 0 0]) := vecTy_of Try.underlying28 (by kernel_rfl) rfl (by decide) (fun h => by cases h) Try.isAgg40
theorem ti29 : TyInfo Try.prog 29 1 false := ⟨Try.isAgg29, Try.sizeOf29⟩
theorem sl29 : SlInfo Try.prog 29 3 1 := ⟨Try.runUnderlying29, Try.sizeOf3⟩
theorem vt29 : VecTy Try.prog 29 3 1 8 false (.int .i64 0) := vecTy_of Try.underlying29 (by kernel_rfl) rfl (by decide) (fun _ => rfl) Try.isAgg3
theorem ti30 : TyInfo Try.prog 30 1 false := ⟨Try.isAgg30, Try.sizeOf30⟩
theorem sl30 : SlInfo Try.prog 30 89 3 := ⟨Try.runUnderlying30, Try.sizeOf89⟩
theorem vt30 : VecTy Try.prog 30 89 3 24 true (.agg #[.int .i64 0, .int .i64 0, .int .i64 0]) := vecTy_of Try.underlying30 (by kernel_rfl) rfl (by decide) (fun h => by cases h) Try.isAgg89
theorem ti31 : TyInfo Try.prog 31 2 true := ⟨Try.isAgg31, Try.sizeOf31⟩
theorem ti32 : TyInfo Try.prog 32 2 true := ⟨Try.isAgg32, Try.sizeOf32⟩
theorem ti39 : TyInfo Try.prog 39 2 true := ⟨Try.isAgg39, Try.sizeOf39⟩
theorem ti40 : TyInfo Try.prog 40 2 true := ⟨Try.isAgg40, Try.sizeOf40⟩
theorem ti42 : TyInfo Try.prog 42 1 false := ⟨Try.isAgg42, Try.sizeOf42⟩
theorem sl42 : SlInfo Try.prog 42 4 1 := ⟨Try.runUnderlying42, Try.sizeOf4⟩
theorem vt42 : VecTy Try.prog 42 4 1 1 false (.bool false) := vecTy_of Try.underlying42 (by kernel_rfl) rfl (by decide) (fun _ => rfl) Try.isAgg4
theorem ti43 : TyInfo Try.prog 43 3 true := ⟨Try.isAgg43, Try.sizeOf43⟩
theorem ti44 : TyInfo Try.prog 44 3 true := ⟨Try.isAgg44, Try.sizeOf44⟩
theorem ti50 : TyInfo Try.prog 50 3 true := ⟨Try.isAgg50, Try.sizeOf50⟩
theorem ti51 : TyInfo Try.prog 51 3 true := ⟨Try.isAgg51, Try.sizeOf51⟩
theorem ti52 : TyInfo Try.prog 52 7 true := ⟨Try.isAgg52, Try.sizeOf52⟩
theorem ti53 : TyInfo Try.prog 53 7 true := ⟨Try.isAgg53, Try.sizeOf53⟩
theorem ti65 : TyInfo Try.prog 65 1 false := ⟨Try.isAgg65, Try.sizeOf65⟩
theorem sl65 : SlInfo Try.prog 65 29 1 := ⟨Try.runUnderlying65, Try.sizeOf29⟩
theorem vt65 : VecTy Try.prog 65 29 1 24 false (.slice none 0 0) := vecTy_of Try.underlying65 (by kernel_rfl) rfl (by decide) (fun _ => rfl) Try.isAgg29
theorem ti88 : TyInfo Try.prog 88 3 true := ⟨Try.isAgg88, Try.sizeOf88⟩
theorem ti89 : TyInfo Try.prog 89 3 true := ⟨Try.isAgg89, Try.sizeOf89⟩
theorem ti95 : TyInfo Try.prog 95 1 false := ⟨Try.isAgg95, Try.sizeOf95⟩
theorem ti106 : TyInfo Try.prog 106 2 true := ⟨Try.isAgg106, Try.sizeOf106⟩
theorem ti107 : TyInfo Try.prog 107 2 true := ⟨Try.isAgg107, Try.sizeOf107⟩
theorem ti116 : TyInfo Try.prog 116 1 false := ⟨Try.isAgg116, Try.sizeOf116⟩
theorem ti117 : TyInfo Try.prog 117 10 true := ⟨Try.isAgg117, Try.sizeOf117⟩
theorem ti118 : TyInfo Try.prog 118 10 true := ⟨Try.isAgg118, Try.sizeOf118⟩
theorem ti129 : TyInfo Try.prog 129 6 true := ⟨Try.isAgg129, Try.sizeOf129⟩
theorem ti130 : TyInfo Try.prog 130 6 true := ⟨Try.isAgg130, Try.sizeOf130⟩
theorem ti147 : TyInfo Try.prog 147 1 false := ⟨Try.isAgg147, Try.sizeOf147⟩
theorem sl147 : SlInfo Try.prog 147 65 1 := ⟨Try.runUnderlying147, Try.sizeOf65⟩
theorem vt147 : VecTy Try.prog 147 65 1 24 false (.slice none 0 0) := vecTy_of Try.underlying147 (by kernel_rfl) rfl (by decide) (fun _ => rfl) Try.isAgg65
theorem ti152 : TyInfo Try.prog 152 1 false := ⟨Try.isAgg152, Try.sizeOf152⟩
theorem sl152 : SlInfo Try.prog 152 107 2 := ⟨Try.runUnderlying152, Try.sizeOf107⟩
theorem vt152 : VecTy Try.prog 152 107 2 32 true (.agg #[.int .i64 0, .slice none 0 0]) := vecTy_of Try.underlying152 (by kernel_rfl) rfl (by decide) (fun h => by cases h) Try.isAgg107
theorem ti163 : TyInfo Try.prog 163 4 true := ⟨Try.isAgg163, Try.sizeOf163⟩
theorem ti164 : TyInfo Try.prog 164 4 true := ⟨Try.isAgg164, Try.sizeOf164⟩
theorem ti169 : TyInfo Try.prog 169 1 false := ⟨Try.isAgg169, Try.sizeOf169⟩
theorem ti170 : TyInfo Try.prog 170 1 false := ⟨Try.isAgg170, Try.sizeOf170⟩
theorem ti171 : TyInfo Try.prog 171 1 false := ⟨Try.isAgg171, Try.sizeOf171⟩
theorem ti173 : TyInfo Try.prog 173 1 false := ⟨Try.isAgg173, Try.sizeOf173⟩
theorem ti174 : TyInfo Try.prog 174 1 false := ⟨Try.isAgg174, Try.sizeOf174⟩
theorem ti175 : TyInfo Try.prog 175 1 false := ⟨Try.isAgg175, Try.sizeOf175⟩
theorem ti176 : TyInfo Try.prog 176 11 true := ⟨Try.isAgg176, Try.sizeOf176⟩
theorem ti177 : TyInfo Try.prog 177 11 true := ⟨Try.isAgg177, Try.sizeOf177⟩
end Go.Proofs.Ytaipghchkamajaa
