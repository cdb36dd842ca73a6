/-
  Plain facts.
-/
import Derived.Test.YtcilbmggiahciaaGreatPlainJ1
set_option linter.unusedVariables false
set_option linter.unusedSimpArgs false
set_option linter.unusedSectionVars false
namespace Go.Cw
def badIn (n but:Int) (l:List Int):Prop:=∃x∈l,(x<0\/n<=x)\/x=but
instance (n but:Int) (l:List Int):Decidable (badIn n but l):=by unfold badIn;infer_instance
def lstErr (n but:Int) (l:List Int):Int:=if badIn n but l then 6 else if l.Nodup then 0 else 18
abbrev Fl:=Int×List Int
abbrev Arc3:=Int×Int×Int
def flErr (n:Int) (f:Fl):Int:=if f.1<0\/n<=f.1 then 6 else lstErr n f.1 f.2
def hErr (n:Int):List Fl->Int
 | []=>0
 | f::r=>if flErr n f=0 then hErr n r else flErr n f
def hArcs (l:List Fl):Int:=(l.map fun f=>(f.2.length:Int)).sum
def rngBad (n a b:Int):Prop:=(((((n<1\/64<n)\/a<0)\/1048576<a)\/b<0)\/1048576<b)
instance (n a b:Int):Decidable (rngBad n a b):=by unfold rngBad;infer_instance
def tooBig (n:Int) (h:List Fl) (c:List Int):Prop:=256<2*(n+(h.length:Int))+2\/1024<2*n+(h.length:Int)+(c.length:Int)+hArcs h
instance (n:Int) (h:List Fl) (c:List Int):Decidable (tooBig n h c):=by unfold tooBig;infer_instance
def lastN (n:Int) (h:List Fl):Nat->List Int
 | 0=>mapR id n
 | i+1=>(lastN n h i).set (h.getD i (0,[])).1.toNat (n+i)
@[simp] theorem length_lastN (n:Int) (h:List Fl) (i:Nat):(lastN n h i).length=n.toNat:=by
 induction i with
 | zero=>exact A_j _ _
 | succ i ih=>simp [lastN,ih]
structure GOk (n a b:Int) (h:List Fl) (c:List Int):Prop where
 rng:¬rngBad n a b
 hist:hErr n h=0
 coll:lstErr n (-1) c=0
 big:¬tooBig n h c
def sameNet (v:Int) (l:List Arc3) (v':Int) (l':List Arc3):Prop:=v=v'/\l=l'
instance (v:Int) (l:List Arc3) (v':Int) (l':List Arc3):Decidable (sameNet v l v' l'):=by unfold sameNet;infer_instance
end Go.Cw
