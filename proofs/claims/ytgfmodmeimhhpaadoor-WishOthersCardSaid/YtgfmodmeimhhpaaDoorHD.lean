/- What the functions that are walked by hand come to: which paths are valid, their texts, a text read, a number in front, a path nearly valid. No program in sight. -/
import Derived.Test.YtgfmodmeimhhpaaDoorDP
import Derived.Lib.AtoiAll
namespace Go.Proofs.YtgfmodmeimhhpaaDoor
open Go.VM
abbrev Seg:=Bool×List Int
abbrev zS:Seg:=(false,([]:List Int))
def num(a:Int):Bool:=decide (1<=a/\a<=4294967295)
def numOk(s:Seg)(k:Nat):Bool:=num (s.2.getD k 0)&&(decide (k=0)||!s.1||decide (s.2.getD (k-1) 0<s.2.getD k 0))
def numsOk(s:Seg):Bool:=(List.range' 0 s.2.length).all (numOk s)
def segOk(p:List Seg)(i:Nat):Bool:=!(p.getD i zS).2.isEmpty&&(decide (i=0)||(p.getD i zS).1||(p.getD (i-1) zS).1)&&numsOk (p.getD i zS)
def tot(p:List Seg):Nat:=(p.map fun s=>s.2.length).sum
def pvd(p:List Seg):Bool:=(List.range' 0 p.length).all (segOk p)&&decide (tot p<=64)
def Mid(p:List Seg):Prop:=p.length<=1000/\∀s∈p,s.2.length<=100000
def preP(p:List Seg)(a:Int)(k:Nat):List Seg:=
 match p with
 |[]=>[(false,List.replicate k a)]|s::r=>if s.1=true then(false,List.replicate k a)::s::r else(false,List.replicate k a++s.2)::r
def prepD(p:List Seg)(a n:Int):List Seg×Int:=
 if(!pvd p||!num a||decide (n<0))=true then([],1)else if n>64-((tot p:Nat):Int)then([],3)else if n=0 then(p,0)else(preP p a n.toNat,0)
end Go.Proofs.YtgfmodmeimhhpaaDoor
