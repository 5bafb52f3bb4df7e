/- What the functions that are walked by hand come to: which paths are valid, their texts, a text read, a number in front, a path nearly valid. No program in sight. -/
import Derived.Test.YtgfmodmeimhhpaaGreatDoorDP
import Derived.Lib.AtoiAll
namespace Go.Proofs.YtgfmodmeimhhpaaGreatDoor
open Go.VM
abbrev Seg:=Bool×List Int
abbrev zS:Seg:=(false,([]:List Int))
def num(a:Int):Bool:=decide (1<=a/\a<=4294967295)
def numOk(s:Seg)(k:Nat):Bool:=num (s.2.getD k 0)&&(decide (k=0)||!s.1||decide (s.2.getD (k-1) 0<s.2.getD k 0))
def numsOk(s:Seg):Bool:=(List.range' 0 s.2.length).all (numOk s)
def segOk(p:List Seg)(i:Nat):Bool:=!(p.getD i zS).2.isEmpty&&(decide (i=0)||(p.getD i zS).1||(p.getD (i-1) zS).1)&&numsOk (p.getD i zS)
def tot(p:List Seg):Nat:=(p.map fun s=>s.2.length).sum
def pvd(p:List Seg):Bool:=(List.range' 0 p.length).all (segOk p)&&decide (tot p<=64)
def Mid(p:List Seg):Prop:=p.length<=1000/\∀s∈p,s.2.length<=100000
end Go.Proofs.YtgfmodmeimhhpaaGreatDoor
