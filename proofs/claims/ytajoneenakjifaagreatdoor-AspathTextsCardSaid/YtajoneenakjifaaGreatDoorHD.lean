/- What the functions that are walked by hand come to: which paths are valid, their texts, a text read, a number in front, a path nearly valid. No program in sight. -/
import Derived.Test.YtajoneenakjifaaGreatDoorT31
import Derived.Test.YtajoneenakjifaaGreatDoorDP
import Derived.Lib.AtoiAll
import Derived.Lib.FieldsLaws
namespace Go.Proofs.YtajoneenakjifaaGreatDoor
open Go.VM Go.Txt
abbrev Seg:=Bool×List Int
abbrev zS:Seg:=(false,([]:List Int))
def num (a:Int):Bool:=decide (1≤a∧a≤4294967295)
def numOk (s:Seg) (k:Nat):Bool:=num (s.2.getD k 0)&&(decide (k=0)||!s.1||decide (s.2.getD (k - 1) 0 < s.2.getD k 0))
def numsOk (s:Seg):Bool:=(List.range' 0 s.2.length).all (numOk s)
def segOk (p:List Seg) (i:Nat):Bool:=!(p.getD i zS).2.isEmpty&&(decide (i=0)||(p.getD i zS).1||(p.getD (i - 1) zS).1)&&numsOk (p.getD i zS)
def tot (p:List Seg):Nat:=(p.map fun s=>s.2.length).sum
def pvd (p:List Seg):Bool:=(List.range' 0 p.length).all (segOk p)&&decide (tot p≤64)
def Mid (p:List Seg):Prop:=p.length≤1000∧∀ s∈p,s.2.length≤100000
def joinS (l:List Int) (c:UInt8):List UInt8:=Lib.join (l.map Lib.itoa) [c]
def segT (s:Seg):List UInt8:=if s.1=true then [123]++joinS s.2 44++[125] else joinS s.2 32
def prt (p:List Seg):List UInt8:=Lib.join (p.map segT) [32]
/-- The numbers of a word. -/
def wdN:List (List UInt8)→List Int→Option (List Int)
 | [],acc=>some acc
 | x::r,acc=>if (aD4 x).2=true then none else wdN r (acc++[(aD4 x).1])
def isSet (s:List UInt8):Bool:=decide (2 < s.length)&&(iJ s).getD 0 0==123&&(iJ s).getD (s.length - 1) 0==125
def wdT (s:List UInt8):List UInt8:=if isSet s=true then (s.take (s.length - 1)).drop 1 else s
/-- A word. -/
def wd (s:List UInt8):Option Seg:=match wdN (parts 44 (wdT s)) [] with
 | none=>none
 | some l=>if (isSet s||l.length==1)=true then some (isSet s,l) else none
def lastS (p:List Seg):Seg:=p.getD (p.length - 1) zS
/-- A word aT a path. -/
def putW (p:List Seg) (w:Seg):List Seg:=if (decide (0 < p.length)&&!w.1&&!(lastS p).1)=true then p.set (p.length - 1) ((lastS p).1,(lastS p).2++w.2) else p++[w]
def foldW:List (List UInt8)→List Seg→Option (List Seg)
 | [],p=>some p
 | x::r,p=>match wd x with
  | none=>none
  | some w=>foldW r (putW p w)
def parseW (o:Option (List Seg)) (s:List UInt8):List Seg×Int:=match o with
 | none=>([],2)
 | some p=>if (pvd p&&(prt p==s))=true then (p,0) else ([],2)
/-- Parse. -/
def parseD (s:List UInt8):List Seg×Int:=parseW (foldW (Lib.fieldsD s) []) s
def gParse (s:List UInt8):Option (List Seg×Int):=if s.length≤1000 then some (parseD s) else none
/-- A gT,as the document reads it. -/
def decL:List UInt8→Int→Option Int
 | [],n=>some n
 | b::r,n=>if (b.toNat:Int) < 48∨(b.toNat:Int) > 57∨n > 1099511627776 then none else decL r (10 * n+((b.toNat:Int) - 48))
def dec (s:List UInt8):Int×Bool:=match decL s 0 with
 | none=>(0,false)
 | some n=>(n,!s.isEmpty&&decide (n≤1099511627776))
def addN (p:List Seg) (n:Int):List Seg:=p.set (p.length - 1) ((lastS p).1,(lastS p).2++[n])
def foldX:List (List UInt8)→List Seg→Option (List Seg)
 | [],p=>some p
 | x::r,p=>if (dec x).2=true then foldX r (addN p (dec x).1) else none
def setR (w:List UInt8):Bool:=Lib.hasPrefix w [123]
def begR (p:List Seg) (w:List UInt8):List Seg:=if (setR w||decide (p.length=0)||(lastS p).1)=true then p++[(setR w,[])] else p
def wordR (p:List Seg) (w:List UInt8):Option (List Seg):=foldX (parts 44 (Lib.trimS w [123,125])) (begR p w)
def foldR:List (List UInt8)→List Seg→Option (List Seg)
 | [],p=>some p
 | w::r,p=>match wordR p w with
  | none=>none
  | some q=>foldR r q
/-- The document's Parse. -/
def refD (s:List UInt8):List Seg×Int:=parseW (if s.isEmpty=true then some [] else foldR (parts 32 s) []) s
def gRef (s:List UInt8):Option (List Seg×Int):=if s.length≤900 then some (refD s) else none
def enParse (_:List V) (r:List Seg×Int):List V:=[if r.1.isEmpty=true then .nils else pathV r.1,.int .i64 r.2]
end Go.Proofs.YtajoneenakjifaaGreatDoor
