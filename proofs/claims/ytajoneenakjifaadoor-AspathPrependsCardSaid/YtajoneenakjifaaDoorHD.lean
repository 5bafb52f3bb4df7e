/- What the functions that are walked by hand come to: which paths are valid, their texts, a text read, a number in front, a path nearly valid. No program in sight. -/
import Derived.Test.YtajoneenakjifaaDoorT31
import Derived.Test.YtajoneenakjifaaDoorDP
import Derived.Lib.AtoiAll
import Derived.Lib.FieldsLaws
namespace Go.Proofs.YtajoneenakjifaaDoor
open Go.VM Go.Txt
abbrev Seg:=Bool×List Int
abbrev zS:Seg:=(false,([]:List Int))
def num (a:Int):Bool:=decide (1≤a∧a≤4294967295)
def numOk (s:Seg) (k:Nat):Bool:=num (s.2.getD k 0)&&(decide (k=0)||!s.1||decide (s.2.getD (k - 1) 0 < s.2.getD k 0))
def numsOk (s:Seg):Bool:=(List.range' 0 s.2.length).all (numOk s)
def segOk (p:List Seg) (i:Nat):Bool:=!(p.getD i zS).2.isEmpty&&(decide (i=0)||(p.getD i zS).1||(p.getD (i - 1) zS).1)&&numsOk (p.getD i zS)
def tot (p:List Seg):Nat:=(p.map fun s=>s.2.length).sum
def pvd (p:List Seg):Bool:=(List.range' 0 p.length).all (segOk p)&&decide (tot p≤64)
def Mid (p:List Seg):Prop:=p.length≤1000∧∀ s∈p,s.2.length≤100000
def joinS (l:List Int) (c:UInt8):List UInt8:=Lib.join (l.map Lib.itoa) [c]
def segT (s:Seg):List UInt8:=if s.1=true then [123]++joinS s.2 44++[125] else joinS s.2 32
def prt (p:List Seg):List UInt8:=Lib.join (p.map segT) [32]
def preP (p:List Seg) (a:Int) (k:Nat):List Seg :=
 match p with
 | []=>[(false,List.replicate k a)]
 | s::r=>if s.1=true then (false,List.replicate k a)::s::r else (false,List.replicate k a++s.2)::r
/-- Prepend,as the document has it. -/
def prepD (p:List Seg) (a n:Int):List Seg×Int :=
 if (!pvd p||!num a||decide (n < 0))=true then ([],1) else if n > 64 - ((tot p:Nat):Int) then ([],3) else if n=0 then (p,0) else (preP p a n.toNat,0)
/-- The numbers of a word. -/
def wdN:List (List UInt8)→List Int→Option (List Int)
 | [],acc=>some acc
 | x::r,acc=>if (aD4 x).2=true then none else wdN r (acc++[(aD4 x).1])
def isSet (s:List UInt8):Bool:=decide (2 < s.length)&&(iJ s).getD 0 0==123&&(iJ s).getD (s.length - 1) 0==125
def wdT (s:List UInt8):List UInt8:=if isSet s=true then (s.take (s.length - 1)).drop 1 else s
/-- A word. -/
def wd (s:List UInt8):Option Seg:=match wdN (parts 44 (wdT s)) [] with
 | none=>none
 | some l=>if (isSet s||l.length==1)=true then some (isSet s,l) else none
def lastS (p:List Seg):Seg:=p.getD (p.length - 1) zS
/-- A word aT a path. -/
def putW (p:List Seg) (w:Seg):List Seg:=if (decide (0 < p.length)&&!w.1&&!(lastS p).1)=true then p.set (p.length - 1) ((lastS p).1,(lastS p).2++w.2) else p++[w]
def foldW:List (List UInt8)→List Seg→Option (List Seg)
 | [],p=>some p
 | x::r,p=>match wd x with
  | none=>none
  | some w=>foldW r (putW p w)
def parseW (o:Option (List Seg)) (s:List UInt8):List Seg×Int:=match o with
 | none=>([],2)
 | some p=>if (pvd p&&(prt p==s))=true then (p,0) else ([],2)
/-- Parse. -/
def parseD (s:List UInt8):List Seg×Int:=parseW (foldW (Lib.fieldsD s) []) s
/-- A path that is nearly valid. -/
def nearD (p:List Seg) (which by':Int):List Seg :=
 if p.isEmpty=true then [(decide (bits .and .i64 by' 1=0),[])] else
 let k:=(by' % (p.length:Int)).toNat
 let s:=p.getD k zS
 if which % 6=0 then p.set k (s.1,s.2.set 0 (([0,-1,4294967295,4294967296]:List Int).getD (by' % 4).toNat 0))
 else if which % 6=1 then p.set k (s.1,s.2++s.2)
 else if which % 6=2 then p.set k (!s.1,s.2)
 else if which % 6=3 then p.set k (s.1,[])
 else if which % 6=4 then p++p
 else p.set k (false,List.replicate (63+(by' % 3).toNat) 9)
def midB (p:List Seg):Bool:=decide (p.length≤1000)&&p.all fun s=>decide (s.2.length≤100000)
theorem midB_iff {p:List Seg}:midB p=true↔Mid p:=by simp [midB,Mid]
def gParse (s:List UInt8):Option (List Seg×Int):=if s.length≤1000 then some (parseD s) else none
def gPrep (x:List Seg×Int×Int):Option (List Seg×Int):=if midB x.1=true then some (prepD x.1 x.2.1 x.2.2) else none
def gNear (x:List Seg×Int×Int):Option (List Seg):=if (pvd x.1&&decide (x.1.length≤3))=true then some (nearD x.1 x.2.1 x.2.2) else none
def isNil:V→Bool
 | .nils=>true
 | _=>false
def enParse (_:List V) (r:List Seg×Int):List V:=[if r.1.isEmpty=true then .nils else pathV r.1,.int .i64 r.2]
def enPrep (vs:List V) (r:List Seg×Int):List V:=[if (r.1.isEmpty&&(decide (r.2≠0)||isNil (vs.headD .undef)))=true then .nils else pathV r.1,.int .i64 r.2]
def enNear (_:List V) (r:List Seg):List V:=[pathV r]
end Go.Proofs.YtajoneenakjifaaDoor
