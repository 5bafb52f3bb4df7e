/- A typed reading of the plain machine's code: types, and what the operations do to typed values. Definitions alone. -/
import Derived.Test.YtbpocjclcbjggaaGreatDoorMC
namespace Go.VM
inductive Ty where
 |unit
 |bool
 |int (k:IntKind)
 |str
 |err
 |sl (t:Ty)
 |st (t:Ty)
 |pair (a b:Ty)
 |av (k:IntKind) (n:Nat)
 |fn (f:Nat)
 deriving DecidableEq
abbrev Ty.den:Ty->Type
 |.unit=>Unit
 |.bool=>Bool
 |.int _=>Int
 |.str=>List UInt8
 |.err=>Bool
 |.sl t=>List t.den
 |.st t=>t.den
 |.pair a b=>a.den×b.den
 |.av _ _=>List Int
 |.fn _=>Unit
def Ty.dflt:(t:Ty)->t.den
 |.unit=>()
 |.bool=>false
 |.int _=>(0:Int)
 |.str=>([]:List UInt8)
 |.err=>false
 |.sl t=>([]:List t.den)
 |.st t=>t.dflt
 |.pair a b=>(a.dflt,b.dflt)
 |.av _ n=>(List.replicate n 0:List Int)
 |.fn _=>()
def Ty.plain:Ty->Bool
 |.sl _|.err|.fn _=>false
 |.st t=>t.plain
 |.pair a b=>a.plain&&b.plain
 |_=>true
def Ty.isSl:Ty->Bool
 |.sl _=>true
 |_=>false
def Ty.size:Ty->Nat
 |.unit=>0
 |.st t=>t.size
 |.pair a b=>a.size+b.size
 |.av _ n=>n
 |_=>1
def Ty.agg:Ty->Bool
 |.st _=>true
 |_=>false
def Ty.rep(t:Ty):Nat->Ty
 |0=>.unit
 |1=>t
 |n+2=>.pair t (Ty.rep t (n+1))
def Ty.repA(t:Ty)(n:Nat):Ty:=match t with
 |.int k=>if 16<n then .av k n else t.rep n
 |_=>t.rep n
abbrev Ty.arr(n:Nat)(t:Ty):Ty:=.st (t.repA n)
def Ty.row:List Ty->Ty
 |[]=>.unit
 |[t]=>t
 |t::u::r=>.pair t (Ty.row (u::r))
def dT:(t:Ty)->(r:List Ty)->(Ty.row (t::r)).den->t.den
 |_,[],x=>x
 |_,_::_,x=>x.1
def eA:(t:Ty)->(r:List Ty)->(Ty.row (t::r)).den->(Ty.row r).den
 |_,[],_=>()
 |_,_::_,x=>x.2
def aP:(t:Ty)->(r:List Ty)->t.den->(Ty.row r).den->(Ty.row (t::r)).den
 |_,[],a,_=>a
 |_,_::_,a,b=>(a,b)
inductive PK where
 |d (t:Ty)
 |p (t:Ty)
 deriving DecidableEq
def PK.ty:PK->Ty
 |.d t=>t
 |.p t=>t
def bD:List PK->List Ty
 |[]=>[]
 |.d _::r=>bD r
 |.p t::r=>t::bD r
structure Sg where
 ps:List PK
 rs:List (Ty×List (Nat×Bool))
 nb:Option Ty
def Sg.vts(s:Sg):List Ty:=match s.nb with
 |some t=>[t]
 |none=>s.rs.map Prod.fst
def Sg.a(s:Sg):Ty:=Ty.row (s.ps.map PK.ty)
def Sg.r(s:Sg):Ty:=Ty.row (s.vts++bD s.ps)
abbrev NF(sg:Nat->Sg):=(f:Nat)->(sg f).a.den->Option (sg f).r.den
def Ty.same(a b:Ty):Option (a.den->b.den):=if h:a=b then some (fun x=>h▸x)else none
def Ty.getAt:(t:Ty)->(off:Nat)->(u:Ty)->Option (t.den->u.den)
 |.st t,off,u=>match(if off=0 then Ty.same (.st t) u else none)with
  |some f=>some f
  |none=>(Ty.getAt t off u).map fun f (x:t.den)=>f x
 |.pair a b,off,u=>match(if off=0 then Ty.same (.pair a b) u else none)with
  |some f=>some f
  |none=>if off<a.size then(Ty.getAt a off u).map fun f (x:a.den×b.den)=>f x.1 else(Ty.getAt b (off-a.size) u).map fun f (x:a.den×b.den)=>f x.2
 |t,off,u=>if off=0 then Ty.same t u else none
def Ty.putAt:(t:Ty)->(off:Nat)->(u:Ty)->Option (t.den->u.den->t.den)
 |.st t,off,u=>match(if off=0 then Ty.same u (.st t)else none)with
  |some f=>some fun _ y=>f y
  |none=>(Ty.putAt t off u).map fun f (x:t.den) y=>f x y
 |.pair a b,off,u=>match(if off=0 then Ty.same u (.pair a b)else none)with
  |some f=>some fun _ y=>f y
  |none=>if off<a.size then(Ty.putAt a off u).map fun f (x:a.den×b.den) y=>(f x.1 y,x.2)else(Ty.putAt b (off-a.size) u).map fun f (x:a.den×b.den) y=>(x.1,f x.2 y)
 |t,off,u=>if off=0 then(Ty.same u t).map fun f _ y=>f y else none
def Ty.subAt:Ty->Nat->Nat->Bool->Option Ty
 |.st t,off,sz,g=>if off=0/\t.size=sz/\g=true then some (.st t)else Ty.subAt t off sz g
 |.pair a b,off,sz,g=>if off<a.size then Ty.subAt a off sz g else Ty.subAt b (off-a.size) sz g
 |.unit,_,_,_=>none
 |.av _ _,_,_,_=>none
 |t,off,sz,g=>if off=0/\sz=1/\g=false then some t else none
def Ty.cnt:Ty->Ty->Nat
 |.st t,u=>if Ty.st t=u then 1 else Ty.cnt t u
 |.pair a b,u=>if Ty.pair a b=u then 1 else Ty.cnt a u+Ty.cnt b u
 |.unit,_=>0
 |.av k n,u=>if Ty.int k=u then n else 1
 |_,_=>1
def Ty.els:(t u:Ty)->Option (t.den->List u.den)
 |.st t,u=>match Ty.same (.st t) u with
  |some f=>some fun x=>[f x]
  |none=>(Ty.els t u).map fun f (x:t.den)=>f x
 |.pair a b,u=>match Ty.same (.pair a b) u with
  |some f=>some fun x=>[f x]
  |none=>match Ty.els a u,Ty.els b u with
   |some f,some g=>some fun(x:a.den×b.den)=>f x.1++g x.2
   |_,_=>none
 |.unit,_=>some fun _=>[]
 |.av k _,u=>(Ty.same (.sl (.int k)) (.sl u)).map fun f (x:List Int)=>(f x:List u.den)
 |t,u=>(Ty.same t u).map fun f x=>[f x]
def Ty.setN:(t u:Ty)->Option (t.den->Nat->u.den->t.den)
 |.st t,u=>match Ty.same u (.st t)with
  |some f=>some fun _ _ y=>f y
  |none=>(Ty.setN t u).map fun f (x:t.den) i y=>f x i y
 |.pair a b,u=>match Ty.same u (.pair a b)with
  |some f=>some fun _ _ y=>f y
  |none=>match Ty.setN a u,Ty.setN b u with
   |some f,some g=>some fun(x:a.den×b.den) i y=>if i<Ty.cnt a u then(f x.1 i y,x.2)else(x.1,g x.2 (i-Ty.cnt a u) y)
   |_,_=>none
 |.unit,_=>some fun x _ _=>x
 |.av k _,u=>(Ty.same u (.int k)).map fun f (x:List Int) i y=>(x.set i (f y):List Int)
 |t,u=>(Ty.same u t).map fun f _ _ y=>f y
def Ty.ofEls:(t u:Ty)->Option (List u.den->t.den)
 |.st t,u=>match Ty.same u (.st t)with
  |some f=>some fun l=>f (l.headD u.dflt)
  |none=>(Ty.ofEls t u).map fun f l=>(f l:t.den)
 |.pair a b,u=>match Ty.same u (.pair a b)with
  |some f=>some fun l=>f (l.headD u.dflt)
  |none=>match Ty.ofEls a u,Ty.ofEls b u with
   |some f,some g=>some fun l=>((f (l.take (Ty.cnt a u)),g (l.drop (Ty.cnt a u))):a.den×b.den)
   |_,_=>none
 |.unit,_=>some fun _=>()
 |.av k _,u=>(Ty.same (.sl u) (.sl (.int k))).map fun f (l:List u.den)=>(f l:List Int)
 |t,u=>(Ty.same u t).map fun f l=>f (l.headD u.dflt)
def wK(k:IntKind):Nat->List V->Option (List Int×List V)
 |0,cs=>some ([],cs)
 |n+1,.int k' i::r=>if k=k' then(wK k n r).map fun p=>(i::p.1,p.2)else none
 |_,_=>none
def Ty.ofCells:(t:Ty)->List V->Option (t.den×List V)
 |.unit,cs=>some ((),cs)
 |.bool,.bool b::r=>some ((b:Bool),r)
 |.int k,.int k' n::r=>if k=k' then some ((n:Int),r)else none
 |.str,.str s::r=>some ((s:List UInt8),r)
 |.err,.nili::r=>some (false,r)
 |.sl t,.nils::r=>some (([]:List t.den),r)
 |.st t,cs=>Ty.ofCells t cs
 |.av k n,cs=>(wK k n cs).map fun p=>((p.1:List Int),p.2)
 |.fn f,.fn (.func g) [] []::r=>if f=g then some ((),r)else none
 |.pair a b,cs=>match Ty.ofCells a cs with
  |some (x,r)=>match Ty.ofCells b r with
   |some (y,r')=>some ((x,y),r')
   |none=>none
  |none=>none
 |_,_=>none
def V.isAgg:V->Bool
 |.agg _=>true
 |_=>false
def Ty.ofAll(t:Ty)(cs:List V):Option t.den:=match Ty.ofCells t cs with
 |some (x,[])=>some x
 |_=>none
def Ty.ofV(t:Ty)(v:V):Option t.den:=if v.isAgg=t.agg then Ty.ofAll t v.cells else none
def Ty.cks:Ty->Option (List CK)
 |.bool=>some [.b]
 |.int _=>some [.i]
 |.str=>some [.s]
 |.st t=>t.cks
 |.pair a b=>match a.cks,b.cks with
  |some x,some y=>some (x++y)
  |_,_=>none
 |_=>none
def Ty.eqb:(t:Ty)->t.den->t.den->Bool
 |.bool,a,b=>(fun(x y:Bool)=>x==y) a b
 |.int _,a,b=>(fun(x y:Int)=>x==y) a b
 |.str,a,b=>(fun(x y:List UInt8)=>x==y) a b
 |.st t,a,b=>t.eqb a b
 |.pair s t,a,b=>s.eqb a.1 b.1&&t.eqb a.2 b.2
 |_,_,_=>false
def aEU{α:Type}(l:List α)(i:Int):Option α:=if 0<=i then l[i.toNat]? else none
def aI9{α:Type}(l:List α)(lo hi:Int):Option (List α):=if 0<=lo/\lo<=hi/\hi<=(l.length:Int)then some ((l.take hi.toNat).drop lo.toNat)else none
def aEV{α:Type}(l:List α)(hi:Int):Option (List α):=if 0<=hi/\hi<=(l.length:Int)then some (l.take hi.toNat)else none
def aEW{α:Type}(l:List α)(lo:Int):Option (List α):=if 0<=lo/\lo<=(l.length:Int)then some (l.drop lo.toNat)else none
def aH3{α:Type}(bytes:Nat)(l m:List α):Option (List α):=if(l.length+m.length)*bytes<=140737488355328/\l.length+m.length<=9223372036854775807 then some (l++m)else none
def aIa{α:Type}(bytes:Nat)(l:List α)(n:Int)(x:α):Option (List α):=if n<0 then none else aH3 bytes l (List.replicate n.toNat x)
def aIb{α:Type}(bytes:Nat)(x:α)(l c:Int):Option (List α):=if 0<=l/\l<=c/\(bytes:Int)*c<=281474976710656/\c<=9223372036854775807 then some (List.replicate l.toNat x)else none
def aD8(l:List Int):List UInt8:=l.map fun n=>UInt8.ofNat n.toNat
def iJ(s:List UInt8):List Int:=s.map fun c=>(c.toNat:Int)
def aBq(s:List UInt8):Option (List Int):=if s.length<=9223372036854775807 then some (iJ s)else none
def aJt(s t:List UInt8):Option (List UInt8):=if s.length+t.length<=9223372036854775807 then some (s++t)else none
def aJO{α:Type}(l:List α):Int:=(l.length:Int)
def aIc(k:IntKind)(a:Int)(n:Nat):Int:=k.wrap (a*2^(min n k.bits))
def aJP(k:IntKind)(a:Int)(n:Nat):Int:=a.fdiv (2^(min n k.bits))
def aJu(i:Int)(len:Nat):Option Nat:=if 0<=i/\i<(len:Int)then some i.toNat else none
inductive SY where
 |d (t:Ty)
 |reg (t:Ty)
 |box (t:Ty)
 |ptr (b off:Nat)
 |rp (s off:Nat)
 |rx (s off len:Nat) (u:Ty)
 |ep (t:Ty) (off:Nat) (root:Option (Nat×Option Nat))
 |vp (t:Ty) (off:Nat)
 |tup (ts:List Ty)
 |clo (f:Nat) (bs:List Nat)
 |no
 deriving DecidableEq
abbrev SY.den:SY->Type
 |.d t=>t.den
 |.reg t=>t.den
 |.box t=>t.den
 |.rx ..=>Nat
 |.ep t _ _=>(List t.den×Nat)×t.den
 |.vp t _=>t.den
 |.tup ts=>(Ty.row ts).den
 |_=>Unit
def SY.dflt:(y:SY)->y.den
 |.d t=>t.dflt
 |.reg t=>t.dflt
 |.box t=>t.dflt
 |.rx ..=>(0:Nat)
 |.ep t _ _=>(([],0),t.dflt)
 |.vp t _=>t.dflt
 |.tup ts=>(Ty.row ts).dflt
 |.ptr ..=>()
 |.rp ..=>()
 |.clo ..=>()
 |.no=>()
abbrev TE(D:Nat->SY):=(s:Nat)->(D s).den
def TE.set{D:Nat->SY}(e:TE D)(d:Nat)(v:(D d).den):TE D:=fun s=>if h:d=s then h▸v else e s
def TE.ini(D:Nat->SY):TE D:=fun s=>(D s).dflt
def aD9:List (Nat×SY)->Nat->SY
 |[],_=>.no
 |(a,y)::r,s=>if a=s then y else aD9 r s
def aH(d:Nat):Nat:=d+100000
def bK(i:Nat):Nat:=i+200000
def SY.get(x y:SY):Option (x.den->y.den):=if h:x=y then some (fun v=>h▸v)else none
def SY.rd(s:Nat):(x y:SY)->Option (x.den->y.den)
 |.reg _,.rp s' o=>if s'=s/\o=0 then some (fun _=>())else none
 |.reg _,_=>none
 |.box _,_=>none
 |x,y=>SY.get x y
def SY.cst(v:V):(y:SY)->Option y.den
 |.d t=>Ty.ofV t v
 |_=>none
def SY.iniR(zs:List V):(y:SY)->Option y.den
 |.reg t=>Ty.ofAll t zs
 |_=>none
def SY.iniB(zs:List V):(y:SY)->Option y.den
 |.box t=>Ty.ofAll t zs
 |_=>none
section
variable(D:Nat->SY)
def opd(x:Opd)(y:SY):Option (TE D->y.den):=match x with
 |.tmp s=>(SY.rd s (D s) y).map fun f e=>f (e s)
 |.const v=>(SY.cst v y).map fun c _=>c
def opD(x:Opd)(t:Ty):Option (TE D->t.den):=opd D x (.d t)
def opB(x:Opd):Option (TE D->Bool):=opd D x (.d .bool)
def opI(x:Opd)(k:IntKind):Option (TE D->Int):=opd D x (.d (.int k))
def opS(x:Opd):Option (TE D->List UInt8):=opd D x (.d .str)
def tyO:Opd->Option Ty
 |.tmp s=>match D s with
  |.d t=>some t
  |_=>none
 |.const (.int k _)=>some (.int k)
 |.const (.bool _)=>some .bool
 |.const (.str _)=>some .str
 |_=>none
def dty(d:Nat):Option Ty:=match D d with
 |.d t=>if(t.agg||t.size==1)=true then some t else none
 |_=>none
def rty(d:Nat):Option Ty:=match D d with
 |.reg t=>some t
 |_=>none
def bty(d:Nat):Option Ty:=match D d with
 |.box t=>some t
 |_=>none
def adO:Opd->SY
 |.tmp s=>match D s with
  |.reg _=>.rp s 0
  |y=>y
 |.const _=>.no
def rR(t:Ty)(off sz:Nat)(x:Opd):Option Ty:=match x with
 |.tmp _=>tyO D x
 |.const v=>Ty.subAt t off sz v.isAgg
end
inductive OD(E:Type):Type 1 where
 |t (f:E->E)
 |p (α:Type) (z:E->α) (f:E->Option α) (g:E->α->E)
def OD.fail{E:Type}:OD E:=.p Unit (fun _=>()) (fun _=>none) (fun e _=>e)
def OD.tot(D:Nat->SY)(d:Nat)(t:Ty)(f:TE D->t.den):OD (TE D):=match SY.get (.d t) (D d)with
 |some c=>.t fun e=>e.set d (c (f e))
 |none=>.fail
def OD.par(D:Nat->SY)(d:Nat)(t:Ty)(f:TE D->Option t.den):OD (TE D):=match SY.get (.d t) (D d)with
 |some c=>.p t.den (fun _=>t.dflt) f fun e v=>e.set d (c v)
 |none=>.fail
section
variable(D:Nat->SY)
def aGF(t:Ty):List (Nat×Nat×Opd)->Option (TE D->t.den->t.den)
 |[]=>some fun _ x=>x
 |(off,sz,x)::r=>match rR D t off sz x with
  | some u => if u.size = sz then match Ty.putAt t off u, opD D x u, aGF t r with
      |some p,some f,some g=>some fun e v=>g e (p v (f e))
      |_,_,_=>none
   else none
  |none=>none
def aJQ(t:Ty)(z:Nat):List (Nat×Nat×Opd)->Option (TE D->List t.den->List t.den)
 |[]=>some fun _ l=>l
 | (off, sz, x) :: r => if sz = z then match opD D x t, aJQ t z r with
     |some f,some g=>some fun e l=>g e (l.set (off / z) (f e))
     |_,_=>none
  else none
def zI:(ps:List PK)->List Opd->Option (TE D->(Ty.row (ps.map PK.ty)).den)
 |[],[]=>some fun _=>()
 |.d t::r,x::xs=>match opD D x t,zI r xs with
  |some f,some g=>some fun e=>aP t (r.map PK.ty) (f e) (g e)
  |_,_=>none
 |.p t::r,x::xs=>match adO D x with
  |.ptr b 0=>match SY.get (D b) (.box t),zI r xs with
   |some f,some g=>some fun e=>aP t (r.map PK.ty) (f (e b)) (g e)
   |_,_=>none
  |_=>none
 |_,_=>none
def oL:(ps:List PK)->List Opd->Option (TE D->(Ty.row (bD ps)).den->TE D)
 |[],_=>some fun e _=>e
 |.d _::r,_::xs=>oL r xs
 |.p t::r,x::xs=>match adO D x with
  |.ptr b 0=>match SY.get (.box t) (D b),oL r xs with
   |some f,some g=>some fun e v=>g (e.set b (f (dT t (bD r) v))) (eA t (bD r) v)
   |_,_=>none
  |_=>none
 |_,_=>none
def bxNow:(ps:List PK)->List Opd->Option (TE D->(Ty.row (bD ps)).den)
 |[],_=>some fun _=>()
 |.d _::r,_::xs=>bxNow r xs
 |.p t::r,x::xs=>match adO D x with
  |.ptr b 0=>match SY.get (D b) (.box t),bxNow r xs with
   |some f,some g=>some fun e=>aP t (bD r) (f (e b)) (g e)
   |_,_=>none
  |_=>none
 |_,_=>none
end
def eR:(ts us:List Ty)->(Ty.row (ts++us)).den->(Ty.row ts).den
 |[],_,_=>()
 |t::r,us,x=>aP t r (dT t (r++us) x) (eR r us (eA t (r++us) x))
def pI:(ts us:List Ty)->(Ty.row (ts++us)).den->(Ty.row us).den
 |[],_,x=>x
 |t::r,us,x=>pI r us (eA t (r++us) x)
def nD:(ts us:List Ty)->(Ty.row ts).den->(Ty.row us).den->(Ty.row (ts++us)).den
 |[],_,_,y=>y
 |t::r,us,x,y=>aP t (r++us) (dT t r x) (nD r us (eA t r x) y)
def aEX:(ts:List Ty)->Nat->(u:Ty)->Option ((Ty.row ts).den->u.den)
 |[],_,_=>none
 |t::r,0,u=>(Ty.same t u).map fun f x=>f (dT t r x)
 |t::r,i+1,u=>(aEX r i u).map fun f x=>f (eA t r x)
def wM(s:Sg):SY:=match s.nb,s.rs with
 |some _,_=>.no
 |none,[(t,_)]=>.d t
 |none,rs=>.tup (rs.map Prod.fst)
def aEY(s:Sg):(Ty.row s.vts).den->(wM s).den:=match s with
 |⟨_,_,some _⟩=>fun _=>()
 |⟨_,[(_,_)],none⟩=>fun x=>x
 |⟨_,[],none⟩=>fun x=>x
 |⟨_,_::_::_,none⟩=>fun x=>x
def pJ(D:Nat->SY):Option Opd->Option (Option (TE D->Int))
 |none=>some none
 |some x=>match tyO D x with
  |some (.int k)=>(opI D x k).map some
  |_=>none
def aH4{E α:Type}(l:E->List α):Option (E->Int)->Option (E->Int)->E->Option (List α)
 |none,none=>fun e=>some (l e)
 |none,some h=>fun e=>aEV (l e) (h e)
 |some a,none=>fun e=>aEW (l e) (a e)
 |some a,some h=>fun e=>aI9 (l e) (a e) (h e)
def mmT(mx:Bool)(x y:Int):Int:=if mx then(if y>x then y else x)else(if y<x then y else x)
def mmL(D:Nat->SY)(mx:Bool)(k:IntKind)(f:TE D->Int):List Opd->Option (TE D->Int)
 |[]=>some f
 |x::r=>match opI D x k with
  |some g=>mmL D mx k (fun e=>mmT mx (f e) (g e)) r
  |none=>none
def aGx(D:Nat->SY)(d:Nat)(op:BinOp)(k:IntKind)(a b:TE D->Int)(bc:Option Int):OD (TE D):=match op with
 |.add=>.tot D d (.int k) fun e=>k.wrap (a e+b e)
 |.sub=>.tot D d (.int k) fun e=>k.wrap (a e-b e)
 |.mul=>.tot D d (.int k) fun e=>k.wrap (a e*b e)
 |.quo=>match bc with
  |some c=>if c=0 then .fail else .tot D d (.int k) fun e=>k.wrap ((a e).tdiv c)
  |none=>.par D d (.int k) fun e=>if b e=0 then none else some (k.wrap ((a e).tdiv (b e)))
 |.rem=>match bc with
  |some c=>if c=0 then .fail else .tot D d (.int k) fun e=>(a e).tmod c
  |none=>.par D d (.int k) fun e=>if b e=0 then none else some ((a e).tmod (b e))
 |.and=>.tot D d (.int k) fun e=>bits .and k (a e) (b e)
 |.or=>.tot D d (.int k) fun e=>bits .or k (a e) (b e)
 |.xor=>.tot D d (.int k) fun e=>bits .xor k (a e) (b e)
 |.andNot=>.tot D d (.int k) fun e=>bits .andNot k (a e) (b e)
 |.eql=>.tot D d .bool fun e=>a e==b e
 |.neq=>.tot D d .bool fun e=>a e != b e
 |.lss=>.tot D d .bool fun e=>decide (a e<b e)
 |.leq=>.tot D d .bool fun e=>decide (a e<=b e)
 |.gtr=>.tot D d .bool fun e=>decide (a e>b e)
 |.geq=>.tot D d .bool fun e=>decide (a e>=b e)
 |_=>.fail
def uM(D:Nat->SY)(d:Nat)(l:Bool)(k:IntKind)(a b:TE D->Int)(bc:Option Int):OD (TE D):=match bc with
 |some c=>if c<0 then .fail else if l then .tot D d (.int k) fun e=>aIc k (a e) c.toNat else .tot D d (.int k) fun e=>aJP k (a e) c.toNat
 |none=>.par D d (.int k) fun e=>if b e<0 then none else some (if l then aIc k (a e) (b e).toNat else aJP k (a e) (b e).toNat)
def aHz(D:Nat->SY)(d:Nat)(op:BinOp)(a b:TE D->List UInt8):OD (TE D):=match op with
 |.add=>.par D d .str fun e=>aJt (a e) (b e)
 |.eql=>.tot D d .bool fun e=>a e==b e
 |.neq=>.tot D d .bool fun e=>!(a e==b e)
 |.lss=>.tot D d .bool fun e=>Op.bytesLess (a e) (b e)
 |.leq=>.tot D d .bool fun e=>Op.bytesLess (a e) (b e)||a e==b e
 |.gtr=>.tot D d .bool fun e=>!(Op.bytesLess (a e) (b e)||a e==b e)
 |.geq=>.tot D d .bool fun e=>!(Op.bytesLess (a e) (b e))
 |_=>.fail
def aEZ:Opd->Option Int
 |.const (.int _ n)=>some n
 |_=>none
variable{sg:Nat->Sg}
def aGG(s:Sg):Ty:=match s.nb with
 |some t=>t
 |none=>.unit
def aId(s:Sg):(Ty.row s.vts).den->(aGG s).den:=match s with
 |⟨_,_,some _⟩=>fun x=>x
 |⟨_,_,none⟩=>fun _=>()
def aBI(D:Nat->SY)(cf:NF sg)(d f:Nat)(xs:List Opd):OD (TE D):=
 match zI D (sg f).ps xs,oL D (sg f).ps xs,bxNow D (sg f).ps xs with
 |some a,some g,some b=>match(sg f).nb with
  |some _=>match SY.get (.box (aGG (sg f))) (D (aH d))with
   | some c => .p (sg f).r.den (fun e => nD (sg f).vts _ (Ty.row (sg f).vts).dflt (b e)) (fun e => cf f (a e))
       fun e v=>(g e (pI (sg f).vts _ v)).set (aH d) (c (aId (sg f) (eR (sg f).vts _ v)))
   |none=>.fail
  |none=>match SY.get (wM (sg f)) (D d)with
   | some c => .p (sg f).r.den (fun e => nD (sg f).vts _ (Ty.row (sg f).vts).dflt (b e)) (fun e => cf f (a e))
       fun e v=>(g e (pI (sg f).vts _ v)).set d (c (aEY (sg f) (eR (sg f).vts _ v)))
   |none=>.fail
 |_,_,_=>.fail
def aCs:VOp->SY->Bool
 |.mv (.const .nilp),.ptr ..=>true
 |_,_=>false
def capsOk(D:Nat->SY):List Opd->List Nat->Bool
 |[],[]=>true
 |x::xs,b::bs=>decide (adO D x=.ptr b 0)&&capsOk D xs bs
 |_,_=>false
def dop(D:Nat->SY)(cf:NF sg):Option Nat->VOp->OD (TE D)
 |some d,.mv x=>match opd D x (D d)with
  |some f=>.t fun e=>e.set d (f e)
  |none=>if aCs (.mv x) (D d)=true then .t fun e=>e else .fail
 |some d,.nilck x|some d,.convS x=>match opd D x (D d)with
  |some f=>.t fun e=>e.set d (f e)
  |none=>.fail
 |some d,.pick c a b=>match dty D d with
  |some t=>match opB D c,opD D a t,opD D b t with
   |some c,some a,some b=>.tot D d t fun e=>bif c e then a e else b e
   |_,_,_=>.fail
  |none=>.fail
 |some d,.allocR zs=>match SY.iniR zs (D d)with
  |some x=>.t fun e=>e.set d x
  |none=>.fail
 |some d,.boxR sz x=>match rty D d with
  | some t => if t.size = sz then match opD D x t, SY.get (.reg t) (D d) with
      |some f,some c=>.t fun e=>e.set d (c (f e))
      |_,_=>.fail
   else .fail
  |none=>.fail
 |some d,.allocB zs=>match SY.iniB zs (D (aH d))with
  |some x=>.t fun e=>e.set (aH d) x
  |none=>.fail
 |some d,.boxB sz x=>match bty D (aH d)with
  | some t => if t.size = sz then match opD D x t, SY.get (.box t) (D (aH d)) with
      |some f,some c=>.t fun e=>e.set (aH d) (c (f e))
      |_,_=>.fail
   else .fail
  |none=>.fail
 |some d,.build zs parts=>match dty D d with
  |some t=>match Ty.ofV t (.agg zs),aGF D t parts with
   |some x,some f=>.tot D d t fun e=>f e x
   |_,_=>.fail
  |none=>.fail
 |some d,.bslice _ z n zs parts=>match dty D d with
  |some (.sl t)=>match Ty.ofAll t zs with
   |some x0=>match aJQ D t z parts with
    |some f=>.tot D d (.sl t) fun e=>f e (List.replicate n x0)
    |none=>.fail
   |none=>.fail
  |_=>.fail
 |some d,.load _ _ _ a=>match adO D a with
  |.rp s off=>match rty D s,dty D d with
   |some t,some u=>match Ty.getAt t off u,SY.get (D s) (.reg t)with
    |some f,some c=>.tot D d u fun e=>f (c (e s))
    |_,_=>.fail
   |_,_=>.fail
  |.rx s off len u=>match rty D s with
   |some t=>match Ty.getAt t off (.arr len u),Ty.els (.arr len u) u,SY.get (D s) (.reg t),opd D a (.rx s off len u)with
    |some f,some l,some c,some i=>.tot D d u fun e=>(l (f (c (e s)))).getD (i e) u.dflt
    |_,_,_,_=>.fail
   |none=>.fail
  |.ptr b off=>match bty D b,dty D d with
   |some t,some u=>match Ty.getAt t off u,SY.get (D b) (.box t)with
    |some f,some c=>.tot D d u fun e=>f (c (e b))
    |_,_=>.fail
   |_,_=>.fail
  |.ep t off r=>match dty D d with
   |some u=>match Ty.getAt t off u,opd D a (.ep t off r)with
    |some f,some c=>.tot D d u fun e=>f (c e).2
    |_,_=>.fail
   |none=>.fail
  |.vp t off=>match dty D d with
   |some u=>match Ty.getAt t off u,opd D a (.vp t off)with
    |some f,some c=>.tot D d u fun e=>f (c e)
    |_,_=>.fail
   |none=>.fail
  |_=>.fail
 |none,.store _ sz a x=>match adO D a with
  |.rp s off=>match rty D s with
   |some t=>match rR D t off sz x with
    |some u=>match Ty.putAt t off u,opD D x u,SY.get (D s) (.reg t),SY.get (.reg t) (D s)with
     |some p,some f,some c,some c'=>.t fun e=>e.set s (c' (p (c (e s)) (f e)))
     |_,_,_,_=>.fail
    |none=>.fail
   |none=>.fail
  |.rx s off len u=>match rty D s with
   |some t=>match Ty.getAt t off (.arr len u),Ty.putAt t off (.arr len u),Ty.setN (.arr len u) u,opD D x u with
    |some f,some p,some n,some v=>match opd D a (.rx s off len u),SY.get (D s) (.reg t),SY.get (.reg t) (D s)with
     |some i,some c,some c'=>.t fun e=>e.set s (c' (p (c (e s)) (n (f (c (e s))) (i e) (v e))))
     |_,_,_=>.fail
    |_,_,_,_=>.fail
   |none=>.fail
  |.ptr b off=>match bty D b with
   |some t=>match rR D t off sz x with
    |some u=>match Ty.putAt t off u,opD D x u,SY.get (D b) (.box t),SY.get (.box t) (D b)with
     |some p,some f,some c,some c'=>.t fun e=>e.set b (c' (p (c (e b)) (f e)))
     |_,_,_,_=>.fail
    |none=>.fail
   |none=>.fail
  |.ep t off r=>match rR D t off sz x with
   |some u=>match Ty.putAt t off u,opD D x u,opd D a (.ep t off r)with
    |some p,some f,some c=>match r with
     |some (s,none)=>match SY.get (.d (.sl t)) (D s)with
      |some c'=>.t fun e=>e.set s (c' ((c e).1.1.set (c e).1.2 (p (c e).2 (f e))))
      |none=>.fail
     |some (s,some o)=>match rty D s with
      |some w=>match Ty.putAt w o (.sl t),SY.get (D s) (.reg w),SY.get (.reg w) (D s)with
       |some q,some b,some b'=>.t fun e=>e.set s (b' (q (b (e s)) ((c e).1.1.set (c e).1.2 (p (c e).2 (f e)))))
       |_,_,_=>.fail
      |none=>.fail
     |none=>.fail
    |_,_,_=>.fail
   |none=>.fail
  |_=>.fail
 |some d,.bin op x y=>match(match tyO D x with|some t=>some t|none=>tyO D y)with
  |some (.int k)=>match op with
   |.shl|.shr=>match tyO D y with
    |some (.int k')=>match opI D x k,opI D y k' with
     |some a,some b=>uM D d (match op with|.shl=>true|_=>false) k a b (aEZ y)
     |_,_=>.fail
    |_=>.fail
   |op=>match opI D x k,opI D y k with
    |some a,some b=>aGx D d op k a b (aEZ y)
    |_,_=>.fail
  |some .str=>match opS D x,opS D y with
   |some a,some b=>aHz D d op a b
   |_,_=>.fail
  |_=>.fail
 |some d,.eq neq k x y=>match k with
  |.bool=>match opB D x,opB D y with
   |some a,some b=>.tot D d .bool fun e=>neq != (a e==b e)
   |_,_=>.fail
  |.flat ks=>match(match tyO D x with|some t=>some t|none=>tyO D y)with
   | some t => if t.cks = some ks ∧ t.agg = true then match opD D x t, opD D y t with
       |some a,some b=>.tot D d .bool fun e=>neq != t.eqb (a e) (b e)
       |_,_=>.fail
    else .fail
   |none=>.fail
  |.iface=>match x,y with
   |.tmp _,.const .nili=>match opD D x .err with
    |some a=>.tot D d .bool fun e=>neq != !a e
    |none=>.fail
   |_,_=>.fail
  |_=>.fail
 |some d,.unop op x=>match op with
  |.not=>match opB D x with
   |some a=>.tot D d .bool fun e=>!a e
   |none=>.fail
  |.neg=>match tyO D x with
   |some (.int k)=>match opI D x k with
    |some a=>.tot D d (.int k) fun e=>k.wrap (0-a e)
    |none=>.fail
   |_=>.fail
  |.xor=>match tyO D x with
   |some (.int k)=>match opI D x k with
    |some a=>.tot D d (.int k) fun e=>bits .xor k (if k.signed then -1 else k.max) (a e)
    |none=>.fail
   |_=>.fail
  |_=>.fail
 |some d,.convI k x=>match tyO D x with
  |some (.int k')=>match opI D x k' with
   |some a=>.tot D d (.int k) fun e=>k.wrap (a e)
   |none=>.fail
  |_=>.fail
 |some d,.toStr x _=>match opD D x (.sl (.int .u8))with
  |some a=>.tot D d .str fun e=>aD8 (a e)
  |none=>.fail
 |some d,.toBytes x=>match opS D x with
  |some a=>.par D d (.sl (.int .u8)) fun e=>aBq (a e)
  |none=>.fail
 |some d,.fieldA off x=>match adO D x with
  |.rp s o=>if D d=.rp s (o+off)then .t fun e=>e else .fail
  |.ptr b o=>if D d=.ptr b (o+off)then .t fun e=>e else .fail
  |.ep t o r=>match opd D x (.ep t o r),SY.get (.ep t (o+off) r) (D d)with
   |some f,some c=>.t fun e=>e.set d (c (f e))
   |_,_=>.fail
  |.vp t o=>match opd D x (.vp t o),SY.get (.vp t (o+off)) (D d)with
   |some f,some c=>.t fun e=>e.set d (c (f e))
   |_,_=>.fail
  |_=>.fail
 |some d,.field _ off _ x=>match tyO D x,dty D d with
  |some t,some u=>match Ty.getAt t off u,opD D x t with
   |some f,some a=>.tot D d u fun e=>f (a e)
   |_,_=>.fail
  |_,_=>.fail
 |some d,.idxS _ x i=>match tyO D x,tyO D i with
  |some (.sl t),some (.int k)=>match opD D x (.sl t),opI D i k with
   |some l,some j=>match D d with
    |.ep _ _ r=>match SY.get (.ep t 0 r) (D d)with
     |some c=>.p t.den (fun _=>t.dflt) (fun e=>aEU (l e) (j e)) fun e v=>e.set d (c ((l e,(j e).toNat),v))
     |none=>.fail
    |_=>.fail
   |_,_=>.fail
  |_,_=>.fail
 |some d,.idxA len z x i=>match adO D x with
  |.rp s o=>match aEZ i with
   |some n=>if 0<=n/\n<(len:Int)/\D d=.rp s (o+n.toNat*z)then .t fun e=>e else .fail
   |none=>match tyO D i with
    |some (.int k)=>match opI D i k,D d with
     |some j,.rx _ _ _ u=>match SY.get (.rx s o len u) (D d)with
      |some c=>.p Nat (fun _=>0) (fun e=>aJu (j e) len) fun e v=>e.set d (c v)
      |none=>.fail
     |_,_=>.fail
    |_=>.fail
  |.ptr b o=>match aEZ i with
   |some n=>if 0<=n/\n<(len:Int)/\D d=.ptr b (o+n.toNat*z)then .t fun e=>e else .fail
   |none=>.fail
  |.ep t o r=>match aEZ i with
   | some n => if 0 ≤ n ∧ n < (len : Int) then match opd D x (.ep t o r), SY.get (.ep t (o + n.toNat * z) r) (D d) with
       |some f,some c=>.t fun e=>e.set d (c (f e))
       |_,_=>.fail
    else .fail
   |none=>.fail
  |.vp t o=>match aEZ i with
   | some n => if 0 ≤ n ∧ n < (len : Int) then match opd D x (.vp t o), SY.get (.vp t (o + n.toNat * z)) (D d) with
       |some f,some c=>.t fun e=>e.set d (c (f e))
       |_,_=>.fail
    else .fail
   |none=>.fail
  |_=>.fail
 |some d,.ixA _ len z x i=>match tyO D x,dty D d,aEZ i with
  | some t, some u, some n => if 0 ≤ n ∧ n < (len : Int) then match Ty.getAt t (n.toNat * z) u, opD D x t with
      |some f,some a=>.tot D d u fun e=>f (a e)
      |_,_=>.fail
   else .fail
  |some t,some u,none=>match tyO D i with
   | some (.int k) => if Ty.cnt t u = len then match Ty.els t u, opD D x t, opI D i k with
       |some f,some a,some j=>.par D d u fun e=>aEU (f (a e)) (j e)
       |_,_,_=>.fail
    else .fail
   |_=>.fail
  |_,_,_=>.fail
 |some d,.ixS x i=>match tyO D i with
  |some (.int k)=>match opS D x,opI D i k with
   |some a,some j=>.par D d (.int .u8) fun e=>(aEU (a e) (j e)).map fun(b:UInt8)=>((b.toNat:Int):Int)
   |_,_=>.fail
  |_=>.fail
 |some d,.cutS x lo hi=>match opS D x,pJ D lo,pJ D hi with
  |some a,some l,some h=>.par D d .str (aH4 (α:=UInt8) a l h)
  |_,_,_=>.fail
 |some d,.cut _ x lo hi=>match dty D d with
  |some (.sl t)=>match opD D x (.sl t),pJ D lo,pJ D hi with
   |some a,some l,some h=>.par D d (.sl t) (aH4 (α:=t.den) a l h)
   |_,_,_=>.fail
  |_=>.fail
 |some d,.cutR s len z x lo hi=>match adO D x,rty D s,dty D d with
  |.rp _ off,some t,some (.sl u)=>match Ty.subAt t off (len*z) true with
   |some w=>match Ty.getAt t off w,Ty.els w u,SY.get (D s) (.reg t)with
    |some g,some f,some c=>match pJ D lo,pJ D hi with
     |some l,some h=>.par D d (.sl u) (aH4 (α:=u.den) (fun e=>f (g (c (e s)))) l h)
     |_,_=>.fail
    |_,_,_=>.fail
   |none=>.fail
  |_,_,_=>.fail
 |some d,.mkslice _ bytes zs l c=>match dty D d with
  |some (.sl t)=>match Ty.ofAll t zs,opI D l .i64,opI D c .i64 with
   |some x,some l,some c=>.par D d (.sl t) fun e=>aIb bytes x (l e) (c e)
   |_,_,_=>.fail
  |_=>.fail
 |some d,.append _ bytes _ zs s x _=>match dty D d with
  |some (.sl t)=>match opD D s (.sl t)with
   |some a=>match zs with
    |u::r=>match opI D x .i64,Ty.ofAll t (u::r)with
     |some b,some x0=>.par D d (.sl t) fun e=>aIa bytes (a e) (b e) x0
     |_,_=>.fail
    |[]=>match tyO D x with
     |some .str=>match opS D x,Ty.same (.sl (.int .u8)) (.sl t)with
      |some b,some c=>.par D d (.sl t) fun e=>aH3 bytes (a e) (c (iJ (b e)))
      |_,_=>.fail
     |_=>match opD D x (.sl t)with
      |some b=>.par D d (.sl t) fun e=>aH3 bytes (a e) (b e)
      |none=>.fail
   |none=>.fail
  |_=>.fail
 |some d,.len true x=>match opS D x with
  |some a=>.tot D d (.int .i64) fun e=>aJO (a e)
  |none=>.fail
 |some d,.len false x=>match tyO D x with
  |some (.sl t)=>match opD D x (.sl t)with
   |some a=>.tot D d (.int .i64) fun e=>aJO (a e)
   |none=>.fail
  |_=>.fail
 |some d,.lenC n=>.tot D d (.int .i64) fun _=>(n:Int)
 |some d,.extract i x=>match adO D x,dty D d with
  |.tup ts,some u=>match aEX ts i u,opd D x (.tup ts)with
   |some f,some a=>.tot D d u fun e=>f (a e)
   |_,_=>.fail
  |_,_=>.fail
 |some d,.arrptr n z x=>match tyO D x with
  |some (.sl u)=>match opD D x (.sl u),Ty.ofEls (.arr n u) u,SY.get (.vp (.arr n u) 0) (D d)with
   |some a,some f,some c=>if u.size=z then .p (Ty.arr n u).den (fun _=>(Ty.arr n u).dflt) (fun e=>if n<=(a e).length then some (f ((a e).take n))else none) fun e v=>e.set d (c v)else .fail
   |_,_,_=>.fail
  |_=>.fail
 |some d,.minmax mx x xs=>match tyO D x with
  |some (.int k)=>match opI D x k with
   |some f=>match mmL D mx k f xs with
    |some g=>.tot D d (.int k) g
    |none=>.fail
   |none=>.fail
  |_=>.fail
 |some d,.mkiface _ _=>.tot D d .err fun _=>true
 |some d,.mkfn (.func f) [] cap=>match D d with
  |.clo g bs=>if f=g/\capsOk D cap bs=true then .t fun e=>e else .fail
  |_=>.fail
 |some d,.call f xs _ _=>aBI D cf d f xs
 |_,_=>.fail
end Go.VM
namespace Go.VM
structure AL where
 ns:List Nat
 tip:Bool
 own:Bool
 pre:Bool
 un:Bool
 rv:Option Nat
 deriving DecidableEq
def AL.z:AL:=⟨[],false,false,false,false,none⟩
abbrev Ls:=List (Nat×AL)
structure SV where
 ls:Ls
 cp:Option (Nat×Option Nat)
structure LS where
 vs:List (Nat×SV)
 dt:List Nat
 ld:List Nat
inductive HN where
 |n
 |j (L:List Nat)
 |l (L:List Nat) (inv:Option (List (Nat×SV)))
structure Kt(D:Nat->SY)(R:Type) where
 n:TE D->Option R
 x:Nat->TE D->Option R
 r:TE D->Option R
def aGH(D:Nat->SY):List Nat->Type
 |[]=>Unit
 |[s]=>(D s).den
 |s::u::r=>(D s).den×aGH D (u::r)
def zJ{D:Nat->SY}:(L:List Nat)->TE D->aGH D L
 |[],_=>()
 |[s],e=>e s
 |s::u::r,e=>(e s,zJ (u::r) e)
def kD{D:Nat->SY}:(L:List Nat)->aGH D L->TE D
 |[],_=>TE.ini D
 |[s],x=>(TE.ini D).set s x
 |s::u::r,x=>(kD (u::r) x.2).set s x.1
def aBJ{α R:Type}(k:α->Option R)(f:(α->Option R)->Option R):Option R:=f k
def tN{α R:Type}(s:α):Option (α ⊕ R):=some (.inl s)
def lJ{α R:Type}(o:Option R):Option (α ⊕ R):=o.map .inr
abbrev LP:={α R:Type}->(α->Option (α ⊕ R))->α->Option R
def eG(m:Nat){α R:Type}(body:α->Option (α ⊕ R))(x:α):Option R:=match m with
 |0=>none
 |m+1=>match body x with
  |some (.inl s)=>eG m body s
  |some (.inr r)=>some r
  |none=>none
def SY.asB:(y:SY)->y.den->Bool
 |.d .bool,b=>b
 |_,_=>false
abbrev CC:=List (Nat×List (Nat×Bool))
def bW:CC->Nat->List (Nat×Bool)
 |[],_=>[]
 |(a,c)::r,s=>if a=s then c else bW r s
def eH(C:CC):Option (Nat×Bool)->List (Nat×Bool)
 |none=>[]
 |some (s,w)=>(s,w)::bW C s
def oM(C:CC)(dst:Option Nat)(cs:List (Nat×Bool)):CC:=match dst,cs with
 |some d,c::cs=>(d,c::cs)::C
 |_,_=>C
def pP{D:Nat->SY}(e:TE D)(s:Nat)(w:Bool):Bool:=match w with
 |true=>SY.asB (D s) (e s)
 |false=>!(SY.asB (D s) (e s))
def rS{D:Nat->SY}(e:TE D):List (Nat×Bool)->Bool
 |[]=>true
 |[(s,w)]=>pP e s w
 |(s,w)::c::r=>pP e s w&&rS e (c::r)
def OD.go{E R:Type}(o:OD E)(e:E)(g:Option Bool)(K:E->Option R):Option R:=match o with
 |.t f=>K (f e)
 |.p _ z f h=>match g with
  |none=>(f e).bind fun a=>K (h e a)
  |some b=>(bif b then f e else some (z e)).bind fun a=>K (h e a)
def cloT(b:Nat):Nat:=if 200000<=b then b-200000 else b-100000
def fnO(D:Nat->SY):Opd->Option (Nat×List Nat)
 |.tmp s=>match D s with
  |.d (.fn f)=>some (f,[])
  |.clo f bs=>some (f,bs)
  |_=>none
 |.const (.fn (.func f) [] [])=>some (f,[])
 |_=>none
def VOp.stat(D:Nat->SY):VOp->VOp
 |.callv x xs q av=>match fnO D x with
  |some (f,bs)=>.call f (xs++bs.map fun b=>.tmp (cloT b)) q av
  |none=>.callv x xs q av
 |op=>op
variable{sg:Nat->Sg}
def aIe{D:Nat->SY}(e:TE D):List (Nat×Bool)->Option Bool
 |[]=>none
 |c::cs=>some (rS e (c::cs))
def kE(D:Nat->SY)(cf:NF sg){R:Type}:List VOper->CC->(TE D->Option R)->TE D->Option R
 |[],_,K,e=>K e
 |o::r,C,K,e=>(dop D cf o.dst (o.op.stat D)).go e (aIe e (eH C o.guard)) (kE D cf r (oM C o.dst (eH C o.guard)) K)
def hn:VC->Nat
 |.seq a b=>hn a+hn b
 |.cond _ a b=>hn a+hn b+1
 |.block _ a=>hn a+1
 |.loop a=>hn a+1
 |.scope a=>hn a
 |_=>0
def den(D:Nat->SY)(lp:LP)(cf:NF sg):VC->{R:Type}->List HN->Kt D R->TE D->Option R
 |.skip,_,_,K,e=>K.n e
 |.region ops,_,_,K,e=>kE D cf ops [] K.n e
 |.seq a b,_,hs,K,e=>den D lp cf a hs {K with n:=den D lp cf b (hs.drop (hn a)) K} e
 |.cond c a b,_,hs,K,e=>match opB D c,hs with
  |some f,.j L::hs=>aBJ (fun p=>K.n (kD L p)) fun j=>bif f e then den D lp cf a hs {K with n:=fun e=>j (zJ L e)} e else den D lp cf b (hs.drop (hn a)) {K with n:=fun e=>j (zJ L e)} e
  |some f,_::hs=>bif f e then den D lp cf a hs K e else den D lp cf b (hs.drop (hn a)) K e
  |_,_=>none
 |.block id a,_,hs,K,e=>match hs with
  |.j L::hs=>aBJ (fun p=>K.n (kD L p)) fun j=>den D lp cf a hs {n:=fun e=>j (zJ L e),x:=fun i e=>if i=id then j (zJ L e)else K.x i e,r:=K.r} e
  |_::hs=>den D lp cf a hs {K with x:=fun i e=>if i=id then K.n e else K.x i e} e
  |[]=>none
 |.loop a,_,hs,K,e=>match hs with
  |.l L _::hs=>lp (fun p=>den D lp cf a hs {n:=fun e=>tN (zJ L e),x:=fun i e=>lJ (K.x i e),r:=fun e=>lJ (K.r e)} (kD L p)) (zJ L e)
  |_=>none
 |.exit id,_,_,K,e=>K.x id e
 |.scope a,_,hs,K,e=>den D lp cf a hs K e
 |.ret,_,_,K,e=>K.r e
def gJ(D:Nat->SY):(ps:List PK)->Nat->Option ((Ty.row (ps.map PK.ty)).den->TE D->TE D)
 |[],_=>some fun _ e=>e
 |.d t::r,i=>match SY.get (.d t) (D i),gJ D r (i+1)with
  |some c,some g=>some fun x e=>(g (eA t (r.map PK.ty) x) e).set i (c (dT t (r.map PK.ty) x))
  |_,_=>none
 | .p t :: r, i => if D i = .ptr (bK i) 0 then match SY.get (.box t) (D (bK i)), gJ D r (i + 1) with
     |some c,some g=>some fun x e=>(g (eA t (r.map PK.ty) x) e).set (bK i) (c (dT t (r.map PK.ty) x))
     |_,_=>none
  else none
def aE0(D:Nat->SY):(ts:List Ty)->List RV->Option (TE D->(Ty.row ts).den)
 |[],[]=>some fun _=>()
 |t::r,.tmp s::xs=>match opD D (.tmp s) t,aE0 D r xs with
  |some f,some g=>some fun e=>aP t r (f e) (g e)
  |_,_=>none
 |t::r,.cell _ _ s::xs=>match rty D s with
  |some w=>match Ty.getAt w 0 t,SY.get (D s) (.reg w),aE0 D r xs with
   |some f,some c,some g=>some fun e=>aP t r (f (c (e s))) (g e)
   |_,_,_=>none
  |none=>none
 |_,_=>none
def aJf(D:Nat->SY)(t:Ty):List RV->Option (TE D->(Ty.row [t]).den)
 |[.tmp s]=>match D s with
  |.ptr b 0=>(SY.get (D b) (.box t)).map fun c e=>c (e b)
  |_=>none
 |_=>none
def tO(D:Nat->SY):(ps:List PK)->Nat->Option (TE D->(Ty.row (bD ps)).den)
 |[],_=>some fun _=>()
 |.d _::r,i=>tO D r (i+1)
 |.p t::r,i=>match SY.get (D (bK i)) (.box t),tO D r (i+1)with
  |some c,some g=>some fun e=>aP t (bD r) (c (e (bK i))) (g e)
  |_,_=>none
def aJg(D:Nat->SY)(s:Sg)(rs:List RV):Option (TE D->(Ty.row s.vts).den):=match s with
 |⟨_,ts,none⟩=>aE0 D (ts.map Prod.fst) rs
 |⟨_,_,some t⟩=>aJf D t rs
structure FI where
 D:List (Nat×SY)
 hs:List HN
def aE1(lp:LP)(cf:NF sg)(s:Sg)(fi:FI)(vf:VF)(x:s.a.den):Option s.r.den:=
 match gJ (aD9 fi.D) s.ps 0,aJg (aD9 fi.D) s vf.res,tO (aD9 fi.D) s.ps 0 with
 | some p, some r, some b => den (aD9 fi.D) lp cf vf.code fi.hs
     {n:=fun e=>some (nD s.vts (bD s.ps) (r e) (b e)),x:=fun _ _=>none,r:=fun e=>some (nD s.vts (bD s.ps) (r e) (b e))} (p x (TE.ini _))
 |_,_,_=>none
inductive NE(s:Sg) where
 |code (fi:FI) (vf:VF)
 |prim (p:s.a.den->Option s.r.den)
 |no
def nfN(T:(f:Nat)->NE (sg f)):Nat->NF sg
 |0,_,_=>none
 |N+1,f,x=>match T f with
  |.code fi vf=>aE1 (eG N) (nfN T N) (sg f) fi vf x
  |.prim p=>p x
  |.no=>none
end Go.VM
namespace Go.VM
def aJv:Option Ty->Bool
 |some t=>t.agg
 |none=>false
def aKF:Option Ty->Ty->Nat
 |some w,u=>Ty.cnt w u
 |none,_=>0
def aV:Ls->Nat->AL
 |[],_=>.z
 |(a,l)::r,i=>if a=i then l else aV r i
def tB(xs ys:List Nat):Bool:=xs.any ys.contains
def AL.bump(N:List Nat)(a:AL):AL:=if tB a.ns N then{a with tip:=false}else a
def AL.lock(N:List Nat)(a:AL):AL:=if tB a.ns N then{a with un:=false}else a
def aCt(off sz:Nat)(ls:Ls):Ls:=(ls.filter fun p=>decide (off<=p.1/\p.1<off+sz)).map fun p=>(p.1-off,p.2)
def aIA(off sz:Nat)(ls:Ls):Ls:=ls.filter fun p=>!decide (off<=p.1/\p.1<off+sz)
def aH5(off sz:Nat)(ls new:Ls):Ls:=(new.filter fun p=>decide (p.1<sz)).map (fun p=>(p.1+off,p.2))++aIA off sz ls
def aR(ls:Ls):List Nat:=ls.flatMap fun p=>p.2.ns
def jN(ls:Ls):Bool:=ls.all fun p=>p.2.rv.isNone
def zK(av:List Nat)(ls:Ls):Bool:=ls.all fun p=>match p.2.rv with
 |some s=>!av.contains s
 |none=>true
def AL.join(a b:AL):AL:=⟨a.ns++b.ns.filter (fun x=>!a.ns.contains x),a.tip&&b.tip,a.own&&b.own,a.pre&&b.pre,a.un&&b.un,a.rv⟩
def zL(a b:Ls):List Nat:=a.map (·.1)++(b.map (·.1)).filter fun i=>!(a.map (·.1)).contains i
def aBK(a b:Ls):Ls:=(zL a b).map fun i=>(i,(aV a i).join (aV b i))
def uN(a b:Ls):Bool:=(zL a b).all fun i=>(aV a i).rv==(aV b i).rv
def AL.le(a b:AL):Bool:=a.ns.all b.ns.contains&&(!b.tip||a.tip)&&(!b.own||a.own)&&(!b.pre||a.pre)&&(!b.un||a.un)&&a.rv==b.rv
def leL(a b:Ls):Bool:=(zL a b).all fun i=>(aV a i).le (aV b i)
def vAt:List (Nat×SV)->Nat->Option SV
 |[],_=>none
 |(a,v)::r,s=>if a=s then some v else vAt r s
def LS.has(Λ:LS)(s:Nat):Option SV:=vAt Λ.vs s
def aGy(f:Nat->SV->SV):List (Nat×SV)->List (Nat×SV)
 |[]=>[]
 |(a,v)::r=>(a,f a v)::aGy f r
def rT(p:Nat->SV->Bool):List (Nat×SV)->List (Nat×SV)
 |[]=>[]
 |(a,v)::r=>if p a v then(a,v)::rT p r else rT p r
def aBL(f:AL->AL)(ls:Ls):Ls:=ls.map fun p=>(p.1,f p.2)
def LS.bump(N:List Nat)(Λ:LS):LS:={Λ with vs:=aGy (fun _ v=>{v with ls:=aBL (AL.bump N) v.ls}) Λ.vs,dt:=N++Λ.dt}
def LS.lock(N:List Nat)(Λ:LS):LS:={Λ with vs:=aGy (fun _ v=>{v with ls:=aBL (AL.lock N) v.ls}) Λ.vs,ld:=N++Λ.ld}
def LS.keep(p:Nat->SV->Bool)(Λ:LS):LS:={Λ with vs:=rT p Λ.vs}
def SV.uncp(d:Nat)(v:SV):SV:=match v.cp with
 |some (r,_)=>if r=d then{v with cp:=none}else v
 |none=>v
def SY.refs(d:Nat):SY->Bool
 |.rp s _=>s==d
 |.rx s _ _ _=>s==d
 |.ptr b _=>b==d
 |.clo _ bs=>bs.contains d
 |_=>false
def tP(d:Nat)(ls:Ls):Bool:=ls.any fun p=>p.2.rv==some d
def aF6:List V->Nat->Ls
 |[],_=>[]
 |.nils::r,i=>(i,⟨[],true,true,true,true,none⟩)::aF6 r (i+1)
 |_::r,i=>aF6 r (i+1)
section
variable(D:Nat->SY)
def LS.asg(d:Nat)(Λ:LS):LS:={Λ with vs:=aGy (fun _ v=>v.uncp d) (rT (fun s v=>decide (s≠d)&&!(D s).refs d&&!tP d v.ls) Λ.vs)}
def LS.sto(d:Nat)(Λ:LS):LS:={Λ with vs:=aGy (fun _ v=>v.uncp d) (rT (fun s v=>decide (s≠d)&&!tP d v.ls) Λ.vs)}
def LS.put(d:Nat)(v:SV)(Λ:LS):LS:={Λ with vs:=(d,v)::Λ.vs}
def aJR(a b:List (Nat×Bool)):Bool:=a.all b.contains
variable(Λ:LS)(C:CC)
def rdS(cs:List (Nat×Bool))(s:Nat):Option SV:=match Λ.has s with
 |some v=>if aJR (bW C s) cs then some v else none
 |none=>none
def rd(cs:List (Nat×Bool)):Opd->Option Ls
 |.const v=>some (aF6 v.cells 0)
 |.tmp s=>match rdS Λ C cs s with
  |some v=>match D s with
   |.reg _=>some []
   |.box _=>none
   |.no=>none
   |_=>some v.ls
  |none=>none
def aCu:Opd->Option (Nat×Option Nat)
 |.const _=>none
 |.tmp s=>match D s with
  |.d _=>match Λ.has s with
   |some v=>match v.cp with
    |some r=>some r
    |none=>if bW C s=[]then some (s,none)else none
   |none=>none
  |.ep ..=>match Λ.has s with
   |some v=>v.cp
   |none=>none
  |_=>none
def rdO(cs:List (Nat×Bool)):Option Opd->Bool
 |none=>true
 |some x=>(rd D Λ C cs x).isSome
def tQ(cs:List (Nat×Bool))(xs:List Opd):Bool:=xs.all fun x=>(rd D Λ C cs x).isSome
def aGI(cs:List (Nat×Bool)):List (Nat×Nat×Opd)->Ls->Option Ls
 |[],ls=>some ls
 |(off,sz,x)::r,ls=>match rd D Λ C cs x with
  |some l=>if jN l then aGI cs r (aH5 off sz ls l)else none
  |none=>none
def zM(cs:List (Nat×Bool)):List (Nat×Nat×Opd)->Option (List Nat)
 |[]=>some []
 |(_,_,x)::r=>match rd D Λ C cs x,zM cs r with
  |some l,some ns=>if jN l then some (aR l++ns)else none
  |_,_=>none
def wN:Option Opd->Bool
 |none=>true
 |some (.const (.int _ 0))=>true
 |_=>false
def aGz:List Ty->Nat->Nat
 |_,0=>0
 |[],_=>0
 |t::r,i+1=>t.size+aGz r i
def wO:SY->Bool
 |.reg _=>false
 |.box _=>false
 |.no=>false
 |_=>true
def zN:SY->Bool
 |.ptr ..=>true
 |.rp ..=>true
 |.rx ..=>true
 |.ep ..=>true
 |.vp ..=>true
 |_=>false
def lA(cs:List (Nat×Bool))(d:Nat):VOp->Option (Ls×Option (Nat×Option Nat))
 |.mv x=>if aCs (.mv x) (D d)=true then none else(rd D Λ C cs x).map fun l=>(l,aCu D Λ C x)
 |.nilck x=>if zN (D d)then(rd D Λ C cs x).map fun l=>(l,aCu D Λ C x)else none
 |.convS x=>if D d=.d .str then(rd D Λ C cs x).map fun _=>([],none)else none
 |.pick c a b=>match rd D Λ C cs c with
  |some _=>match c with
   |.tmp s=>match rd D Λ C ((s,true)::cs) a,rd D Λ C ((s,false)::cs) b with
    |some la,some lb=>if jN la&&jN lb then some (aBK la lb,none)else none
    |_,_=>none
   |.const _=>none
  |none=>none
 |.build zs parts=>(aGI D Λ C cs parts (aF6 zs 0)).map fun l=>(l,none)
 |.bslice false z n zs parts=>match dty D d,zM D Λ C cs parts with
  |some (.sl t),some ns=>if ns=[]/\t.size=z/\0<z/\zs.length=z/\(parts.all fun p=>decide (p.1<n*z)&&p.1%z==0)=true then some ([(0,⟨[aQ d 0],!Λ.dt.contains (aQ d 0),true,true,!Λ.ld.contains (aQ d 0),none⟩)],none)else none
  |_,_=>none
 |.load rt agg sz a=>match rd D Λ C cs a with
  |none=>none
  |some la=>match adO D a,dty D d with
   |.rp s off,some u=>match rt,rdS Λ C cs s with
    |.r s',some v=>if s'=s/\jN v.ls=true/\u.size=sz/\u.agg=agg then some (aCt off sz v.ls,if bW C s=[]/\agg=false then some (s,some off)else none)else none
    |_,_=>none
   |.rx s off len u',some u=>match rt,rdS Λ C cs s with
    |.r s',some v=>if s'=s/\u.size=sz/\u.agg=agg/\u'=u/\aCt off (len*sz) v.ls=[]/\0<sz/\Ty.cnt (.arr len u) u=len then some ([],none)else none
    |_,_=>none
   |.ptr b _,some u=>match rt,rdS Λ C cs b with
    |.b,some _=>if u.size=sz/\u.agg=agg then some ([],none)else none
    |_,_=>none
   |.ep _ _ _,some u=>match rt with
    |.e av=>if zK av la=true/\u.size=sz/\u.agg=agg then some ([],none)else none
    |_=>none
   |.vp _ _,some u=>match rt with
    |.e av=>if zK av la=true/\u.size=sz/\u.agg=agg then some ([],none)else none
    |_=>none
   |_,_=>none
 |.bin _ x y|.eq _ _ x y|.ixS x y=>if tQ D Λ C cs [x,y]then some ([],none)else none
 |.toBytes x=>if tQ D Λ C cs [x]then some ([(0,⟨[aQ d 0],!Λ.dt.contains (aQ d 0),true,true,!Λ.ld.contains (aQ d 0),none⟩)],none)else none
 |.unop _ x|.convI _ x|.len _ x=>if tQ D Λ C cs [x]then some ([],none)else none
 |.toStr x av=>match rd D Λ C cs x with
  |some l=>if zK av l then some ([],none)else none
  |none=>none
 |.fieldA _ x=>(rd D Λ C cs x).map fun l=>(l,aCu D Λ C x)
 |.field agg off sz x=>match rd D Λ C cs x,dty D d with
  |some l,some u=>if jN l=true/\u.size=sz/\u.agg=agg/\aJv (tyO D x)=true then some (aCt off sz l,none)else none
  |_,_=>none
 |.idxS z x i=>match rd D Λ C cs x,rd D Λ C cs i,tyO D x with
  |some l,some _,some (.sl t)=>if t.size=z then some (l,aCu D Λ C x)else none
  |_,_,_=>none
 |.idxA _ z x i=>match rd D Λ C cs x,rd D Λ C cs i with
  |some l,some _=>match D d with
   |.rx _ _ _ u=>if u.size=z then some (l,none)else none
   |_=>some (l,aCu D Λ C x)
  |_,_=>none
 |.ixA agg _ z x i=>match rd D Λ C cs x,rd D Λ C cs i,dty D d with
  |some l,some _,some u=>if l=[]/\u.size=z/\u.agg=agg/\aJv (tyO D x)=true then some ([],none)else none
  |_,_,_=>none
 |.cutS x lo hi=>if tQ D Λ C cs [x]&&rdO D Λ C cs lo&&rdO D Λ C cs hi then some ([],none)else none
 |.cut z x lo hi=>match rd D Λ C cs x,dty D d with
  | some l, some (.sl t) => if rdO D Λ C cs lo && rdO D Λ C cs hi && decide (t.size = z) then
      some (aBL (fun a=>{a with own:=false,pre:=a.pre&&wN lo}) l,none)else none
  |_,_=>none
 |.cutR s len z x lo hi=>match rd D Λ C cs x,rdS Λ C cs s,dty D d,rty D s,adO D x with
  | some _, some v, some (.sl u), some t, .rp s' off => if rdO D Λ C cs lo && rdO D Λ C cs hi && decide (s' = s ∧ aR v.ls = [] ∧ u.size = z ∧ 0 < z ∧ jN v.ls = true ∧ aKF (Ty.subAt t off (len * z) true) u = len) then
      some ([(0,⟨[],false,false,false,false,some s⟩)],none)else none
  |_,_,_,_,_=>none
 |.mkslice z _ zs l c=>match dty D d with
  | some (.sl t) => if tQ D Λ C cs [l, c] && decide (t.size = z ∧ 0 < z ∧ zs.length = z) then
      some ([(0,⟨[aQ d 0],!Λ.dt.contains (aQ d 0),true,true,!Λ.ld.contains (aQ d 0),none⟩)],none)else none
  |_=>none
 |.lenC _=>some ([],none)
 |.extract i x=>match rd D Λ C cs x,adO D x,dty D d with
  |some l,.tup ts,some u=>if jN l then some (aCt (aGz ts i) u.size l,none)else none
  |_,_,_=>none
 |.arrptr n _ x=>match rd D Λ C cs x,D d with
  |some l,.vp (.st w) _=>match tyO D x with
   |some (.sl u)=>if Ty.cnt (.arr n u) u=n/\Ty.st w=.arr n u/\0<n then some (l,none)else none
   |_=>none
  |_,_=>none
 |.minmax _ x xs=>if tQ D Λ C cs (x::xs)then some ([],none)else none
 |.mkiface _ x=>match rd D Λ C cs x,tyO D x with
  |some l,some t=>if aR l=[]/\jN l=true/\(opD D x t).isSome=true then some ([],none)else none
  |_,_=>none
 |.mkfn _ _ cap=>if tQ D Λ C cs cap then some ([],none)else none
 |_=>none
def dD:Ty->Nat->List Nat
 |.sl _,off=>[off]
 |.st t,off=>dD t off
 |.pair a b,off=>dD a off++dD b (off+a.size)
 |_,_=>[]
def rU(cs:List (Nat×Bool)):List PK->List Opd->Option (List Ls×List Nat)
 |[],[]=>some ([],[])
 |.d _::r,x::xs=>match rd D Λ C cs x,rU cs r xs with
  |some l,some (ls,bs)=>if jN l then some (l::ls,bs)else none
  |_,_=>none
 |.p _::r,x::xs=>match rd D Λ C cs x,adO D x,rU cs r xs with
  |some _,.ptr b 0,some (ls,bs)=>match rdS Λ C cs b with
   |some _=>if bs.contains b then none else some ([]::ls,b::bs)
   |none=>none
  |_,_,_=>none
 |_,_=>none
def aE2(cs:List (Nat×Bool))(av:List Nat):List PK->List Opd->Option (List Nat)
 |[],[]=>some []
 |.d t::r,x::xs=>match rd D Λ C cs x,aE2 cs av r xs with
  |some l,some ns=>if jN l||(zK av l&&t.isSl)then some (aR l++ns)else none
  |_,_=>none
 |_,_=>none
def aE3:List Ls->List Opd->List Nat->Nat->Option (List Nat)
 |[],_,_,_=>some []
 |l::ls,x::xs,cons,i=>match aE3 ls xs cons (i+1)with
  | some ns => if cons.contains i then match x with
      |.const .nils=>some ns
      |.const _=>none
      |.tmp _=>if(aV l 0).own&&(aV l 0).tip&&!tB (aV l 0).ns ns then some ((aV l 0).ns++ns)else none
   else some ns
  |none=>none
 |_::_,[],_,_=>none
def dU(cl:List (Nat×Bool))(i:Nat):Option Bool:=(cl.find? (fun p=>p.1==i)).map (·.2)
def aE4(U Fr:List Nat)(cl:List (Nat×Bool))(i:Nat):AL:=⟨Fr++U,true,(dU cl i).isSome,(dU cl i).isSome,(dU cl i).getD false&&!tB Fr U,none⟩
def aIB(U Fr:List Nat):List (Ty×List (Nat×Bool))->Nat->Ls
 |[],_=>[]
 |(t,cl)::r,off=>(dD t 0).map (fun i=>(i+off,aE4 U Fr cl i))++aIB U Fr r (off+t.size)
def gQ:List (Ty×List (Nat×Bool))->Nat
 |[]=>0
 |(t,_)::r=>t.size+gQ r
def lZ:List (Ty×List (Nat×Bool))->Nat
 |[]=>0
 |(t,_)::r=>(dD t 0).length+lZ r
variable(sg:Nat->Sg)(vsg:Nat->Sig)
def cop(cs:List (Nat×Bool))(dst:Option Nat)(op:VOp):Option LS:=match dst,op with
 |some d,.allocR zs=>if cs=[]/\(rty D d).isSome=true then some ((Λ.asg D d).put d ⟨aF6 zs 0,none⟩)else none
 |some d,.boxR _ x=>match rd D Λ C cs x with
  |some l=>if cs=[]/\(rty D d).isSome=true/\jN l=true then some ((Λ.asg D d).put d ⟨l,none⟩)else none
  |none=>none
 |some d,.allocB _=>if cs=[]/\D d=.ptr (aH d) 0 then some ((((Λ.asg D d).asg D (aH d)).put (aH d) ⟨[],none⟩).put d ⟨[],none⟩)else none
 |some d,.boxB _ x=>match rd D Λ C cs x with
  |some l=>if cs=[]/\D d=.ptr (aH d) 0/\jN l=true then some (((((Λ.lock (aR l)).asg D d).asg D (aH d)).put (aH d) ⟨[],none⟩).put d ⟨[],none⟩)else none
  |none=>none
 |none,.store rt sz a x=>match rd D Λ C cs a,rd D Λ C cs x with
  |some la,some lx=>if cs=[]/\jN lx=true then match adO D a with
   |.rp s off=>match rt,rdS Λ C cs s,rty D s with
    |.r s',some v,some t=>match rR D t off sz x with
     |some u=>if s'=s/\u.size=sz/\jN v.ls=true then some ((Λ.sto s).put s ⟨aH5 off sz v.ls lx,none⟩)else none
     |none=>none
    |_,_,_=>none
   |.rx s off len u=>match rt,rdS Λ C cs s with
    |.r s',some v=>if s'=s/\u.size=sz/\lx=[]/\aCt off (len*sz) v.ls=[]/\0<sz/\Ty.cnt (.arr len u) u=len/\jN v.ls=true then some ((Λ.sto s).put s ⟨v.ls,none⟩)else none
    |_,_=>none
   |.ptr b off=>match rt,rdS Λ C cs b,bty D b with
    |.b,some _,some t=>match rR D t off sz x with
     |some u=>if u.size=sz then some (Λ.lock (aR lx))else none
     |none=>none
    |_,_,_=>none
   |.ep t off (some (s,o))=>match rt,rdS Λ C cs s,a with
    |.e _,some v,.tmp p=>match rdS Λ C cs p,rR D t off sz x with
     | some pv, some u => if pv.cp = some (s, o) ∧ u.size = sz ∧ 0 < t.size ∧ (aV la 0).own = true ∧ (aV la 0).tip = true ∧ (aV la 0).un = true ∧ tB (aR lx) (aV la 0).ns = false ∧ p ≠ s ∧
         (v.ls.all fun q=>decide (q.1=o.getD 0)||!tB q.2.ns (aV la 0).ns)=true then
         some (((((Λ.keep fun s' w=>decide (s'≠s)&&!tB (aR w.ls) (aV la 0).ns).sto s).put s ⟨v.ls,none⟩).lock (aR lx)))else none
     |_,_=>none
    |_,_,_=>none
   |_=>none
   else none
  |_,_=>none
 |some d,.bslice true z n zs parts=>match dty D d,zM D Λ C cs parts with
  | some (.sl t), some ns => if t.size = z ∧ 0 < z ∧ zs.length = z ∧ (parts.all fun p => decide (p.1 < n * z) && p.1 % z == 0) = true then
      some (((Λ.lock ns).asg D d).put d ⟨[(0,⟨[aQ d 0],!Λ.dt.contains (aQ d 0),true,true,!(ns++Λ.ld).contains (aQ d 0),none⟩)],none⟩)else none
  |_,_=>none
 |some d,.append z _ cut _ s x av=>match dty D d,rd D Λ C cs s,rd D Λ C cs x with
  | some (.sl t), some l, some lx => if t.size = z ∧ 0 < z ∧ zK av lx = true then
      if (aV l 0).own && (aV l 0).tip then
          some (((Λ.bump (aQ d 0::(aV l 0).ns)).asg D d).put d ⟨[(0,⟨aQ d 0::(aV l 0).ns,true,true,true,(aV l 0).un,none⟩)],none⟩)
      else if cut && (aV l 0).pre && (aV l 0).tip && (aV l 0).un then
          some ((((Λ.keep fun _ w=>!tB (aR w.ls) (aV l 0).ns).bump (aQ d 0::(aV l 0).ns)).asg D d).put d ⟨[(0,⟨aQ d 0::(aV l 0).ns,true,true,true,(aV l 0).un,none⟩)],none⟩)
      else none
   else none
  |_,_,_=>none
 |some d,.call f xs q av=>match(if pv av=true then none else rU D Λ C cs (sg f).ps xs)with
  |some (ls,_)=>match aE3 ls xs (vsg f).cons 0 with
   | some U => if xs.length ≤ 64 ∧ (q = true → (vsg f).quiet = true) ∧ gQ (sg f).rs ≤ 64 ∧ ((vsg f).cons = [] ∨ lZ (sg f).rs ≤ 1) then
       let Fr:=(List.range (gQ (sg f).rs)).map (aQ d ·);let Λ1:=((Λ.lock (U++ls.flatMap aR++Fr)).bump (U++Fr)).asg D d
       match(sg f).nb with
       |some _=>if cs=[]/\D d=.ptr (aH d) 0/\q=false/\(vsg f).cons=[]then some (((Λ1.asg D (aH d)).put (aH d) ⟨[],none⟩).put d ⟨[],none⟩)else none
       |none=>if wO (D d)then some (Λ1.put d ⟨aIB U Fr (sg f).rs 0,none⟩)else none
    else none
   |none=>none
  |none=>match aE2 D Λ C cs av (sg f).ps xs with
   |some ns=>if xs.length<=64/\(q=true->(vsg f).quiet=true)/\(vsg f).cons=[]/\(sg f).nb=none/\((sg f).rs.all fun p=>p.1.plain)=true/\wO (D d)=true then some (((Λ.lock (if pv av=true then[]else ns)).asg D d).put d ⟨[],none⟩)else none
   |none=>none
 |some d,.fail=>if cs=[]/\(rty D d).isSome=false then some ((Λ.asg D d).put d ⟨[],none⟩)else none
 |none,.fail=>if cs=[]then some Λ else none
 |some d,op=>match lA D Λ C cs d op with
  |some (ls,cp)=>if wO (D d)then some ((Λ.asg D d).put d (SV.uncp d ⟨ls,cp⟩))else none
  |none=>if aCs op (D d)=true then some (Λ.asg D d)else none
 |none,_=>none
end
def bU(C:CC)(d:Option Nat):Bool:=match d with
 |some d=>C.all fun p=>decide (p.1≠d)&&p.2.all fun q=>decide (q.1≠d)
 |none=>true
section
variable(D:Nat->SY)(sg:Nat->Sg)(vsg:Nat->Sig)
def statOk(Λ:LS)(C:CC)(cs:List (Nat×Bool)):VOp->Bool
 |.callv x _ _ _=>(rd D Λ C cs x).isSome&&(match fnO D x with
  |some (_,bs)=>bs.all fun b=>decide (D (cloT b)=.ptr b 0)&&(rd D Λ C cs (.tmp (cloT b))).isSome
  |none=>true)
 |_=>true
def aIf(o:VOper)(Λ:LS)(C:CC):Bool:=
 statOk D Λ C (eH C o.guard) o.op&&bU C o.dst&&(match o.dst with|some d=>decide (d<100000)|none=>true)&&(match o.guard with|some (s,_)=>decide (s<100000)&&(rdS Λ C (bW C s) s).isSome&&decide (D s=.d .bool)&&decide (o.dst≠some s)&&(bW C s).all (fun q=>decide (o.dst≠some q.1))|none=>true)
def aCv:List VOper->CC->LS->Option (CC×LS)
 |[],C,Λ=>some (C,Λ)
 |o::r,C,Λ=>
  if aIf D o Λ C then
   match cop D Λ C sg vsg (eH C o.guard) o.dst (o.op.stat D)with
   |some Λ'=>aCv r (oM C o.dst (eH C o.guard)) Λ'
   |none=>none
  else none
def LS.out(kept:List Nat)(C:CC)(Λ:LS):LS:=
 ⟨aGy (fun _ v=>match v.cp with|some (r,_)=>if kept.contains r&&(bW C r).isEmpty then v else{v with cp:=none}|none=>v) (rT (fun s v=>(kept.contains s||decide (100000<=s))&&(bW C s).isEmpty&&(match D s with
  |.rp r _=>kept.contains r
  |.rx r _ _ _=>kept.contains r
  |_=>true)&&(v.ls.all fun p=>match p.2.rv with|some r=>kept.contains r|none=>true)) Λ.vs),[],[]⟩
def aCw:List (Nat×SV)->List (Nat×SV)->List (Nat×SV)
 |[],_=>[]
 |(s,v)::r,b=>match vAt b s with
  |some w=>if uN v.ls w.ls then(s,⟨aBK v.ls w.ls,if v.cp=w.cp then v.cp else none⟩)::aCw r b else aCw r b
  |none=>aCw r b
def aH6(a b:LS):LS:=⟨aCw a.vs b.vs,[],[]⟩
def rV:Option LS->Option LS->Option LS
 |none,b=>b
 |a,none=>a
 |some a,some b=>some (aH6 a b)
def SY.unitY:SY->Bool
 |.ptr ..=>true
 |.rp ..=>true
 |.d (.fn _)=>true
 |.clo ..=>true
 |_=>false
def restr(L:List Nat)(Λ:LS):LS:=⟨rT (fun s _=>L.contains s||(D s).unitY) Λ.vs,[],[]⟩
def leS(a b:LS):Bool:=b.vs.all fun p=>match a.has p.1 with
 |some v=>leL v.ls p.2.ls&&(p.2.cp==none||v.cp==p.2.cp)
 |none=>false
def leO:Option LS->LS->Bool
 |none,_=>true
 |some a,b=>leS a b
structure CR where
 n:Option LS
 x:List (Nat×LS)
def meetX(id:Nat):List (Nat×LS)->Option LS
 |[]=>none
 |(i,Λ)::r=>if i=id then rV (some Λ) (meetX id r)else meetX id r
def aCx(Λ:LS):List RV->Option (List Ls)
 |[]=>some []
 |.tmp s::r=>match rd D Λ [] [] (.tmp s),dty D s,aCx Λ r with
  |some l,some _,some ls=>if jN l then some (l::ls)else none
  |_,_,_=>none
 |.cell _ _ s::r=>match rdS Λ [] [] s,rty D s,aCx Λ r with
  |some v,some _,some ls=>if jN v.ls then some (v.ls::ls)else none
  |_,_,_=>none
def aIC:List Ty->List RV->Bool
 |[],[]=>true
 |_::r,.tmp _::xs=>aIC r xs
 |t::r,.cell agg sz _::xs=>decide (t.size=sz/\t.agg=agg/\(t.agg||t.size==1)=true)&&aIC r xs
 |_,_=>false
def aJS:List Ls->List (Ty×List (Nat×Bool))->Bool
 |[],[]=>true
 | l :: ls, (t, cl) :: rs => (cl.all fun c => (aV l c.1).own && (aV l c.1).tip && (!c.2 || (aV l c.1).un) && decide (c.1 < t.size) &&
     (l.all fun q=>decide (q.1=c.1)||!tB q.2.ns (aV l c.1).ns)&&!tB (ls.flatMap aR) (aV l c.1).ns) &&
     aJS ls rs&&(rs.all fun r=>r.2.all fun _=>true)
 |_,_=>false
def aGJ:List Ls->List (Ty×List (Nat×Bool))->List Nat->Bool
 |[],[],_=>true
 |l::ls,(_,cl)::rs,before=>(cl.all fun c=>!tB before (aV l c.1).ns)&&aGJ ls rs (aR l++before)
 |_,_,_=>false
def aH7(Λ:LS):List PK->Nat->Bool
 |[],_=>true
 |.d _::r,i=>aH7 Λ r (i+1)
 |.p _::r,i=>(Λ.has (bK i)).isSome&&aH7 Λ r (i+1)
def aGK(s:Sg)(rs:List RV)(Λ:LS):Bool:=aH7 Λ s.ps 0&&(match s.nb with
 |some _=>(match rs with
  |[.tmp t]=>(match D t,rd D Λ [] [] (.tmp t)with
   |.ptr b 0,some _=>(Λ.has b).isSome&&decide (b<200000)
   |_,_=>false)
  |_=>false)
 |none=>(match aCx D Λ rs with
  |some ls=>aJS ls s.rs&&aGJ ls s.rs []&&aIC (s.rs.map Prod.fst) rs
  |none=>false))
def aJh(Λ:LS):Option (List (Nat×SV))->LS
 |some vs=>⟨vs,[],[]⟩
 |none=>Λ
def chk(kept:List Nat)(ok:LS->Bool):VC->List HN->LS->Option CR
 |.skip,_,Λ=>some ⟨some Λ,[]⟩
 |.region ops,_,Λ=>match aCv D sg vsg ops [] {Λ.bump (cB ops)with dt:=[],ld:=[]}with
  |some (C,Λ')=>some ⟨some (Λ'.out D kept C),[]⟩
  |none=>none
 |.seq a b,hs,Λ=>match chk kept ok a hs Λ with
  |some ⟨some Λ',x⟩=>match chk kept ok b (hs.drop (hn a)) Λ' with
   |some ⟨n,y⟩=>some ⟨n,x++y⟩
   |none=>none
  |some ⟨none,x⟩=>some ⟨none,x⟩
  |none=>none
 |.cond c a b,h::hs,Λ=>match rd D Λ [] [] c,chk kept ok a hs Λ,chk kept ok b (hs.drop (hn a)) Λ with
  |some _,some ⟨n,x⟩,some ⟨m,y⟩=>some ⟨match h with
   |.j L=>(rV n m).map (restr D L)
   |_=>rV n m,x++y⟩
  |_,_,_=>none
 |.block id a,h::hs,Λ=>match chk kept ok a hs Λ with
  |some ⟨n,x⟩=>some ⟨match h with
   |.j L=>(rV n (meetX id x)).map (restr D L)
   |_=>rV n (meetX id x),x.filter fun p=>decide (p.1≠id)⟩
  |none=>none
 |.loop a,.l L inv::hs,Λ=>
  let Λ0:=restr D L (aJh Λ inv)
  if leS Λ Λ0 then match chk kept ok a hs Λ0 with
   |some ⟨n,x⟩=>if leO n Λ0 then some ⟨none,x⟩else none
   |none=>none
  else none
 |.exit id,_,Λ=>some ⟨none,[(id,Λ)]⟩
 |.scope a,hs,Λ=>chk kept ok a hs Λ
 |.ret,_,Λ=>if ok Λ then some ⟨none,[]⟩else none
 |_,_,_=>none
def aE5:Option PK->Bool
 |some (.d (.sl _))=>true
 |_=>false
def kF(cons:List Nat):List PK->Nat->List (Nat×SV)
 |[],_=>[]
 |.d (.sl _)::r,i=>(i,⟨if cons.contains i then[(0,⟨[i],true,true,true,false,none⟩)]else[],none⟩)::kF cons r (i+1)
 |.d _::r,i=>(i,⟨[],none⟩)::kF cons r (i+1)
 |.p _::r,i=>(i,⟨[],none⟩)::(bK i,⟨[],none⟩)::kF cons r (i+1)
def aH8(s:Sg)(fi:FI)(vf:VF):Bool:=
 let D:=aD9 fi.D
 match chk D sg vsg vf.kept (aGK D s vf.res) vf.code fi.hs ⟨kF vf.cons s.ps 0,[],[]⟩with
 |some ⟨n,_⟩=>(match n with
  |some Λ=>aGK D s vf.res Λ
  |none=>true)&&(List.range s.ps.length).all vf.kept.contains&&decide (vf.kept.Nodup)&&vf.kept.all (fun s=>decide (s<100000))&&decide (s.ps.length<=64)&&(List.range 64).all fun i=>!vf.cons.contains i||aE5 s.ps[i]?
 |none=>false
end
end Go.VM
namespace Go.VM
def aL{α:Type}(R:α->List V->Prop):List α->List V->Prop
 |[],cs=>cs=[]
 |x::l,cs=>∃c r,cs=c++r/\R x c/\aL R l r
def V.bare0:V->Prop
 |.sl l _ _ _=>l=.none
 |_=>True
def bP:(t:Ty)->t.den->List V->Prop
 |.unit,_,cs=>cs=[]
 |.bool,b,cs=>cs=[.bool b]
 |.int k,n,cs=>cs=[.int k n]
 |.str,s,cs=>cs=[.str s]
 |.err,b,cs=>(cs=[.nili]/\b=false)\/∃t v,cs=[.iface t v]/\v.noBox=true/\b=true
 |.sl t,l,cs=>(cs=[.nils]/\l=[])\/∃lb rs,cs=[.sl lb t.size (List.length l) rs]/\aL (bP t) l rs/\∀c∈rs,c.bare0
 |.st t,x,cs=>bP t x cs
 |.pair a b,x,cs=>∃c d,cs=c++d/\bP a x.1 c/\bP b x.2 d
 |.av k n,x,cs=>List.length x=n/\cs=List.map (V.int k) x
 |.fn f,_,cs=>cs=[.fn (.func f) [] []]
def gP(t:Ty)(x:t.den)(v:V):Prop:=bP t x v.cells/\v.isAgg=t.agg
def V.cell:V->Prop
 |.bool _|.int ..|.str _|.nils|.sl ..|.nili|.iface ..|.fn ..=>True
 |_=>False
section
variable{α:Type}{R:α->List V->Prop}
theorem mA:∀{l m:List α} {cs ds:List V},aL R l cs->aL R m ds->aL R (l++m) (cs++ds)
 |[],_,_,_,h,h'=>by cases h;exact h'
 |x::l,m,_,ds,⟨c,r,e,h1,h2⟩,h'=>⟨c,r++ds,by rw[e,List.append_assoc],h1,mA h2 h'⟩
theorem lB:∀{l:List α} {cs:List V} (n:Nat),aL R l cs->∃c d,cs=c++d/\aL R (l.take n) c/\aL R (l.drop n) d
 |[],cs,n,h=>⟨[],cs,rfl,by rw[List.take_nil];rfl,by rw[List.drop_nil];exact h⟩
 |x::l,cs,0,h=>⟨[],cs,rfl,rfl,h⟩
 |x::l,_,n+1,⟨c,r,e,h1,h2⟩=>by
  obtain⟨c',d,e',k1,k2⟩:=lB n h2;exact⟨c++c',d,by rw[e,e',List.append_assoc],⟨c,c',rfl,h1,k1⟩,k2⟩
variable{z:Nat}(hz:∀x c,R x c->c.length=z)
include hz
theorem jA:∀{l:List α} {cs:List V},aL R l cs->cs.length=l.length*z
 |[],_,h=>by cases h;simp
 |x::l,_,⟨c,r,e,h1,h2⟩=>by
  rw[e,List.length_append,hz _ _ h1,jA h2,List.length_cons,Nat.add_mul];omega
theorem rW{l:List α}{cs:List V}(n:Nat)(h:aL R l cs):aL R (l.take n) (cs.take (n*z)):=by
 obtain⟨c,d,e,h1,h2⟩:=lB n h;have hl:=jA hz h1;have hl2:=jA hz h2;rw[List.length_take]at hl;rw[List.length_drop]at hl2;by_cases hn:n<=l.length
 .rw[Nat.min_eq_left hn]at hl;rw[e,<-hl,List.take_left];exact h1
 .have h0:l.length-n=0:=by omega
  rw[h0,Nat.zero_mul]at hl2;have hd:=List.eq_nil_of_length_eq_zero hl2;rw[Nat.min_eq_right (by omega)]at hl;have hle:l.length*z<=n*z:=Nat.mul_le_mul_right z (by omega);have e2:c.take (n*z)=c:=List.take_of_length_le (by omega);rw[e,hd,List.append_nil,e2];exact h1
theorem rX{l:List α}{cs:List V}(n:Nat)(h:aL R l cs):aL R (l.drop n) (cs.drop (n*z)):=by
 obtain⟨c,d,e,h1,h2⟩:=lB n h;have hl:=jA hz h1;have hl2:=jA hz h2;rw[List.length_take]at hl;rw[List.length_drop]at hl2;by_cases hn:n<=l.length
 .rw[Nat.min_eq_left hn]at hl;rw[e,<-hl,List.drop_left];exact h2
 .have h0:l.length-n=0:=by omega
  rw[h0,Nat.zero_mul]at hl2;have hd:=List.eq_nil_of_length_eq_zero hl2;rw[Nat.min_eq_right (by omega)]at hl;have hle:l.length*z<=n*z:=Nat.mul_le_mul_right z (by omega);have e2:c.drop (n*z)=[]:=List.drop_of_length_le (by omega);rw[e,hd,List.append_nil,e2,<-hd];exact h2
theorem pX{l:List α}{cs:List V}{i:Nat}{x:α}(h:aL R l cs)(hi:l[i]?=some x):R x ((cs.drop (i*z)).take z)/\i*z+z<=cs.length:=by
 have h1:=rX hz i h;obtain⟨hlt,hx⟩:=List.getElem?_eq_some_iff.1 hi;have hl:=jA hz h;rw[List.drop_eq_getElem_cons hlt]at h1;obtain⟨c,r,e,h2,h3⟩:=h1;have hle:(i+1)*z<=l.length*z:=Nat.mul_le_mul_right z (by omega);rw[Nat.add_mul]at hle;refine⟨?_,by omega⟩;rw[e,<-hz _ _ h2,List.take_left];rw[<-hx];exact h2
end
theorem aF:∀{t:Ty} {x:t.den} {cs:List V},bP t x cs->cs.length=t.size
 |.unit,_,_,h=>by cases h;rfl
 |.bool,_,_,h=>by cases h;rfl
 |.int _,_,_,h=>by cases h;rfl
 |.str,_,_,h=>by cases h;rfl
 |.fn _,_,_,h=>by cases h;rfl
 |.err,_,_,h=>by
  rcases h with⟨rfl,_⟩|⟨_,_,rfl,_⟩<;>rfl
 |.sl _,_,_,h=>by
  rcases h with⟨rfl,_⟩|⟨_,_,rfl,_⟩<;>rfl
 |.st t,_,_,h=>aF (t:=t) h
 |.pair a b,_,_,h=>by
  obtain⟨c,d,rfl,h1,h2⟩:=h;rw[List.length_append,aF h1,aF h2];rfl
 |.av k n,_,_,⟨h,e⟩=>by rw[e,List.length_map];exact h
theorem eI{t:Ty}{l:List t.den}{cs:List V}(h:aL (bP t) l cs):cs.length=l.length*t.size:=jA (fun _ _=>aF) h
theorem bJ:∀{t:Ty} {x:t.den} {cs:List V},bP t x cs->∀c∈cs,c.cell
 |.unit,_,_,h=>by cases h;intro c hc;cases hc
 |.bool,_,_,h=>by cases h;intro c hc;simp at hc;subst hc;trivial
 |.int _,_,_,h=>by cases h;intro c hc;simp at hc;subst hc;trivial
 |.str,_,_,h=>by cases h;intro c hc;simp at hc;subst hc;trivial
 |.fn _,_,_,h=>by cases h;intro c hc;simp at hc;subst hc;trivial
 |.err,_,_,h=>by
  rcases h with⟨rfl,_⟩|⟨_,_,rfl,_⟩<;>(intro c hc;simp at hc;subst hc;trivial)
 |.sl _,_,_,h=>by
  rcases h with⟨rfl,_⟩|⟨_,_,rfl,_⟩<;>(intro c hc;simp at hc;subst hc;trivial)
 |.st t,_,_,h=>bJ (t:=t) h
 |.pair a b,_,_,h=>by
  obtain⟨c,d,rfl,h1,h2⟩:=h;intro v hv;rcases List.mem_append.1 hv with hv|hv
  .exact bJ h1 v hv
  .exact bJ h2 v hv
 |.av k n,_,_,⟨_,e⟩=>by
  subst e;intro c hc;obtain⟨i,_,rfl⟩:=List.mem_map.1 hc;trivial
theorem rY{t:Ty}:∀{l:List t.den} {cs:List V},aL (bP t) l cs->∀c∈cs,c.cell
 |[],_,h=>by cases h;intro c hc;cases hc
 |x::l,_,⟨c,r,e,h1,h2⟩=>by
  subst e;intro v hv;rcases List.mem_append.1 hv with hv|hv
  .exact bJ h1 v hv
  .exact rY h2 v hv
theorem jC:∀{a b:List V},bO (a++b)=(bO a&&bO b)
 |[],_=>by simp[bO]
 |v::r,b=>by simp[bO,jC (a:=r),Bool.and_assoc]
theorem rZ(k:IntKind):∀x:List Int,bO (x.map (V.int k))=true
 |[]=>rfl
 |i::r=>by simp[bO,V.noBox,rZ k r]
mutual
theorem dF:∀{t:Ty} {x:t.den} {cs:List V},bP t x cs->bO cs=true
 |.unit,_,_,h=>by cases h;rfl
 |.bool,_,_,h=>by cases h;rfl
 |.int _,_,_,h=>by cases h;rfl
 |.str,_,_,h=>by cases h;rfl
 |.fn _,_,_,h=>by cases h;rfl
 |.err,_,_,h=>by
  rcases h with⟨rfl,_⟩|⟨_,_,rfl,h,_⟩
  .rfl
  .simp[bO,V.noBox,h]
 |.sl t,l,_,h=>by
  rcases h with⟨rfl,_⟩|⟨_,rs,rfl,h,_⟩
  .rfl
  .simp[bO,V.noBox,uO l rs h]
 |.st t,_,_,h=>dF (t:=t) h
 |.pair a b,_,_,h=>by
  obtain⟨c,d,rfl,h1,h2⟩:=h;rw[jC,dF h1,dF h2];rfl
 |.av k n,x,_,⟨_,e⟩=>by
  subst e;exact rZ k x
theorem uO{t:Ty}:∀(l:List t.den) (cs:List V),aL (bP t) l cs->bO cs=true
 |[],_,h=>by cases h;rfl
 |x::l,_,⟨c,r,e,h1,h2⟩=>by
  subst e;rw[jC,dF h1,uO l r h2];rfl
end
theorem cU{a b:Ty}{f:a.den->b.den}(h:Ty.same a b=some f):a=b/\∀x cs,bP a x cs->bP b (f x) cs:=by
 unfold Ty.same at h;split at h
 .rename_i e;subst e;cases h;exact⟨rfl,fun _ _ h=>h⟩
 .cases h
theorem uP{cs:List V}{n:Nat}(h:cs.length=n):(cs.drop 0).take n=cs:=by
 rw[List.drop_zero,<-h,List.take_length]
theorem dG{t u:Ty}{off:Nat}{f:t.den->u.den}(h:(if off=0 then Ty.same t u else none)=some f) :
  off+u.size<=t.size/\∀x cs,bP t x cs->bP u (f x) ((cs.drop off).take u.size):=by
 split at h
 .rename_i h0;subst h0;obtain⟨rfl,h2⟩:=cU h;exact⟨by omega,fun x cs hx=>by rw[uP (aF hx)];exact h2 x cs hx⟩
 .cases h
theorem cK:∀{t:Ty} {off:Nat} {u:Ty} {f:t.den->u.den},Ty.getAt t off u=some f->
  off+u.size<=t.size/\∀x cs,bP t x cs->bP u (f x) ((cs.drop off).take u.size)
 |.unit,_,_,_,h=>dG h
 |.bool,_,_,_,h=>dG h
 |.int _,_,_,_,h=>dG h
 |.str,_,_,_,h=>dG h
 |.fn _,_,_,_,h=>dG h
 |.err,_,_,_,h=>dG h
 |.sl _,_,_,_,h=>dG h
 |.av _ _,_,_,_,h=>dG h
 |.st t,off,u,f,h=>by
  unfold Ty.getAt at h;split at h
  .rename_i f' h1;cases h;exact dG h1
  .obtain⟨g,h1,rfl⟩:=Option.map_eq_some_iff.1 h;exact cK (t:=t) h1
 |.pair a b,off,u,f,h=>by
  unfold Ty.getAt at h;split at h
  .rename_i f' h1;cases h;exact dG h1
  .split at h
   .obtain⟨g,h1,rfl⟩:=Option.map_eq_some_iff.1 h;obtain⟨k1,k2⟩:=cK h1;refine⟨by simp only[Ty.size];omega,fun x cs ⟨c,d,e,hc,hd⟩=>?_⟩;have hl:=aF hc;have:=k2 _ _ hc;rw[e,List.drop_append_of_le_length (by omega),List.take_append_of_le_length (by rw[List.length_drop];omega)];exact this
   .rename_i hlt;obtain⟨g,h1,rfl⟩:=Option.map_eq_some_iff.1 h;obtain⟨k1,k2⟩:=cK h1;refine⟨by simp only[Ty.size];omega,fun x cs ⟨c,d,e,hc,hd⟩=>?_⟩;have hl:=aF hc;have:=k2 _ _ hd;rw[e,List.drop_append,List.drop_of_length_le (by omega),List.nil_append,hl];exact this
theorem mB{c d ys:List V}{off:Nat}(h:off+ys.length<=c.length):splice (c++d) off ys=splice c off ys++d:=by
 unfold splice;rw[List.take_append_of_le_length (by omega),List.drop_append_of_le_length h];simp only[List.append_assoc]
theorem kG{c d ys:List V}{off:Nat}(h:c.length<=off):splice (c++d) off ys=c++splice d (off-c.length) ys:=by
 unfold splice;rw[List.take_append,List.take_of_length_le h,List.drop_append,List.drop_of_length_le (by omega),List.nil_append];rw[show off+ys.length-c.length=off-c.length+ys.length by omega];simp only[List.append_assoc]
theorem oN{cs ys:List V}(h:cs.length=ys.length):splice cs 0 ys=ys:=by
 unfold splice;rw[Nat.zero_add,List.drop_of_length_le (by omega),List.take_zero,List.nil_append,List.append_nil]
theorem dH{t u:Ty}{off:Nat}{f:t.den->u.den->t.den}(h:(if off=0 then(Ty.same u t).map fun f (_:t.den) y=>f y else none)=some f) :
  off+u.size<=t.size/\∀x y cs ys,bP t x cs->bP u y ys->bP t (f x y) (splice cs off ys):=by
 split at h
 .rename_i h0;subst h0;obtain⟨g,h1,rfl⟩:=Option.map_eq_some_iff.1 h;obtain⟨rfl,h2⟩:=cU h1;exact⟨by omega,fun x y cs ys hx hy=>by rw[oN (by rw[aF hx,aF hy])];exact h2 y ys hy⟩
 .cases h
theorem dL:∀{t:Ty} {off:Nat} {u:Ty} {f:t.den->u.den->t.den},Ty.putAt t off u=some f->
  off+u.size<=t.size/\∀x y cs ys,bP t x cs->bP u y ys->bP t (f x y) (splice cs off ys)
 |.unit,_,_,_,h=>dH h
 |.bool,_,_,_,h=>dH h
 |.int _,_,_,_,h=>dH h
 |.str,_,_,_,h=>dH h
 |.fn _,_,_,_,h=>dH h
 |.err,_,_,_,h=>dH h
 |.sl _,_,_,_,h=>dH h
 |.av _ _,_,_,_,h=>dH h
 |.st t,off,u,f,h=>by
  unfold Ty.putAt at h;split at h
  .rename_i f' h1;cases h;exact dH (f:=fun _ y=>f' y) (by
    split at h1
    .rename_i h0;rw[if_pos h0,h1];rfl
    .cases h1)
  .obtain⟨g,h1,rfl⟩:=Option.map_eq_some_iff.1 h;exact dL (t:=t) h1
 |.pair a b,off,u,f,h=>by
  unfold Ty.putAt at h;split at h
  .rename_i f' h1;cases h;exact dH (f:=fun _ y=>f' y) (by
    split at h1
    .rename_i h0;rw[if_pos h0,h1];rfl
    .cases h1)
  .split at h
   .obtain⟨g,h1,rfl⟩:=Option.map_eq_some_iff.1 h;obtain⟨k1,k2⟩:=dL h1;refine⟨by simp only[Ty.size];omega,fun x y cs ys ⟨c,d,e,hc,hd⟩ hy=>?_⟩;have hl:=aF hc;have hl2:=aF hy;exact⟨_,d,by rw[e,mB (by omega)],k2 _ _ _ _ hc hy,hd⟩
   .rename_i hlt;obtain⟨g,h1,rfl⟩:=Option.map_eq_some_iff.1 h;obtain⟨k1,k2⟩:=dL h1;refine⟨by simp only[Ty.size];omega,fun x y cs ys ⟨c,d,e,hc,hd⟩ hy=>?_⟩;have hl:=aF hc;exact⟨c,_,by rw[e,kG (by omega),hl],hc,k2 _ _ _ _ hd hy⟩
theorem wP{u:Ty}{x:u.den}{cs:List V}(h:bP u x cs):aL (bP u) [x] cs:=⟨cs,[],by rw[List.append_nil],h,rfl⟩
theorem nE{t u:Ty}{f:t.den->List u.den}(h:((Ty.same t u).map fun f x=>[f x])=some f):∀x cs,bP t x cs->aL (bP u) (f x) cs/\(f x).length=1:=by
 obtain⟨g,h1,rfl⟩:=Option.map_eq_some_iff.1 h;exact fun x cs hx=>⟨wP ((cU h1).2 x cs hx),rfl⟩
theorem aE7{k:IntKind}:∀(x:List Int),aL (bP (.int k)) x (x.map (V.int k))
 |[]=>rfl
 |i::r=>⟨[.int k i],r.map (V.int k),rfl,rfl,aE7 r⟩
theorem aBM{k:IntKind}:∀{x:List Int} {cs:List V},aL (bP (.int k)) x cs->cs=x.map (V.int k)
 |[],_,h=>h
 |i::r,_,⟨c,d,e,h1,h2⟩=>by
  have h1:c=[V.int k i]:=h1;rw[e,h1,aBM h2];rfl
theorem oO:∀{t u:Ty} {f:t.den->List u.den},Ty.els t u=some f->∀x cs,bP t x cs->aL (bP u) (f x) cs/\(f x).length=Ty.cnt t u
 |.unit,_,_,h,x,cs,hx=>by cases h;cases hx;exact⟨rfl,rfl⟩
 |.bool,_,_,h,x,cs,hx=>nE h x cs hx
 |.int _,_,_,h,x,cs,hx=>nE h x cs hx
 |.str,_,_,h,x,cs,hx=>nE h x cs hx
 |.fn _,_,_,h,x,cs,hx=>nE h x cs hx
 |.err,_,_,h,x,cs,hx=>nE h x cs hx
 |.sl _,_,_,h,x,cs,hx=>nE h x cs hx
 |.av k n,u,f,h,x,cs,hx=>by
  unfold Ty.els at h;obtain⟨g,h1,rfl⟩:=Option.map_eq_some_iff.1 h;unfold Ty.same at h1;split at h1
  .rename_i e;cases e;cases h1;obtain⟨hl,rfl⟩:=hx;exact⟨aE7 x,by unfold Ty.cnt;rw[if_pos rfl];exact hl⟩
  .cases h1
 |.st t,u,f,h,x,cs,hx=>by
  unfold Ty.els at h;split at h
  .rename_i g h1;cases h;obtain⟨e,h2⟩:=cU h1;exact⟨wP (h2 x cs hx),by unfold Ty.cnt;rw[if_pos e];rfl⟩
  .rename_i h1;obtain⟨g,h2,rfl⟩:=Option.map_eq_some_iff.1 h;have:=oO h2 x cs hx;have hne:¬Ty.st t=u:=fun e=>by unfold Ty.same at h1;rw[dif_pos e]at h1;cases h1
   exact⟨this.1,by unfold Ty.cnt;rw[if_neg hne];exact this.2⟩
 |.pair a b,u,f,h,x,cs,hx=>by
  unfold Ty.els at h;split at h
  .rename_i g h1;cases h;obtain⟨e,h2⟩:=cU h1;exact⟨wP (h2 x cs hx),by unfold Ty.cnt;rw[if_pos e];rfl⟩
  .rename_i h1;have hne:¬Ty.pair a b=u:=fun e=>by unfold Ty.same at h1;rw[dif_pos e]at h1;cases h1
   split at h
   .rename_i f1 g1 k1 k2;cases h;obtain⟨c,d,rfl,hc,hd⟩:=hx;have q1:=oO k1 _ _ hc;have q2:=oO k2 _ _ hd;exact⟨mA q1.1 q2.1,by unfold Ty.cnt;rw[if_neg hne,List.length_append,q1.2,q2.2]⟩
   .cases h
theorem gK{t u:Ty}{f:t.den->Nat->u.den->t.den}(h:((Ty.same u t).map fun f (_:t.den) (_:Nat) y=>f y)=some f) :
  t.size=u.size/\∀x i y cs ys,i<1->bP t x cs->bP u y ys->bP t (f x i y) (splice cs (i*u.size) ys):=by
 obtain⟨g,h1,rfl⟩:=Option.map_eq_some_iff.1 h;obtain⟨rfl,h2⟩:=cU h1;refine⟨rfl,fun x i y cs ys hi hx hy=>?_⟩;have:i=0:=by omega
 subst this;rw[Nat.zero_mul,oN (by rw[aF hx,aF hy])];exact h2 y ys hy
theorem pY:∀{t u:Ty} {f:t.den->Nat->u.den->t.den},Ty.setN t u=some f->
  t.size=Ty.cnt t u*u.size/\∀x i y cs ys,i<Ty.cnt t u->bP t x cs->bP u y ys->bP t (f x i y) (splice cs (i*u.size) ys)
 |.unit,_,_,h=>⟨by simp[Ty.cnt,Ty.size],fun x i y cs ys hi=>absurd hi (by simp[Ty.cnt])⟩
 |.bool,_,_,h=>by have:=gK h;exact⟨by rw[this.1];simp[Ty.cnt],this.2⟩
 |.int _,_,_,h=>by have:=gK h;exact⟨by rw[this.1];simp[Ty.cnt],this.2⟩
 |.str,_,_,h=>by have:=gK h;exact⟨by rw[this.1];simp[Ty.cnt],this.2⟩
 |.fn _,_,_,h=>by have:=gK h;exact⟨by rw[this.1];simp[Ty.cnt],this.2⟩
 |.err,_,_,h=>by have:=gK h;exact⟨by rw[this.1];simp[Ty.cnt],this.2⟩
 |.sl _,_,_,h=>by have:=gK h;exact⟨by rw[this.1];simp[Ty.cnt],this.2⟩
 |.av k n,u,f,h=>by
  unfold Ty.setN at h;obtain⟨g,h1,rfl⟩:=Option.map_eq_some_iff.1 h;unfold Ty.same at h1;split at h1
  .rename_i e;subst e;cases h1;have hc:Ty.cnt (.av k n) (.int k)=n:=by unfold Ty.cnt;rw[if_pos rfl]
   rw[hc];refine⟨by simp[Ty.size],fun x i y cs ys hi hx hy=>?_⟩;obtain⟨hl,rfl⟩:=hx;have hy:ys=[V.int k y]:=hy;subst hy;refine⟨by rw[List.length_set];exact hl,?_⟩;have hi':i<(List.map (V.int k) x).length:=by rw[List.length_map];omega
   show splice _ (i*1) _=_;rw[Nat.mul_one,List.map_set,List.set_eq_take_append_cons_drop,if_pos hi'];simp[splice]
  .cases h1
 |.st t,u,f,h=>by
  unfold Ty.setN at h;split at h
  .rename_i g h1;cases h;obtain⟨e,h2⟩:=cU h1;have:=gK (t:=.st t) (u:=u) (f:=fun _ _ y=>g y) (by rw[h1];rfl);unfold Ty.cnt;rw[if_pos e.symm];exact⟨by rw[this.1,Nat.one_mul],this.2⟩
  .rename_i h1;obtain⟨g,h2,rfl⟩:=Option.map_eq_some_iff.1 h;have hne:¬Ty.st t=u:=fun e=>by unfold Ty.same at h1;rw[dif_pos e.symm]at h1;cases h1
   have:=pY h2;unfold Ty.cnt;rw[if_neg hne];exact this
 |.pair a b,u,f,h=>by
  unfold Ty.setN at h;split at h
  .rename_i g h1;cases h;obtain⟨e,h2⟩:=cU h1;have:=gK (t:=.pair a b) (u:=u) (f:=fun _ _ y=>g y) (by rw[h1];rfl);unfold Ty.cnt;rw[if_pos e.symm];exact⟨by rw[this.1,Nat.one_mul],this.2⟩
  .rename_i h1;have hne:¬Ty.pair a b=u:=fun e=>by unfold Ty.same at h1;rw[dif_pos e.symm]at h1;cases h1
   split at h
   .rename_i f1 g1 k1 k2;cases h;obtain⟨q1,q2⟩:=pY k1;obtain⟨q3,q4⟩:=pY k2;have hcnt:Ty.cnt (.pair a b) u=Ty.cnt a u+Ty.cnt b u:=by rw[Ty.cnt,if_neg hne]
    rw[hcnt];refine⟨by simp only[Ty.size];rw[q1,q3,Nat.add_mul],fun x i y cs ys hi hx hy=>?_⟩;obtain⟨c,d,rfl,hc,hd⟩:=hx;have hl:=aF hc;have hly:=aF hy;show bP (.pair a b) (if i<Ty.cnt a u then(f1 x.1 i y,x.2)else(x.1,g1 x.2 (i-Ty.cnt a u) y)) _;by_cases hlt:i<Ty.cnt a u
    .rw[if_pos hlt];have hle:(i+1)*u.size<=Ty.cnt a u*u.size:=Nat.mul_le_mul_right _ (by omega);rw[Nat.add_mul]at hle;exact⟨_,d,by rw[mB (by omega)],q2 _ _ _ _ _ hlt hc hy,hd⟩
    .rw[if_neg hlt];have hle:Ty.cnt a u*u.size<=i*u.size:=Nat.mul_le_mul_right _ (by omega);refine⟨c,_,by rw[kG (by omega),hl,q1,<-Nat.sub_mul],hc,q4 _ _ _ _ _ (by omega) hd hy⟩
   .cases h
theorem eU{t u:Ty}{f:List u.den->t.den}(h:((Ty.same u t).map fun f (l:List u.den)=>f (l.headD u.dflt))=some f) :
  ∀l cs,l.length=1->aL (bP u) l cs->bP t (f l) cs:=by
 obtain⟨g,h1,rfl⟩:=Option.map_eq_some_iff.1 h;intro l cs hl hr
 match l,hl with
 |[x],_=>
  obtain⟨c,r,rfl,h2,h3⟩:=hr;have h3:r=[]:=h3;subst h3;rw[List.append_nil];exact(cU h1).2 x c h2
theorem nF:∀{t u:Ty} {f:List u.den->t.den},Ty.ofEls t u=some f->∀l cs,l.length=Ty.cnt t u->aL (bP u) l cs->bP t (f l) cs
 |.unit,_,_,h,l,cs,hl,hr=>by
  cases List.eq_nil_of_length_eq_zero hl;exact hr
 |.bool,_,_,h,l,cs,hl,hr=>eU h l cs hl hr
 |.int _,_,_,h,l,cs,hl,hr=>eU h l cs hl hr
 |.str,_,_,h,l,cs,hl,hr=>eU h l cs hl hr
 |.fn _,_,_,h,l,cs,hl,hr=>eU h l cs hl hr
 |.err,_,_,h,l,cs,hl,hr=>eU h l cs hl hr
 |.sl _,_,_,h,l,cs,hl,hr=>eU h l cs hl hr
 |.av k n,u,f,h,l,cs,hl,hr=>by
  unfold Ty.ofEls at h;obtain⟨g,h1,rfl⟩:=Option.map_eq_some_iff.1 h;unfold Ty.same at h1;split at h1
  .rename_i e;cases e;cases h1;have hc:Ty.cnt (.av k n) (.int k)=n:=by unfold Ty.cnt;rw[if_pos rfl]
   rw[hc]at hl;exact⟨hl,aBM hr⟩
  .cases h1
 |.st t,u,f,h,l,cs,hl,hr=>by
  unfold Ty.ofEls at h;split at h
  .rename_i g h1;cases h;obtain⟨e,h2⟩:=cU h1;unfold Ty.cnt at hl;rw[if_pos e.symm]at hl;exact eU (t:=.st t) (f:=fun l=>g (l.headD u.dflt)) (by rw[h1];rfl) l cs hl hr
  .rename_i h1;obtain⟨g,h2,rfl⟩:=Option.map_eq_some_iff.1 h;have hne:¬Ty.st t=u:=fun e=>by unfold Ty.same at h1;rw[dif_pos e.symm]at h1;cases h1
   unfold Ty.cnt at hl;rw[if_neg hne]at hl;exact nF h2 l cs hl hr
 |.pair a b,u,f,h,l,cs,hl,hr=>by
  unfold Ty.ofEls at h;split at h
  .rename_i g h1;cases h;obtain⟨e,h2⟩:=cU h1;unfold Ty.cnt at hl;rw[if_pos e.symm]at hl;exact eU (t:=.pair a b) (f:=fun l=>g (l.headD u.dflt)) (by rw[h1];rfl) l cs hl hr
  .rename_i h1;have hne:¬Ty.pair a b=u:=fun e=>by unfold Ty.same at h1;rw[dif_pos e.symm]at h1;cases h1
   split at h
   .rename_i f1 g1 k1 k2;cases h;unfold Ty.cnt at hl;rw[if_neg hne]at hl;obtain⟨c,d,rfl,hc,hd⟩:=lB (Ty.cnt a u) hr;exact⟨c,d,rfl,nF k1 _ _ (by rw[List.length_take];omega) hc,nF k2 _ _ (by rw[List.length_drop];omega) hd⟩
   .cases h
theorem sA{k:IntKind}:∀(n:Nat) {cs:List V} {p:List Int×List V},wK k n cs=some p->p.1.length=n/\cs=p.1.map (V.int k)++p.2
 |0,_,_,h=>by cases h;exact⟨rfl,rfl⟩
 |n+1,cs,p,h=>by
  cases cs with
  |nil=>cases h
  |cons c r=>
   cases c with
   |int k' i=>
    simp only[wK]at h;split at h
    .rename_i e;subst e;obtain⟨q,h1,rfl⟩:=Option.map_eq_some_iff.1 h;obtain⟨e1,e2⟩:=sA n h1;exact⟨by simp[e1],by rw[e2];rfl⟩
    .cases h
   |_=>cases h
theorem gX:∀{t:Ty} {cs:List V} {x:t.den} {r:List V},Ty.ofCells t cs=some (x,r)->∃c,cs=c++r/\bP t x c/\∀v∈c,v.bare0
 |.unit,_,_,_,h=>by cases h;exact⟨[],rfl,rfl,fun v hv=>by cases hv⟩
 |.bool,cs,x,r,h=>by
  cases cs with
  |nil=>cases h
  |cons c r'=>
   cases c with
   |bool b=>cases h;exact⟨[_],rfl,rfl,fun v hv=>by simp at hv;subst hv;trivial⟩
   |_=>cases h
 |.int k,cs,x,r,h=>by
  cases cs with
  |nil=>cases h
  |cons c r'=>
   cases c with
   |int k' n=>
    simp only[Ty.ofCells]at h;split at h
    .rename_i e;cases h;subst e;exact⟨[_],rfl,rfl,fun v hv=>by simp at hv;subst hv;trivial⟩
    .cases h
   |_=>cases h
 |.str,cs,x,r,h=>by
  cases cs with
  |nil=>cases h
  |cons c r'=>
   cases c with
   |str b=>cases h;exact⟨[_],rfl,rfl,fun v hv=>by simp at hv;subst hv;trivial⟩
   |_=>cases h
 |.err,cs,x,r,h=>by
  cases cs with
  |nil=>cases h
  |cons c r'=>
   cases c with
   |nili=>cases h;exact⟨[_],rfl,.inl ⟨rfl,rfl⟩,fun v hv=>by simp at hv;subst hv;trivial⟩
   |_=>cases h
 |.sl t,cs,x,r,h=>by
  cases cs with
  |nil=>cases h
  |cons c r'=>
   cases c with
   |nils=>cases h;exact⟨[_],rfl,.inl ⟨rfl,rfl⟩,fun v hv=>by simp at hv;subst hv;trivial⟩
   |_=>cases h
 |.fn f,cs,x,r,h=>by
  cases cs with
  |nil=>cases h
  |cons c r'=>
   cases c with
   |fn g a b=>
    cases g with
    |func g=>
     cases a with
     |nil=>
      cases b with
      |nil=>
       simp only[Ty.ofCells]at h;split at h
       .rename_i e;subst e;cases h;exact⟨[_],rfl,rfl,fun v hv=>by simp at hv;subst hv;trivial⟩
       .cases h
      |cons=>cases h
     |cons=>cases h
    |_=>cases h
   |_=>cases h
 |.st t,cs,x,r,h=>gX (t:=t) h
 |.av k n,cs,x,r,h=>by
  unfold Ty.ofCells at h;obtain⟨p,h1,h2⟩:=Option.map_eq_some_iff.1 h;cases h2;obtain⟨e1,e2⟩:=sA n h1;exact⟨_,e2,⟨e1,rfl⟩,fun v hv=>by obtain⟨i,_,rfl⟩:=List.mem_map.1 hv;trivial⟩
 |.pair a b,cs,x,r,h=>by
  unfold Ty.ofCells at h;split at h
  .rename_i x1 r1 h1;split at h
   .rename_i x2 r2 h2;cases h;obtain⟨c,rfl,k1,k2⟩:=gX h1;obtain⟨d,rfl,k3,k4⟩:=gX h2;exact⟨c++d,by rw[List.append_assoc],⟨c,d,rfl,k1,k3⟩,fun v hv=>(List.mem_append.1 hv).elim (k2 v) (k4 v)⟩
   .cases h
  .cases h
theorem gL{t:Ty}{cs:List V}{x:t.den}(h:Ty.ofAll t cs=some x):bP t x cs/\∀v∈cs,v.bare0:=by
 unfold Ty.ofAll at h;split at h
 .rename_i h1;cases h;obtain⟨c,e,k⟩:=gX h1;rw[List.append_nil]at e;subst e;exact k
 .cases h
theorem aE8{t:Ty}{v:V}{x:t.den}(h:Ty.ofV t v=some x):gP t x v/\∀c∈v.cells,c.bare0:=by
 unfold Ty.ofV at h;split at h
 .rename_i e;have:=gL h;exact⟨⟨this.1,e⟩,this.2⟩
 .cases h
theorem sB:∀{k1 k2:List CK} {x1 x2 y1 y2:List V} {a b:Bool},aZ k1 x1 y1=some a->aZ k2 x2 y2=some b->aZ (k1++k2) (x1++x2) (y1++y2)=some (a&&b)
 |[],k2,[],x2,[],y2,a,b,h1,h2=>by cases h1;simpa using h2
 |k::ks,k2,x::xs,x2,y::ys,y2,a,b,h1,h2=>by
  simp only[aZ]at h1;split at h1
  .rename_i p q hp hq;cases h1;simp only[List.cons_append,aZ,hp,sB hq h2,Bool.and_assoc]
  .cases h1
 |[],_,_::_,_,_,_,_,_,h1,_=>by simp[aZ]at h1
 |[],_,[],_,_::_,_,_,_,h1,_=>by simp[aZ]at h1
 |_::_,_,[],_,_,_,_,_,h1,_=>by simp[aZ]at h1
 |_::_,_,_::_,_,[],_,_,_,h1,_=>by simp[aZ]at h1
theorem wQ:∀{t:Ty} {ks:List CK} {x y:t.den} {xs ys:List V},t.cks=some ks->bP t x xs->bP t y ys->aZ ks xs ys=some (t.eqb x y)
 |.bool,_,_,_,_,_,h,h1,h2=>by cases h;cases h1;cases h2;simp[aZ,gD,Ty.eqb]
 |.int _,_,_,_,_,_,h,h1,h2=>by cases h;cases h1;cases h2;simp[aZ,gD,Ty.eqb]
 |.str,_,_,_,_,_,h,h1,h2=>by cases h;cases h1;cases h2;simp[aZ,gD,Ty.eqb]
 |.st t,_,_,_,_,_,h,h1,h2=>wQ (t:=t) h h1 h2
 |.pair a b,ks,x,y,xs,ys,h,h1,h2=>by
  unfold Ty.cks at h;split at h
  .rename_i k1 k2 q1 q2;cases h;obtain⟨c,d,rfl,hc,hd⟩:=h1;obtain⟨c',d',rfl,hc',hd'⟩:=h2;exact sB (wQ q1 hc hc') (wQ q2 hd hd')
  .cases h
 |.unit,_,_,_,_,_,h,_,_=>by cases h
 |.err,_,_,_,_,_,h,_,_=>by cases h
 |.sl _,_,_,_,_,_,h,_,_=>by cases h
 |.av _ _,_,_,_,_,_,h,_,_=>by cases h
 |.fn _,_,_,_,_,_,h,_,_=>by cases h
theorem sC{α:Type}{l:List α}{i:Int}{x:α}(h:aEU l i=some x):0<=i/\i<(l.length:Int)/\l[i.toNat]?=some x:=by
 unfold aEU at h;split at h
 .rename_i h0;obtain⟨hlt,_⟩:=List.getElem?_eq_some_iff.1 h;exact⟨h0,by omega,h⟩
 .cases h
theorem dM{t:Ty}{x:t.den}{c:List V}(h:bP t x c):∀n,aL (bP t) (List.replicate n x) ((List.replicate n c).flatten)
 |0=>rfl
 |n+1=>⟨c,_,by rw[List.replicate_succ,List.flatten_cons],h,dM h n⟩
theorem wR{t:Ty}:∀{l:List t.den} {cs:List V} (i:Nat) {y:t.den} {ys:List V},aL (bP t) l cs->i<l.length->bP t y ys->aL (bP t) (l.set i y) (splice cs (i*t.size) ys)
 |x::l,_,0,y,ys,⟨c,r,e,h1,h2⟩,_,hy=>by
  have h3:=aF h1;have h4:=aF hy;exact⟨ys,r,by rw[e,Nat.zero_mul,mB (by omega),oN (by omega)],hy,h2⟩
 |x::l,_,i+1,y,ys,⟨c,r,e,h1,h2⟩,hi,hy=>by
  have h3:=aF h1;refine⟨c,_,?_,h1,wR i h2 (by simpa using hi) hy⟩;rw[e,kG (by rw[h3,Nat.add_mul];omega),h3,Nat.add_mul];congr 2;omega
end Go.VM
namespace Go.VM
section
variable(T:Nat->Nat)(lk:Nat->Bool)(gv:Nat->Prop)(E:Nat->V)
def bR(al:AL)(l:Lab):Prop:=
 (∀nm∈l.names,nm∈al.ns/\(al.un=true->lk nm=false)/\(nm<64->gv nm))/\
 (al.tip=true->∀nm k,(l=.own nm k\/l=.pre nm k)->k=T nm)/\
 (al.own=true->∃nm k,l=.own nm k)/\
 (al.pre=true->∃nm k,l=.own nm k\/l=.pre nm k)/\
 (∀i,l≠.arg i)/\
 (∀s c v,l=.rv s c v->al.rv=some s/\∃cs,E s=.reg c v cs)
def aBr(al:AL):V->Prop
 |.sl l _ _ _=>bR T lk gv E al l
 |.ep l _ _=>bR T lk gv E al l
 |_=>True
def cD(ls:Ls)(cells:List V):Prop:=∀i c,cells[i]?=some c->aBr T lk gv E (aV ls i) c
end
def V.kids:V->List V
 |.agg cs=>cs
 |.reg _ _ cs=>cs
 |.tup vs=>vs.flatMap V.cells
 |v=>[v]
def iQ:(ts:List Ty)->(Ty.row ts).den->List V->Prop
 |[],_,vs=>vs=[]
 |t::r,x,vs=>∃v vs',vs=v::vs'/\gP t (dT t r x) v/\iQ r (eA t r x) vs'
def cN(E:Nat->V)(β:Nat->Nat)(bx:BX)(s:Nat):(y:SY)->y.den->V->Prop
 |.d t,x,v=>gP t x v
 |.reg t,x,v=>∃c n cs,v=.reg c n cs/\bP t x cs
 |.box t,x,v=>v=.undef/\∃cs,bx[β s]?=some cs/\bP t x cs/\∀c∈cs,c.bare0
 |.ptr b off,_,v=>v=.bp (β b) off
 |.rp s' off,_,v=>∃c n cs,E s'=.reg c n cs/\v=.rp s' c off
 |.rx s' off len u,i,v=>(i:Nat)<len/\∃c n cs,E s'=.reg c n cs/\v=.rp s' c (off+i*u.size)
 |.ep t off _,x,v=>∃lb cs,v=.ep lb cs (x.1.2*t.size+off)/\aL (bP t) x.1.1 cs/\(∀c∈cs,c.bare0)/\x.1.1[x.1.2]?=some x.2
 |.vp t off,x,v=>∃lb cs,v=.ep lb cs off/\t.size<=cs.length/\bP t x (cs.take t.size)/\∀c∈cs,c.bare0
 |.tup ts,x,v=>∃vs,v=.tup vs/\iQ ts x vs
 |.clo f bs,_,v=>v=.fn (.func f) [] (bs.map fun b=>.bp (β b) 0)
 |.no,_,v=>v=.undef
def aGL(E:Nat->V)(r:Nat)(o:Option Nat)(W:V):Prop:=match o with
 |none=>E r=W/\aN W=false
 |some off=>∃c n cs,E r=.reg c n cs/\cs[off]?=some W
def aIg(W v:V):Prop:=match v with
 |.ep lb cs _=>∃z n,W=.sl lb z n cs
 |v=>v=W
def eB(E:Nat->V)(cp:Option (Nat×Option Nat))(v:V):Prop:=
 ∀r o,cp=some (r,o)->∃W,aGL E r o W/\aIg W v
structure Cxt where
 n0:Nat
 bx0:BX
 pb:Nat->Prop
 β0:Nat->Nat
 gv:Nat->Prop
def holds{D:Nat->SY}(e:TE D)(c:List (Nat×Bool)):Prop:=∀s w,(s,w)∈c->pP e s w=true
def SY.isBox:SY->Bool
 |.box _=>true
 |_=>false
structure RS(X:Cxt)(D:Nat->SY)(Λ:LS)(C:CC)(e:TE D)(β:Nat->Nat)(σ:St):Prop where
 yes:∀s sv,(s,sv)∈Λ.vs->holds e (bW C s)->cN (get σ.env) β σ.bx s (D s) (e s) (get σ.env s)/\cD σ.tips σ.lk X.gv (get σ.env) sv.ls (get σ.env s).kids/\eB (get σ.env) sv.cp (get σ.env s)
 no:∀s sv,(s,sv)∈Λ.vs->¬holds e (bW C s)->get σ.env s=.tup []
 rg:∀s,aN (get σ.env s)=true->(rty D s).isSome=true
 hi:∀s,100000<=s->get σ.env s=.undef
 nb:bX σ.bx=true
 b1:∀b sv,(D b).isBox=true->(b,sv)∈Λ.vs->β b<σ.bx.length/\((200000<=b/\X.pb b/\β b=X.β0 b)\/(b<200000/\X.n0<=β b))
 b2:∀b sv b' sv',(D b).isBox=true->(b,sv)∈Λ.vs->(D b').isBox=true->(b',sv')∈Λ.vs->β b=β b'->b=b'
 cc:∀p∈C,p.1<100000/\∀q∈p.2,q.1<100000
 b3:X.n0<=σ.bx.length/\∀i,i<X.n0->(∀b,X.pb b->X.β0 b≠i)->σ.bx[i]?=X.bx0[i]?
structure RG(Λ:LS)(t0:Nat->Nat)(mk:List Nat)(σ:St):Prop where
 dt:∀nm,nm∉Λ.dt->σ.tips nm=t0 nm
 ld:∀nm,nm∈mk->nm∉Λ.ld->σ.lk nm=false
section
variable{T T':Nat->Nat}{lk lk':Nat->Bool}{gv:Nat->Prop}{E E':Nat->V}{al al':AL}{l:Lab}{v:V}{N:List Nat}
theorem cL{xs ys:List Nat}(h:tB xs ys=false):∀x∈xs,x∉ys:=by
 intro x hx hy;unfold tB at h;rw[List.any_eq_false]at h;have:=h x hx;simp only[List.contains_iff_mem]at this;exact this hy
theorem bR.bump(h:bR T lk gv E al l)(hT:∀nm,nm∉N->T' nm=T nm):bR T' lk gv E (al.bump N) l:=by
 obtain⟨h1,h2,h3,h4,h5,h6⟩:=h;unfold AL.bump;split
 .exact⟨h1,fun hh=>(by cases hh),h3,h4,h5,h6⟩
 .rename_i hh;have hf:=cL (by simpa using hh);refine⟨h1,fun ht nm k hl=>?_,h3,h4,h5,h6⟩;have hnm:nm∈l.names:=by
   rcases hl with hl|hl<;>(rw[hl];simp[Lab.names])
  rw[hT nm (hf nm (h1 nm hnm).1)];exact h2 ht nm k hl
theorem bR.lock(h:bR T lk gv E al l)(hT:∀nm,nm∉N->lk nm=false->lk' nm=false):bR T lk' gv E (al.lock N) l:=by
 obtain⟨h1,h2,h3,h4,h5,h6⟩:=h;unfold AL.lock;split
 .exact⟨fun nm hnm=>⟨(h1 nm hnm).1,fun hh=>(by cases hh),(h1 nm hnm).2.2⟩,h2,h3,h4,h5,h6⟩
 .rename_i hh;have hf:=cL (by simpa using hh);exact⟨fun nm hnm=>⟨(h1 nm hnm).1,fun hu=>hT nm (hf nm (h1 nm hnm).1) ((h1 nm hnm).2.1 hu),(h1 nm hnm).2.2⟩,h2,h3,h4,h5,h6⟩
theorem bR.mono(h:bR T lk gv E al l)(hle:al.le al'=true):bR T lk gv E al' l:=by
 obtain⟨h1,h2,h3,h4,h5,h6⟩:=h;unfold AL.le at hle;simp only[Bool.and_eq_true,List.all_eq_true,List.contains_iff_mem,Bool.or_eq_true,Bool.not_eq_true',beq_iff_eq]at hle;obtain⟨⟨⟨⟨⟨k1,k2⟩,k3⟩,k4⟩,k5⟩,k6⟩:=hle;refine⟨fun nm hnm=>⟨k1 nm (h1 nm hnm).1,fun hu=>(h1 nm hnm).2.1 ?_,(h1 nm hnm).2.2⟩,fun hu=>h2 ?_,fun hu=>h3 ?_,fun hu=>h4 ?_,h5,fun s c v hl=>by rw[<-k6];exact h6 s c v hl⟩
 all_goals simp_all
theorem bR.env(h:bR T lk gv E al l)(hE:∀s,al.rv=some s->E' s=E s):bR T lk gv E' al l:=by
 obtain⟨h1,h2,h3,h4,h5,h6⟩:=h;exact⟨h1,h2,h3,h4,h5,fun s c v hl=>by
  obtain⟨k1,k2⟩:=h6 s c v hl;exact⟨k1,by rw[hE s k1];exact k2⟩⟩
theorem bR.none:bR T lk gv E ⟨[],false,false,false,false,none⟩ .none:=
 ⟨fun nm hnm=>(by simp[Lab.names]at hnm),fun hh=>(by cases hh),fun hh=>(by cases hh),fun hh=>(by cases hh),fun i hh=>(by cases hh),fun s c v hh=>(by cases hh)⟩
theorem aBr.of_bare(h:v.cell)(hb:v.bare0):aBr T lk gv E .z v:=by
 cases v with
 |sl l=>cases hb;exact bR.none
 |ep=>exact h.elim
 |_=>trivial
theorem aBr.mono(h:aBr T lk gv E al v)(hle:al.le al'=true):aBr T lk gv E al' v:=by
 cases v with
 |sl l=>exact bR.mono h hle
 |ep l=>exact bR.mono h hle
 |_=>trivial
theorem aBr.env(h:aBr T lk gv E al v)(hE:∀s,al.rv=some s->E' s=E s):aBr T lk gv E' al v:=by
 cases v with
 |sl l=>exact bR.env h hE
 |ep l=>exact bR.env h hE
 |_=>trivial
theorem lC{f:AL->AL}(hf:f .z=.z):∀(ls:Ls) (i:Nat),aV (aBL f ls) i=f (aV ls i)
 |[],_=>hf.symm
 |(a,l)::r,i=>by
  have:=lC hf r i;unfold aBL at this ⊢;simp only[List.map_cons,aV];split
  .rfl
  .exact this
theorem aIh:AL.bump N .z=.z:=rfl
theorem aIi:AL.lock N .z=.z:=rfl
theorem fA{ls:Ls}{i:Nat}:aV ls i=.z\/(i,aV ls i)∈ls:=by
 induction ls with
 |nil=>exact .inl rfl
 |cons p r ih=>
  obtain⟨a,l⟩:=p;simp only[aV];split
  .rename_i e;subst e;exact .inr List.mem_cons_self
  .exact ih.imp id fun h=>List.mem_cons_of_mem _ h
theorem noRv_at{ls:Ls}(h:jN ls=true)(i:Nat):(aV ls i).rv=none:=by
 rcases fA (ls:=ls) (i:=i)with e|e
 .rw[e];rfl
 .unfold jN at h;rw[List.all_eq_true]at h;have:=h _ e;simpa using this
theorem nG{ls:Ls}{d:Nat}(h:tP d ls=false)(i:Nat):(aV ls i).rv≠some d:=by
 rcases fA (ls:=ls) (i:=i)with e|e
 .rw[e];simp[AL.z]
 .unfold tP at h;rw[List.any_eq_false]at h;have:=h _ e;simpa using this
theorem jD{ls:Ls}{i nm:Nat}(h:nm∈(aV ls i).ns):nm∈aR ls:=by
 rcases fA (ls:=ls) (i:=i)with e|e
 .rw[e]at h;cases h
 .exact List.mem_flatMap.2 ⟨_,e,h⟩
variable{ls ls':Ls}{cells:List V}
theorem cD.bump(h:cD T lk gv E ls cells)(hT:∀nm,nm∉N->T' nm=T nm):cD T' lk gv E (aBL (AL.bump N) ls) cells:=by
 intro i c hc;rw[lC aIh];have:=h i c hc;cases c with
 |sl l=>exact bR.bump this hT
 |ep l=>exact bR.bump this hT
 |_=>trivial
theorem cD.lock(h:cD T lk gv E ls cells)(hT:∀nm,nm∉N->lk nm=false->lk' nm=false):cD T lk' gv E (aBL (AL.lock N) ls) cells:=by
 intro i c hc;rw[lC aIi];have:=h i c hc;cases c with
 |sl l=>exact bR.lock this hT
 |ep l=>exact bR.lock this hT
 |_=>trivial
theorem cD.env(h:cD T lk gv E ls cells)(hE:∀s i,(aV ls i).rv=some s->E' s=E s):cD T lk gv E' ls cells:=
 fun i c hc=>(h i c hc).env fun s hs=>hE s i hs
theorem wS{a b:Ls}{i:Nat}(h:i∉zL a b):aV a i=.z/\aV b i=.z:=by
 unfold zL at h;rw[List.mem_append]at h;have ha:i∉a.map (·.1):=fun hh=>h (.inl hh)
 have hb:i∉b.map (·.1):=fun hh=>h (.inr (List.mem_filter.2 ⟨hh,by simpa using ha⟩))
 constructor
 .rcases fA (ls:=a) (i:=i)with e|e
  .exact e
  .exact absurd (List.mem_map.2 ⟨_,e,rfl⟩) ha
 .rcases fA (ls:=b) (i:=i)with e|e
  .exact e
  .exact absurd (List.mem_map.2 ⟨_,e,rfl⟩) hb
theorem AL.le_refl(a:AL):a.le a=true:=by simp[AL.le]
theorem cD.mono(h:cD T lk gv E ls cells)(hle:leL ls ls'=true):cD T lk gv E ls' cells:=by
 intro i c hc;refine(h i c hc).mono ?_;by_cases hi:i∈zL ls ls'
 .unfold leL at hle;rw[List.all_eq_true]at hle;exact hle i hi
 .obtain⟨e1,e2⟩:=wS hi;rw[e1,e2];exact AL.le_refl _
theorem fQ{f:Nat->AL}:∀{ks:List Nat} {i:Nat},i∈ks->aV (ks.map fun i=>(i,f i)) i=f i
 |k::ks,i,h=>by
  simp only[List.map_cons,aV];split
  .rename_i e;rw[e]
  .rename_i e;exact fQ ((List.mem_cons.1 h).resolve_left fun q=>e q.symm)
theorem gM{f:Nat->AL}:∀{ks:List Nat} {i:Nat},i∉ks->aV (ks.map fun i=>(i,f i)) i=.z
 |[],_,_=>rfl
 |k::ks,i,h=>by
  simp only[List.map_cons,aV];rw[if_neg (fun e=>h (by rw[e];exact List.mem_cons_self))];exact gM fun q=>h (List.mem_cons_of_mem _ q)
theorem zO{a b:AL}:a.le (a.join b)=true:=by
 unfold AL.le AL.join;simp only[Bool.and_eq_true,List.all_eq_true,List.contains_iff_mem,beq_self_eq_true,and_true];refine⟨⟨⟨⟨fun x hx=>List.mem_append_left _ hx,?_⟩,?_⟩,?_⟩,?_⟩<;>(cases a.tip<;>cases a.own<;>cases a.pre<;>cases a.un<;>simp)
theorem wT{a b:AL}(h:a.rv=b.rv):b.le (a.join b)=true:=by
 unfold AL.le AL.join;simp only[Bool.and_eq_true,List.all_eq_true,List.contains_iff_mem,h,beq_self_eq_true,and_true];refine⟨⟨⟨⟨fun x hx=>?_,?_⟩,?_⟩,?_⟩,?_⟩
 .by_cases hm:x∈a.ns
  .exact List.mem_append_left _ hm
  .exact List.mem_append_right _ (List.mem_filter.2 ⟨hx,by simpa using hm⟩)
 all_goals (cases b.tip<;>cases b.own<;>cases b.pre<;>cases b.un<;>simp)
theorem cD.join_left{b:Ls}(h:cD T lk gv E ls cells):cD T lk gv E (aBK ls b) cells:=by
 intro i c hc;refine(h i c hc).mono ?_;unfold aBK;by_cases hi:i∈zL ls b
 .rw[fQ hi];exact zO
 .rw[gM hi,(wS hi).1];exact AL.le_refl _
theorem cD.join_right{b:Ls}(h:cD T lk gv E b cells)(hr:uN ls b=true):cD T lk gv E (aBK ls b) cells:=by
 intro i c hc;refine(h i c hc).mono ?_;unfold aBK;by_cases hi:i∈zL ls b
 .rw[fQ hi];unfold uN at hr;rw[List.all_eq_true]at hr;exact wT (by simpa using hr i hi)
 .rw[gM hi,(wS hi).2];exact AL.le_refl _
theorem aE9{a b:Ls}(ha:jN a=true)(hb:jN b=true):uN a b=true:=by
 unfold uN;rw[List.all_eq_true];intro i _;rw[noRv_at ha,noRv_at hb];rfl
end
end Go.VM
namespace Go.VM
theorem jE:∀{l:List (Nat×SV)} {s:Nat} {v:SV},vAt l s=some v->(s,v)∈l
 |(a,u)::r,s,v,h=>by
  simp only[vAt]at h;split at h
  .rename_i e;cases h;subst e;exact List.mem_cons_self
  .exact List.mem_cons_of_mem _ (jE h)
theorem cI{f:Nat->SV->SV}:∀{l:List (Nat×SV)} {s:Nat} {v:SV},(s,v)∈aGy f l->∃u,(s,u)∈l/\v=f s u
 |(a,u)::r,s,v,h=>by
  simp only[aGy]at h;rcases List.mem_cons.1 h with h|h
  .cases h;exact⟨u,List.mem_cons_self,rfl⟩
  .obtain⟨u',h1,h2⟩:=cI h;exact⟨u',List.mem_cons_of_mem _ h1,h2⟩
theorem bZ{p:Nat->SV->Bool}:∀{l:List (Nat×SV)} {s:Nat} {v:SV},(s,v)∈rT p l->(s,v)∈l/\p s v=true
 |(a,u)::r,s,v,h=>by
  simp only[rT]at h;split at h
  .rename_i hp;rcases List.mem_cons.1 h with h|h
   .cases h;exact⟨List.mem_cons_self,hp⟩
   .exact⟨List.mem_cons_of_mem _ (bZ h).1,(bZ h).2⟩
  .exact⟨List.mem_cons_of_mem _ (bZ h).1,(bZ h).2⟩
theorem jF(d:Nat)(v:SV):(v.uncp d).ls=v.ls:=by
 unfold SV.uncp;split
 .split<;>rfl
 .rfl
theorem eV{d:Nat}{v:SV}{r:Nat}{o:Option Nat}(h:(v.uncp d).cp=some (r,o)):v.cp=some (r,o)/\r≠d:=by
 unfold SV.uncp at h;split at h
 .rename_i r' o' e;split at h
  .cases h
  .rename_i hne;rw[e]at h;cases h;exact⟨e,hne⟩
 .rename_i e;rw[e]at h;cases h
section
variable{D:Nat->SY}{e:TE D}
theorem TE.set_eq{d:Nat}{x:(D d).den}:e.set d x d=x:=by unfold TE.set;rw[dif_pos rfl]
theorem TE.set_ne{d s:Nat}{x:(D d).den}(h:d≠s):e.set d x s=e s:=by unfold TE.set;rw[dif_neg h]
theorem TE.set_self{d:Nat}:e.set d (e d)=e:=by
 funext s
 by_cases h:d=s
 .subst h;exact TE.set_eq
 .exact TE.set_ne h
theorem wU{d s:Nat}{x:(D d).den}{w:Bool}(h:s≠d):pP (e.set d x) s w=pP e s w:=by
 unfold pP;rw[TE.set_ne (Ne.symm h)]
theorem fF{d:Nat}{x:(D d).den}{c:List (Nat×Bool)}(h:∀q∈c,q.1≠d):holds (e.set d x) c↔holds e c:=by
 unfold holds;constructor
 .intro hh s w hs;have:=hh s w hs
  rwa [wU (h _ hs)]at this
 .intro hh s w hs;rw[wU (h _ hs)];exact hh s w hs
end
theorem sD{C:CC}{d:Nat}(h:bU C (some d)=true):∀p∈C,p.1≠d/\∀q∈p.2,q.1≠d:=by
 unfold bU at h;simp only[List.all_eq_true,Bool.and_eq_true,decide_eq_true_eq]at h;exact h
theorem eW{C:CC}{s:Nat}:bW C s=[]\/(s,bW C s)∈C:=by
 induction C with
 |nil=>exact .inl rfl
 |cons p r ih=>
  obtain⟨a,c⟩:=p;simp only[bW];split
  .rename_i e;subst e;exact .inr List.mem_cons_self
  .exact ih.imp id fun h=>List.mem_cons_of_mem _ h
theorem fR{C:CC}{d:Nat}(h:bU C (some d)=true):bW C d=[]:=by
 rcases eW (C:=C) (s:=d)with e|e
 .exact e
 .exact absurd rfl (sD h _ e).1
theorem lR{C:CC}{d:Nat}(h:bU C (some d)=true)(s:Nat):∀q∈bW C s,q.1≠d:=by
 rcases eW (C:=C) (s:=s)with e|e
 .rw[e];intro q hq;cases hq
 .exact(sD h _ e).2
theorem kH{C:CC}{d:Nat}{cs:List (Nat×Bool)}(h:bU C (some d)=true):bW (oM C (some d) cs) d=cs:=by
 cases cs with
 |nil=>exact fR h
 |cons c cs=>simp[oM,bW]
theorem condOf_add_ne{C:CC}{d s:Nat}{cs:List (Nat×Bool)}(h:s≠d):bW (oM C (some d) cs) s=bW C s:=by
 cases cs with
 |nil=>rfl
 |cons c cs=>simp[oM,bW,Ne.symm h]
theorem cN.congr{E E':Nat->V}{β:Nat->Nat}{bx:BX}{s:Nat}{y:SY}{x:y.den}{v:V}(h:cN E β bx s y x v)(hE:∀s',y.refs s'=true->E' s'=E s'):cN E' β bx s y x v:=by
 cases y with
 |rp s' off=>
  obtain⟨c,n,cs,h1,h2⟩:=h;exact⟨c,n,cs,by rw[hE s' (by simp[SY.refs])];exact h1,h2⟩
 |rx s' off len u=>
  obtain⟨h0,c,n,cs,h1,h2⟩:=h;exact⟨h0,c,n,cs,by rw[hE s' (by simp[SY.refs])];exact h1,h2⟩
 |_=>exact h
theorem cN.congrR{E E':Nat->V}{β:Nat->Nat}{bx:BX}{s:Nat}{y:SY}{x:y.den}{v:V}(h:cN E β bx s y x v)(hE:∀s',aN (E s')=true->E' s'=E s'):cN E' β bx s y x v:=by
 cases y with
 |rp s' off=>
  obtain⟨c,n,cs,h1,h2⟩:=h;exact⟨c,n,cs,by rw[hE s' (by rw[h1];rfl)];exact h1,h2⟩
 |rx s' off len u=>
  obtain⟨h0,c,n,cs,h1,h2⟩:=h;exact⟨h0,c,n,cs,by rw[hE s' (by rw[h1];rfl)];exact h1,h2⟩
 |_=>exact h
theorem eB.congr{E E':Nat->V}{cp:Option (Nat×Option Nat)}{v:V}(h:eB E cp v)(hE:∀r o,cp=some (r,o)->E' r=E r):eB E' cp v:=by
 intro r o hc;obtain⟨W,h1,h2⟩:=h r o hc;refine⟨W,?_,h2⟩;unfold aGL at h1 ⊢;rw[hE r o hc];exact h1
theorem eB.congr'{E E':Nat->V}{cp cp':Option (Nat×Option Nat)}{v:V}(h:eB E cp v)(hE:∀r o,cp'=some (r,o)->cp=some (r,o)/\E' r=E r):eB E' cp' v:=by
 intro r o hc;obtain⟨e1,e2⟩:=hE r o hc;obtain⟨W,h1,h2⟩:=h r o e1;refine⟨W,?_,h2⟩;unfold aGL at h1 ⊢;rw[e2];exact h1
theorem eB.none{E:Nat->V}{v:V}:eB E none v:=fun r o h=>by cases h
section
variable{X:Cxt}{D:Nat->SY}{Λ:LS}{C:CC}{e:TE D}{β:Nat->Nat}{σ:St}
theorem eJ{d s:Nat}{sv:SV}(h:(s,sv)∈(Λ.asg D d).vs):∃u,(s,u)∈Λ.vs/\sv=u.uncp d/\s≠d/\(D s).refs d=false/\tP d u.ls=false:=by
 obtain⟨u,h1,h2⟩:=cI h;obtain⟨h3,h4⟩:=bZ h1;simp only[Bool.and_eq_true,decide_eq_true_eq,Bool.not_eq_true']at h4;exact⟨u,h3,h2,h4.1.1,h4.1.2,h4.2⟩
theorem aHA{d:Nat}{cs:List (Nat×Bool)}(h:∀p∈C,p.1<100000/\∀q∈p.2,q.1<100000)(hd:d<100000)(hcl:∀q∈cs,q.1<100000):∀p∈oM C (some d) cs,p.1<100000/\∀q∈p.2,q.1<100000:=by
 cases cs with
 |nil=>exact h
 |cons c cs=>
  intro p hp;rcases List.mem_cons.1 hp with rfl|hp
  .exact⟨hd,hcl⟩
  .exact h p hp
theorem RS.val(h:RS X D Λ C e β σ){d:Nat}{cs:List (Nat×Bool)}{x:(D d).den}{w:V}{ls:Ls}{cp:Option (Nat×Option Nat)}(hC:bU C (some d)=true)(hd:d<100000)
  (hcd:∀q∈cs,q.1≠d) (hcl:∀q∈cs,q.1<100000) (hbox:(D d).isBox=false) (hw:aN w=true->(rty D d).isSome=true)
  (hy:holds e cs->cN (upd (get σ.env) d w) β σ.bx d (D d) x w/\cD σ.tips σ.lk X.gv (upd (get σ.env) d w) ls w.kids/\eB (upd (get σ.env) d w) cp w) (hn:¬holds e cs->w=.tup []) :
  RS X D ((Λ.asg D d).put d ⟨ls,cp⟩) (oM C (some d) cs) (e.set d x) β {σ with env:=set σ.env d w}:=by
 have hE:get (set σ.env d w)=upd (get σ.env) d w:=bG _ _ _;refine⟨fun s sv hs hh=>?_,fun s sv hs hh=>?_,fun s hs=>?_,fun s hs=>?_,h.nb,fun b sv hb hs=>?_,fun b sv b' sv' hb hs hb' hs'=>?_,aHA h.cc hd hcl,h.b3⟩
 .simp only[hE];rcases List.mem_cons.1 hs with hs|hs
  .cases hs;rw[kH hC,fF hcd]at hh;rw[TE.set_eq];have:upd (get σ.env) d w d=w:=by simp[upd]
   rw[this];exact hy hh
  .obtain⟨u,h1,rfl,hne,hrf,hrv⟩:=eJ hs;rw[condOf_add_ne hne,fF (lR hC s)]at hh;obtain⟨k1,k2,k3⟩:=h.yes s u h1 hh;have hu:∀s',s'≠d->upd (get σ.env) d w s'=get σ.env s':=fun s' hs'=>by simp[upd,hs']
   rw[TE.set_ne (Ne.symm hne),hu s hne];refine⟨k1.congr fun s' hr=>hu s' fun e=>(by rw[e]at hr;rw[hr]at hrf;cases hrf),?_,k3.congr' ?_⟩
   .rw[jF];exact k2.env fun s' i hi=>hu s' fun e=>nG hrv i (by rw[hi,e])
   .exact fun r o hc=>⟨(eV hc).1,hu r (eV hc).2⟩
 .simp only[hE];rcases List.mem_cons.1 hs with hs|hs
  .cases hs;rw[kH hC,fF hcd]at hh;simp[upd,hn hh]
  .obtain⟨u,h1,rfl,hne,hrf,hrv⟩:=eJ hs;rw[condOf_add_ne hne,fF (lR hC s)]at hh;simp only[upd,if_neg hne];exact h.no s u h1 hh
 .simp only[hE,upd]at hs;split at hs
  .rename_i e;subst e;exact hw hs
  .exact h.rg s hs
 .simp only[hE,upd];rw[if_neg (by omega)];exact h.hi s hs
 .rcases List.mem_cons.1 hs with hs|hs
  .cases hs;rw[hbox]at hb;cases hb
  .obtain⟨u,h1,_⟩:=eJ hs;exact h.b1 b u hb h1
 .rcases List.mem_cons.1 hs with hs|hs
  .cases hs;rw[hbox]at hb;cases hb
  .rcases List.mem_cons.1 hs' with hs'|hs'
   .cases hs';rw[hbox]at hb';cases hb'
   .obtain⟨u,h1,_⟩:=eJ hs;obtain⟨u',h1',_⟩:=eJ hs';exact h.b2 b u b' u' hb h1 hb' h1'
theorem RS.pure(h:RS X D Λ C e β σ){d:Nat}{cs:List (Nat×Bool)}{x:(D d).den}{w:V}{ls:Ls}{cp:Option (Nat×Option Nat)}(hC:bU C (some d)=true)(hd:d<100000)
  (hcd:∀q∈cs,q.1≠d) (hcl:∀q∈cs,q.1<100000) (hbox:(D d).isBox=false) (hreg:aN (get σ.env d)=false) (hw:aN w=false)
  (hy:holds e cs->cN (get σ.env) β σ.bx d (D d) x w/\cD σ.tips σ.lk X.gv (get σ.env) ls w.kids/\eB (get σ.env) cp w) (hn:¬holds e cs->w=.tup []) :
  RS X D ((Λ.asg D d).put d (SV.uncp d ⟨ls,cp⟩)) (oM C (some d) cs) (e.set d x) β {σ with env:=set σ.env d w}:=by
 have e1:SV.uncp d ⟨ls,cp⟩=⟨ls,(SV.uncp d ⟨ls,cp⟩).cp⟩:=by
  have:=jF d ⟨ls,cp⟩;cases hh:SV.uncp d ⟨ls,cp⟩with
  |mk a b=>rw[hh]at this;simp only at this;rw[this]
 rw[e1];refine h.val hC hd hcd hcl hbox (fun hh=>by rw[hw]at hh;cases hh) (fun hh=>?_) hn;obtain⟨k1,k2,k3⟩:=hy hh;have hu:∀s',s'≠d->upd (get σ.env) d w s'=get σ.env s':=fun s' hs'=>by simp[upd,hs']
 have hr:∀s' c n cs,get σ.env s'=.reg c n cs->s'≠d:=fun s' c n cs hq e=>by rw[e]at hq;rw[hq]at hreg;cases hreg
 refine⟨?_,fun i c hc=>?_,k3.congr' fun r o hc=>⟨(eV hc).1,hu r (eV hc).2⟩⟩
 .exact k1.congrR fun s' hs'=>hu s' fun e=>by rw[e]at hs';rw[hs']at hreg;cases hreg
 .have:=k2 i c hc;have key:∀l,bR σ.tips σ.lk X.gv (get σ.env) (aV ls i) l->bR σ.tips σ.lk X.gv (upd (get σ.env) d w) (aV ls i) l:=fun l hl=>
   ⟨hl.1,hl.2.1,hl.2.2.1,hl.2.2.2.1,hl.2.2.2.2.1,fun s c v hh=>by
    obtain⟨q1,cs,q2⟩:=hl.2.2.2.2.2 s c v hh;exact⟨q1,cs,by rw[hu s (hr s _ _ _ q2)];exact q2⟩⟩
  cases c with
  |sl l=>exact key l this
  |ep l=>exact key l this
  |_=>trivial
end
section
variable{t:Ty}{v:V}
theorem wV{k:IntKind}{n:(Ty.int k).den}(h:gP (.int k) n v):v=.int k n:=by
 obtain⟨h1,h2⟩:=h;cases v<;>first|(cases h1;done)|simp_all[V.isAgg,Ty.agg,V.cells,bP]
theorem nH{b:Ty.bool.den}(h:gP .bool b v):v=.bool b:=by
 obtain⟨h1,h2⟩:=h;cases v<;>first|(cases h1;done)|simp_all[V.isAgg,Ty.agg,V.cells,bP]
theorem nI{b:Ty.str.den}(h:gP .str b v):v=.str b:=by
 obtain⟨h1,h2⟩:=h;cases v<;>first|(cases h1;done)|simp_all[V.isAgg,Ty.agg,V.cells,bP]
theorem eX{l:(Ty.sl t).den}(h:gP (.sl t) l v):(v=.nils/\l=[])\/∃lb rs,v=.sl lb t.size (List.length l) rs/\aL (bP t) l rs/\∀c∈rs,c.bare0:=by
 obtain⟨h1,h2⟩:=h;have hc:v.cells=[v]:=by
  cases v<;>first|rfl|(simp[V.isAgg,Ty.agg]at h2)
 rw[hc]at h1;rcases h1 with⟨h1,h3⟩|⟨lb,rs,h1,h3,h4⟩
 .exact .inl ⟨by simpa using h1,h3⟩
 .exact .inr ⟨lb,rs,by simpa using h1,h3,h4⟩
theorem aGM{b:Ty.err.den}(h:gP .err b v):(v=.nili/\b=false)\/∃t u,v=.iface t u/\b=true:=by
 obtain⟨h1,h2⟩:=h;have hc:v.cells=[v]:=by
  cases v<;>first|rfl|(simp[V.isAgg,Ty.agg]at h2)
 rw[hc]at h1;rcases h1 with⟨h1,h3⟩|⟨t,u,h1,_,h3⟩
 .exact .inl ⟨by simpa using h1,h3⟩
 .exact .inr ⟨t,u,by simpa using h1,h3⟩
theorem nJ{x:t.den}(ht:t.agg=true)(h:gP t x v):∃cs,v=.agg cs/\bP t x cs:=by
 obtain⟨h1,h2⟩:=h;rw[ht]at h2;cases v with
 |agg cs=>exact⟨cs,rfl,h1⟩
 |_=>cases h2
theorem aG{x:t.den}(h:gP t x v):v.kids=v.cells/\(∀c∈v.cells,c.cell)/\aN v=false/\(∀vs,v≠.tup vs)/\v≠.undef:=by
 obtain⟨h1,h2⟩:=h;have hc:=bJ h1;refine⟨?_,hc,?_,?_,?_⟩
 all_goals cases v with
  |agg=>first|rfl|(intro vs e;cases e)|(intro e;cases e)
  |reg c n cs=>exact(hc (.reg c n cs) (by simp[V.cells]):False).elim
  |tup vs=>exact(hc (.tup vs) (by simp[V.cells]):False).elim
  |undef=>exact(hc .undef (by simp[V.cells]):False).elim
  |_=>first|rfl|(intro vs e;cases e)|(intro e;cases e)
theorem aH9{x:t.den}{c:V}(h:bP t x [c])(ht:t.agg=false)(hc:c.isAgg=false):gP t x c:=by
 refine⟨?_,by rw[ht,hc]⟩;cases c<;>first|exact h|cases hc
theorem bN{k:IntKind}{n:Int}:gP (.int k) n (.int k n):=⟨rfl,rfl⟩
theorem eY{b:Bool}:gP .bool b (.bool b):=⟨rfl,rfl⟩
theorem oQ{b:List UInt8}:gP .str b (.str b):=⟨rfl,rfl⟩
end
theorem dY{T:Nat->Nat}{lk:Nat->Bool}{gv:Nat->Prop}{E:Nat->V}{ls:Ls}{cells:List V}(h:∀c∈cells,match c with|.sl ..=>False|.ep ..=>False|_=>True):cD T lk gv E ls cells:=by
 intro i c hc;have:=h c (List.mem_of_getElem? hc);cases c<;>first|trivial|exact this.elim
theorem kI{T:Nat->Nat}{lk:Nat->Bool}{gv:Nat->Prop}{E:Nat->V}{cells:List V}(h:∀c∈cells,c.cell)(hb:∀c∈cells,c.bare0):cD T lk gv E [] cells:=
 fun _ c hc=>aBr.of_bare (h c (List.mem_of_getElem? hc)) (hb c (List.mem_of_getElem? hc))
end Go.VM
namespace Go.VM
theorem aEa{E:Nat->V}{β:Nat->Nat}{bx:BX}{s:Nat}{y y':SY}(h:y=y'){x:y.den}{w:V}(hr:cN E β bx s y x w):cN E β bx s y' (h▸x) w:=by
 subst h;exact hr
theorem eK{y y':SY}{f:y.den->y'.den}(h:SY.get y y'=some f):∃e:y=y',f=fun x=>e▸x:=by
 unfold SY.get at h;split at h
 .rename_i e;cases h;exact⟨e,rfl⟩
 .cases h
theorem bS{y y':SY}{f:y.den->y'.den}(h:SY.get y y'=some f){E:Nat->V}{β:Nat->Nat}{bx:BX}{s:Nat}{x:y.den}{w:V}(hr:cN E β bx s y x w):cN E β bx s y' (f x) w:=by
 obtain⟨e,rfl⟩:=eK h;exact aEa e hr
theorem aEb{E:Nat->V}{β:Nat->Nat}{bx:BX}{s s':Nat}{y:SY}{x:y.den}{w:V}(hb:y.isBox=false)(h:cN E β bx s y x w):cN E β bx s' y x w:=by
 cases y with
 |box=>cases hb
 |_=>exact h
theorem aEc:∀(cs:List V) (o i:Nat),aV (aF6 cs o) i=.z\/(o<=i/\cs[i-o]?=some .nils)
 |[],_,_=>.inl rfl
 |c::r,o,i=>by
  have ih:=aEc r (o+1) i;have step:aV (aF6 r (o+1)) i=.z\/(o<=i/\(c::r)[i-o]?=some .nils):=by
   refine ih.imp id fun⟨h1,h2⟩=>⟨by omega,?_⟩
   rw[show i-o=(i-(o+1))+1 by omega];simpa using h2
  cases c with
  |nils=>
   simp only[aF6,aV];split
   .rename_i e;subst e;exact .inr ⟨Nat.le_refl _,by simp⟩
   .exact step
  |_=>exact step
theorem sE{T:Nat->Nat}{lk:Nat->Bool}{gv:Nat->Prop}{E:Nat->V}{cells:List V}(h:∀c∈cells,c.cell)(hb:∀c∈cells,c.bare0):cD T lk gv E (aF6 cells 0) cells:=by
 intro i c hc;rcases aEc cells 0 i with e|⟨_,e⟩
 .rw[e];exact aBr.of_bare (h c (List.mem_of_getElem? hc)) (hb c (List.mem_of_getElem? hc))
 .rw[Nat.sub_zero,hc]at e;cases e;trivial
section
variable{X:Cxt}{D:Nat->SY}{Λ:LS}{C:CC}{e:TE D}{β:Nat->Nat}{σ:St}
theorem aCy{a b:List (Nat×Bool)}(h:aJR a b=true)(hb:holds e b):holds e a:=by
 intro s w hs;unfold aJR at h;rw[List.all_eq_true]at h;exact hb s w (by simpa using h _ hs)
theorem RS.slot(h:RS X D Λ C e β σ){cs:List (Nat×Bool)}(hh:holds e cs){s:Nat}{sv:SV}(hr:rdS Λ C cs s=some sv) :
  (s,sv)∈Λ.vs/\cN (get σ.env) β σ.bx s (D s) (e s) (get σ.env s)/\cD σ.tips σ.lk X.gv (get σ.env) sv.ls (get σ.env s).kids/\eB (get σ.env) sv.cp (get σ.env s):=by
 unfold rdS LS.has at hr;split at hr
 .rename_i v hv;split at hr
  .rename_i hc;cases hr;have hm:=jE hv;exact⟨hm,h.yes s sv hm (aCy hc hh)⟩
  .cases hr
 .cases hr
theorem aBs{E:Nat->V}{s:Nat}(h:aN (E s)=false):ev E (.tmp s)=E s:=by
 cases hv:E s with
 |reg=>rw[hv]at h;cases h
 |_=>simp only[ev,hv]
theorem RS.noreg(h:RS X D Λ C e β σ){s:Nat}(hs:(rty D s).isSome=false):aN (get σ.env s)=false:=by
 cases hh:aN (get σ.env s)with
 |false=>rfl
 |true=>rw[h.rg s hh]at hs;cases hs
theorem aCz{y:SY}{x:y.den}{v:V}{E:Nat->V}{bx:BX}{s:Nat}(hv:wO y=true)(h:cN E β bx s y x v):v≠.undef/\aN v=false:=by
 cases y with
 |d t=>
  have:=aG h;exact⟨this.2.2.2.2,this.2.2.1⟩
 |reg=>cases hv
 |box=>cases hv
 |no=>cases hv
 |ptr=>
  have h:v=_:=h;rw[h];exact⟨(by intro e;cases e),rfl⟩
 |rp=>obtain⟨_,_,_,_,rfl⟩:=h;exact⟨(by intro e;cases e),rfl⟩
 |rx=>obtain⟨_,_,_,_,_,rfl⟩:=h;exact⟨(by intro e;cases e),rfl⟩
 |ep=>obtain⟨_,_,rfl,_⟩:=h;exact⟨(by intro e;cases e),rfl⟩
 |vp=>obtain⟨_,_,rfl,_⟩:=h;exact⟨(by intro e;cases e),rfl⟩
 |clo=>
  have h:v=_:=h;rw[h];exact⟨(by intro e;cases e),rfl⟩
 |tup=>obtain⟨_,rfl,_⟩:=h;exact⟨(by intro e;cases e),rfl⟩
theorem aGN{E:Nat->V}{β:Nat->Nat}{bx:BX}{s:Nat}{a:SY}{t:Ty}(ha:a=.reg t){z:a.den}{v:V}(h:cN E β bx s a z v):∃c n cs,v=.reg c n cs:=by
 subst ha;obtain⟨c,n,cs,k,_⟩:=h;exact⟨c,n,cs,k⟩
theorem uQ{v:V}(h:∀lb cs off,v≠.ep lb cs off):aIg v v:=by
 cases v with
 |ep lb cs off=>exact absurd rfl (h lb cs off)
 |_=>rfl
theorem zQ{t:Ty}{x:t.den}{v:V}(h:gP t x v):∀lb cs off,v≠.ep lb cs off:=by
 intro lb cs off e;subst e;exact(bJ h.1 (.ep lb cs off) (by simp[V.cells]):False)
theorem aEd{E:Nat->V}{β:Nat->Nat}{bx:BX}{s:Nat}{a:SY}{t:Ty}(ha:a=.d t){z:a.den}{v:V}(h:cN E β bx s a z v):∀lb cs off,v≠.ep lb cs off:=by
 subst ha;exact zQ h
theorem RS.opd(h:RS X D Λ C e β σ){cs:List (Nat×Bool)}(hh:holds e cs){x:Opd}{y:SY}{f:TE D->y.den}{l:Ls}(hf:opd D x y=some f)(hr:rd D Λ C cs x=some l)(s0:Nat) :
  cN (get σ.env) β σ.bx s0 y (f e) (ev (get σ.env) x)/\cD σ.tips σ.lk X.gv (get σ.env) l (ev (get σ.env) x).kids/\eB (get σ.env) (aCu D Λ C x) (ev (get σ.env) x)/\aN (ev (get σ.env) x)=false:=by
 cases x with
 |const v=>
  simp only[Go.VM.opd]at hf;obtain⟨c,h1,rfl⟩:=Option.map_eq_some_iff.1 hf;simp only[rd]at hr;cases hr;unfold SY.cst at h1;split at h1
  .rename_i t;obtain⟨k1,k2⟩:=aE8 h1;obtain⟨q1,q2,q3,_⟩:=aG k1;have e1:ev (get σ.env) (.const v)=v:=rfl;rw[e1];exact⟨k1,by rw[q1];exact sE q2 k2,eB.none,q3⟩
  .cases h1
 |tmp s=>
  simp only[Go.VM.opd]at hf;obtain⟨g,h1,rfl⟩:=Option.map_eq_some_iff.1 hf;simp only[rd]at hr;split at hr
  .rename_i sv hsv;obtain⟨hm,k1,k2,k3⟩:=h.slot hh hsv;by_cases hreg:(rty D s).isSome=true
   · obtain ⟨t, ht⟩ : ∃ t, D s = .reg t := by
       unfold rty at hreg;split at hreg
       .rename_i t ht;exact⟨t,ht⟩
       .cases hreg
     have hcp:aCu D Λ C (.tmp s)=none:=by
      simp only[aCu,ht]
     rw[hcp];rw[ht]at hr;simp only at hr;cases hr;have hk:∃c n cs,get σ.env s=.reg c n cs:=aGN ht k1;obtain⟨c,n,cells,hk⟩:=hk;have hev:ev (get σ.env) (.tmp s)=.rp s c 0:=by simp only[ev,hk]
     rw[hev];refine⟨?_,fun i c' hc'=>?_,eB.none,rfl⟩
     · have h1' : ∀ (a : SY) (g : a.den → y.den) (z : a.den), a = .reg t → SY.rd s a y = some g → cN (get σ.env) β σ.bx s0 y (g z) (.rp s c 0) := by
         intro a g z ha hg;subst ha;cases y with
         |rp s' o=>
          simp only[SY.rd]at hg;split at hg
          .rename_i hso;obtain⟨rfl,rfl⟩:=hso;exact⟨c,n,cells,hk,rfl⟩
          .cases hg
         |_=>cases hg
       exact h1' (D s) g (e s) ht h1
     · have : c' = .rp s c 0 := by
         have:=List.mem_of_getElem? hc';simpa[V.kids]using this
       subst this;trivial
   .have hnr:aN (get σ.env s)=false:=h.noreg (by simpa using hreg);rw[aBs hnr];have hls:l=sv.ls:=by
     split at hr
     .rename_i t ht;exact absurd (by unfold rty;rw[ht];rfl) hreg
     .cases hr
     .cases hr
     .cases hr;rfl
    subst hls;refine⟨?_,k2,?_,hnr⟩
    · have h1' : ∀ (a : SY) (g : a.den → y.den) (z : a.den), (∀ t, a ≠ .reg t) → cN (get σ.env) β σ.bx s a z (get σ.env s) → SY.rd s a y = some g → cN (get σ.env) β σ.bx s0 y (g z) (get σ.env s) := by
        intro a g z ha hz hg;have key:a.isBox=false->SY.get a y=some g->cN (get σ.env) β σ.bx s0 y (g z) (get σ.env s):=fun hb hg=>bS hg (aEb hb hz)
        cases a with
        |reg t=>exact absurd rfl (ha t)
        |box t=>cases hg
        |_=>exact key rfl hg
      refine h1' (D s) g (e s) (fun t ht=>hreg (by unfold rty;rw[ht];rfl)) k1 h1
    · have hhas : Λ.has s = some sv := by
        unfold rdS at hsv;split at hsv
        .rename_i v hv;split at hsv<;>cases hsv;exact hv
        .cases hsv
      have k4:(∀lb cs off,get σ.env s≠.ep lb cs off)->eB (get σ.env) (match sv.cp with|some r=>some r|none=>if bW C s=[]then some (s,none)else none) (get σ.env s):=by
       intro hq;cases hcp:sv.cp with
       |some r=>rw[hcp]at k3;exact k3
       |none=>
        simp only;split
        .intro r' o hro;cases hro;exact⟨_,⟨rfl,hnr⟩,uQ hq⟩
        .exact eB.none
      simp only[aCu,hhas];have k5:(∃t,D s=.d t)->∀lb cs off,get σ.env s≠.ep lb cs off:=fun⟨t,ht⟩=>aEd ht k1
      cases hDs:D s with
      |d t=>exact k4 (k5 ⟨t,hDs⟩)
      |ep=>exact k3
      |_=>exact eB.none
  .cases hr
theorem RS.opD(h:RS X D Λ C e β σ){cs:List (Nat×Bool)}(hh:holds e cs){x:Opd}{t:Ty}{f:TE D->t.den}{l:Ls}(hf:opD D x t=some f)(hr:rd D Λ C cs x=some l) :
  gP t (f e) (ev (get σ.env) x)/\cD σ.tips σ.lk X.gv (get σ.env) l (ev (get σ.env) x).kids/\eB (get σ.env) (aCu D Λ C x) (ev (get σ.env) x):=
 have:=h.opd hh (y:=.d t) hf hr 0
 ⟨this.1,this.2.1,this.2.2.1⟩
theorem RS.opI(h:RS X D Λ C e β σ){cs:List (Nat×Bool)}(hh:holds e cs){x:Opd}{k:IntKind}{f:TE D->Int}(hf:opI D x k=some f)(hr:(rd D Λ C cs x).isSome=true):ev (get σ.env) x=.int k (f e):=by
 obtain⟨l,hl⟩:=Option.isSome_iff_exists.1 hr;exact wV (h.opD hh (t:=.int k) hf hl).1
theorem RS.opB(h:RS X D Λ C e β σ){cs:List (Nat×Bool)}(hh:holds e cs){x:Opd}{f:TE D->Bool}(hf:opB D x=some f)(hr:(rd D Λ C cs x).isSome=true):ev (get σ.env) x=.bool (f e):=by
 obtain⟨l,hl⟩:=Option.isSome_iff_exists.1 hr;exact nH (h.opD hh (t:=.bool) hf hl).1
theorem RS.opS(h:RS X D Λ C e β σ){cs:List (Nat×Bool)}(hh:holds e cs){x:Opd}{f:TE D->List UInt8}(hf:opS D x=some f)(hr:(rd D Λ C cs x).isSome=true):ev (get σ.env) x=.str (f e):=by
 obtain⟨l,hl⟩:=Option.isSome_iff_exists.1 hr;exact nI (h.opD hh (t:=.str) hf hl).1
theorem kJ{cs:List (Nat×Bool)}{x:Opd}(h:tQ D Λ C cs [x]=true):(rd D Λ C cs x).isSome=true:=by simpa[tQ]using h
theorem nK{cs:List (Nat×Bool)}{x y:Opd}(h:tQ D Λ C cs [x,y]=true):(rd D Λ C cs x).isSome=true/\(rd D Λ C cs y).isSome=true:=by simpa[tQ]using h
theorem aIj{s:Nat}{f:TE D->Bool}(h:opB D (.tmp s)=some f)(e:TE D):SY.asB (D s) (e s)=f e:=by
 unfold Go.VM.opB Go.VM.opd at h;obtain⟨g,h1,rfl⟩:=Option.map_eq_some_iff.1 h;have:∀(a:SY) (g:a.den->Bool) (z:a.den),SY.rd s a (.d .bool)=some g->SY.asB a z=g z:=by
  intro a g z hg;have key:SY.get a (.d .bool)=some g->SY.asB a z=g z:=fun hg=>by
   obtain⟨e,rfl⟩:=eK hg;subst e;rfl
  cases a with
  |reg=>cases hg
  |box=>cases hg
  |_=>exact key hg
 exact this (D s) g (e s) h1
theorem aBt{T:Nat->Nat}{lk:Nat->Bool}{gv:Nat->Prop}{E:Nat->V}{al:AL}{c:V}(hc:c.cell)(h:aBr T lk gv E al c)(hr:al.rv=none):c.ok1=true:=by
 cases c with
 |sl l z n cs=>
  have h:bR T lk gv E al l:=h;cases l with
  |rv s c v=>have:=(h.2.2.2.2.2 s c v rfl).1;rw[hr]at this;cases this
  |arg i=>exact absurd rfl (h.2.2.2.2.1 i)
  |_=>rfl
 |bool|int|str|nils|nili|iface|fn=>rfl
 |_=>exact hc.elim
theorem cells_ok{T:Nat->Nat}{lk:Nat->Bool}{gv:Nat->Prop}{E:Nat->V}{ls:Ls}{cells:List V}(hc:∀c∈cells,c.cell)(h:cD T lk gv E ls cells)(hr:jN ls=true):cells.all V.ok1=true:=by
 rw[List.all_eq_true];intro c hm;obtain⟨i,hi⟩:=List.getElem?_of_mem hm;exact aBt (hc c hm) (h i c hi) (noRv_at hr i)
theorem eZ{T:Nat->Nat}{lk:Nat->Bool}{gv:Nat->Prop}{E:Nat->V}{t:Ty}{x:t.den}{v:V}{ls:Ls}(h:gP t x v)(hl:cD T lk gv E ls v.kids)(hr:jN ls=true):v.ok=true:=by
 obtain⟨h1,h2,h3,h4,h5⟩:=aG h;rw[h1]at hl;have:=cells_ok h2 hl hr;cases v with
 |agg cs=>exact this
 |_=>simpa[V.cells,V.ok]using this
theorem wW:∀{ls:Ls} {off sz i:Nat},i<sz->aV (aCt off sz ls) i=aV ls (i+off)
 |[],_,_,_,_=>rfl
 |(a,l)::r,off,sz,i,hi=>by
  have ih:=wW (ls:=r) (off:=off) hi;unfold aCt at ih ⊢;simp only[List.filter_cons];by_cases h:off<=a/\a<off+sz
  .rw[if_pos (by simpa using h)];simp only[List.map_cons,aV];by_cases he:a=i+off
   .rw[if_pos he,if_pos (by omega)]
   .rw[if_neg he,if_neg (by omega)];exact ih
  .rw[if_neg (by simpa using h),ih];simp only[aV];rw[if_neg (by omega)]
theorem aBu:∀{ls:Ls} {off sz i:Nat},¬(off<=i/\i<off+sz)->aV (aIA off sz ls) i=aV ls i
 |[],_,_,_,_=>rfl
 |(a,l)::r,off,sz,i,hi=>by
  have ih:=aBu (ls:=r) hi;unfold aIA at ih ⊢;simp only[List.filter_cons];by_cases h:off<=a/\a<off+sz
  .rw[if_neg (by simpa using h),ih];simp only[aV];rw[if_neg (fun e=>hi (by rw[<-e];exact h))]
  .rw[if_pos (by simp;omega)];simp only[aV];split
   .rfl
   .exact ih
theorem jG:∀{a b:Ls} {i:Nat},aV (a++b) i=if i∈a.map (·.1)then aV a i else aV b i
 |[],_,_=>rfl
 |(k,l)::r,b,i=>by
  simp only[List.cons_append,aV,List.map_cons,List.mem_cons];by_cases h:k=i
  .rw[if_pos h,if_pos (.inl h.symm),if_pos h]
  .rw[if_neg h,jG];by_cases h2:i∈r.map (·.1)
   .rw[if_pos h2,if_pos (.inr h2),if_neg h]
   .rw[if_neg h2,if_neg (fun q=>q.elim (fun q=>h q.symm) h2)]
theorem uR:∀{a:Ls} {i:Nat},i∉a.map (·.1)->aV a i=.z
 |[],_,_=>rfl
 |(k,l)::r,i,h=>by
  simp only[List.map_cons,List.mem_cons,not_or]at h;simp only[aV];rw[if_neg (fun e=>h.1 e.symm)];exact uR h.2
theorem oR:∀{ls:Ls} {off sz i:Nat},i<sz->aV ((ls.filter fun p=>decide (p.1<sz)).map fun p=>(p.1+off,p.2)) (i+off)=aV ls i
 |[],_,_,_,_=>rfl
 |(a,l)::r,off,sz,i,hi=>by
  have ih:=oR (ls:=r) (off:=off) hi;simp only[List.filter_cons];by_cases h:a<sz
  .rw[if_pos (by simpa using h)];simp only[List.map_cons,aV];by_cases he:a=i
   .rw[if_pos he,if_pos (by omega)]
   .rw[if_neg he,if_neg (by omega)];exact ih
  .rw[if_neg (by simpa using h),ih];simp only[aV];rw[if_neg (by omega)]
theorem aBN{ls:Ls}{off sz i:Nat}(h:off<=i/\i<off+sz):aV (aIA off sz ls) i=.z:=by
 rcases fA (ls:=aIA off sz ls) (i:=i)with e|e
 .exact e
 .unfold aIA at e;rw[List.mem_filter]at e;have:=e.2;simp at this;omega
theorem aBO{ls new:Ls}{off sz i:Nat}(h:off<=i/\i<off+sz):aV (aH5 off sz ls new) i=aV new (i-off):=by
 unfold aH5;rw[jG];have e:i=(i-off)+off:=by omega
 split
 .have:=oR (ls:=new) (off:=off) (sz:=sz) (i:=i-off) (by omega);rw[<-e]at this;exact this
 .rename_i hn;rw[aBN h];have:=oR (ls:=new) (off:=off) (sz:=sz) (i:=i-off) (by omega);rw[<-e]at this;rw[<-this,uR hn]
theorem zR{ls new:Ls}{off sz i:Nat}(h:¬(off<=i/\i<off+sz)):aV (aH5 off sz ls new) i=aV ls i:=by
 unfold aH5;rw[jG,if_neg,aBu h];intro hm;obtain⟨p,hp,he⟩:=List.mem_map.1 hm;obtain⟨q,hq,rfl⟩:=List.mem_map.1 hp;have:=(List.mem_filter.1 hq).2;simp only[decide_eq_true_eq]at this;simp only at he;omega
section
variable{T:Nat->Nat}{lk:Nat->Bool}{gv:Nat->Prop}{E:Nat->V}{ls new:Ls}{cells ys:List V}
theorem cD.sub(h:cD T lk gv E ls cells)(off sz:Nat):cD T lk gv E (aCt off sz ls) ((cells.drop off).take sz):=by
 intro i c hc;have hi:i<sz:=by
  have:=(List.getElem?_eq_some_iff.1 hc).1;rw[List.length_take]at this;omega
 rw[wW hi];refine h (i+off) c ?_;rw[List.getElem?_take_of_lt hi,List.getElem?_drop]at hc;rw[Nat.add_comm];exact hc
theorem fY{cs ys:List V}{off:Nat}(h:off+ys.length<=cs.length)(i:Nat):(splice cs off ys)[i]?=if off<=i/\i<off+ys.length then ys[i-off]? else cs[i]?:=by
 unfold splice;by_cases h1:i<off
 .rw[if_neg (by omega),List.append_assoc,List.getElem?_append_left (by rw[List.length_take];omega),List.getElem?_take_of_lt h1]
 .by_cases h2:i<off+ys.length
  .rw[if_pos ⟨by omega,h2⟩,List.getElem?_append_left (by rw[List.length_append,List.length_take];omega),List.getElem?_append_right (by rw[List.length_take];omega),List.length_take];congr 1;omega
  .rw[if_neg (by omega),List.getElem?_append_right (by rw[List.length_append,List.length_take];omega),List.length_append,List.length_take,List.getElem?_drop];congr 1;omega
theorem cD.put{off sz:Nat}(h:cD T lk gv E ls cells)(hn:cD T lk gv E new ys)(hl:ys.length=sz)(ho:off+sz<=cells.length):cD T lk gv E (aH5 off sz ls new) (splice cells off ys):=by
 intro i c hc;rw[fY (by omega)]at hc;by_cases hi:off<=i/\i<off+sz
 .rw[if_pos (by omega)]at hc;rw[aBO hi];exact hn _ c hc
 .rw[if_neg (by omega)]at hc;rw[zR hi];exact h i c hc
theorem wX(h:jN ls=true)(off sz:Nat):jN (aCt off sz ls)=true:=by
 unfold jN aCt at *;rw[List.all_eq_true]at h ⊢;intro p hp;obtain⟨q,hq,rfl⟩:=List.mem_map.1 hp;exact h q (List.mem_filter.1 hq).1
end
def OD.out{E:Type}(o:OD E)(e:E):Option E:=match o with
 |.t f=>some (f e)
 |.p _ _ f h=>(f e).map (h e)
theorem OD.go_out{E R:Type}{o:OD E}{e:E}{g:Option Bool}{K:E->Option R}{r:R}(hg:g=none\/g=some true)(h:o.go e g K=some r):∃e',o.out e=some e'/\K e'=some r:=by
 cases o with
 |t f=>exact⟨_,rfl,h⟩
 |p α z f k=>
  have h':(f e).bind (fun a=>K (k e a))=some r:=by
   rcases hg with rfl|rfl
   .exact h
   .exact h
  obtain⟨a,h1,h2⟩:=Option.bind_eq_some_iff.1 h';exact⟨_,by simp only[OD.out,h1];rfl,h2⟩
theorem fail_out{E:Type}{e e':E}(h:(OD.fail:OD E).out e=some e'):False:=by cases h
theorem bL{d:Nat}{t:Ty}{f:TE D->t.den}{e':TE D}(h:(OD.tot D d t f).out e=some e') :
  ∃x,e'=e.set d x/\∀{E:Nat->V} {β:Nat->Nat} {bx:BX} {s:Nat} {w:V},gP t (f e) w->cN E β bx s (D d) x w:=by
 unfold OD.tot at h;split at h
 .rename_i c hc;cases h;exact⟨_,rfl,fun{E β bx s w} hv=>bS hc (x:=f e) hv⟩
 .exact(fail_out h).elim
theorem eL{d:Nat}{t:Ty}{f:TE D->Option t.den}{e':TE D}(h:(OD.par D d t f).out e=some e') :
  ∃v x,f e=some v/\e'=e.set d x/\∀{E:Nat->V} {β:Nat->Nat} {bx:BX} {s:Nat} {w:V},gP t v w->cN E β bx s (D d) x w:=by
 unfold OD.par at h;split at h
 .rename_i c hc;obtain⟨v,h1,rfl⟩:=Option.map_eq_some_iff.1 h;exact⟨v,_,h1,rfl,fun{E β bx s w} hv=>bS hc (x:=v) hv⟩
 .exact(fail_out h).elim
end
end Go.VM
namespace Go.VM
section
variable{X:Cxt}{D:Nat->SY}{Λ:LS}{C:CC}{e:TE D}{β:Nat->Nat}{σ:St}{t0:Nat->Nat}{mk:List Nat}{sg:Nat->Sg}{cf:NF sg}
def VOk(X:Cxt)(D:Nat->SY)(β:Nat->Nat)(σ:St)(d:Nat)(ls:Ls)(cp:Option (Nat×Option Nat))(x:(D d).den)(w:V):Prop:=
 cN (get σ.env) β σ.bx d (D d) x w/\cD σ.tips σ.lk X.gv (get σ.env) ls w.kids/\eB (get σ.env) cp w/\aN w=false
def mF(X:Cxt)(D:Nat->SY)(cf:NF sg)(Λ:LS)(C:CC)(e:TE D)(β:Nat->Nat)(σ:St)(t0:Nat->Nat)(cs:List (Nat×Bool))(d:Nat)(op:VOp):Prop:=
 ∀{ls cp e'},lA D Λ C cs d op=some (ls,cp)->wO (D d)=true->(dop D cf (some d) op).out e=some e'->
  ∃x w,e'=e.set d x/\aB (get σ.env) t0 σ.clk σ.bx d op=some w/\VOk X D β σ d ls cp x w
def V.lone:V->Prop
 |.bool _|.int ..|.str _|.iface ..|.bp ..|.rp ..|.nili=>True
 |_=>False
theorem VOk.lone{d:Nat}{ls:Ls}{x:(D d).den}{w:V}(h:cN (get σ.env) β σ.bx d (D d) x w)(hw:w.lone):VOk X D β σ d ls none x w:=by
 refine⟨h,dY fun c hc=>?_,eB.none,?_⟩
 .have:c=w:=by cases w<;>first|exact hw.elim|simpa[V.kids]using hc
  subst this;cases c<;>first|trivial|exact hw.elim
 .cases w<;>first|rfl|exact hw.elim
theorem kK{y:SY}(h:wO y=true):y.isBox=false:=by cases y<;>first|rfl|cases h
theorem aEe{E:Nat->V}{bx:BX}{s:Nat}{y:SY}{x:y.den}{v:V}(hy:zN y=true)(h:cN E β bx s y x v):(∃s c o,v=.rp s c o)\/(∃l cs o,v=.ep l cs o)\/∃b o,v=.bp b o:=by
 cases y with
 |ptr=>exact .inr (.inr ⟨_,_,h⟩)
 |rp=>obtain⟨_,_,_,_,rfl⟩:=h;exact .inl ⟨_,_,_,rfl⟩
 |rx=>obtain⟨_,_,_,_,_,rfl⟩:=h;exact .inl ⟨_,_,_,rfl⟩
 |ep=>obtain⟨_,_,rfl,_⟩:=h;exact .inr (.inl ⟨_,_,_,rfl⟩)
 |vp=>obtain⟨_,_,rfl,_⟩:=h;exact .inr (.inl ⟨_,_,_,rfl⟩)
 |_=>cases hy
theorem aIk{E:Nat->V}{bx:BX}{s:Nat}{a:SY}{t:Ty}(ha:a=.d t){x:a.den}{v:V}(h:cN E β bx s a x v):∃y:t.den,gP t y v:=by
 subst ha;exact⟨x,h⟩
theorem dty_some{d:Nat}{t:Ty}(h:dty D d=some t):D d=.d t/\(t.agg||t.size==1)=true:=by
 unfold dty at h;split at h
 .rename_i u hu;split at h
  .rename_i hk;cases h;exact⟨hu,hk⟩
  .cases h
 .cases h
theorem nL{d:Nat}{t:Ty}(h:rty D d=some t):D d=.reg t:=by
 unfold rty at h;split at h
 .rename_i u hu;cases h;exact hu
 .cases h
theorem aBv{d:Nat}{t:Ty}(h:bty D d=some t):D d=.box t:=by
 unfold bty at h;split at h
 .rename_i u hu;cases h;exact hu
 .cases h
theorem aHa(h:RS X D Λ C e β σ){cs:List (Nat×Bool)}(hh:holds e cs){d:Nat}{x:Opd}:mF X D cf Λ C e β σ t0 cs d (.mv x):=by
 intro ls cp e' hc hv ho;simp only[lA]at hc;split at hc
 .cases hc
 rename_i hnil;obtain⟨l,hl,he⟩:=Option.map_eq_some_iff.1 hc;cases he;simp only[dop]at ho;split at ho
 .rename_i f hf;simp only[OD.out]at ho;cases ho;obtain⟨k1,k2,k3,k4⟩:=h.opd hh hf hl d;refine⟨f e,ev (get σ.env) x,rfl,?_,k1,k2,k3,k4⟩;have hu:=(aCz hv k1).1;simp only[aB];cases hw:ev (get σ.env) x with
  |undef=>rw[hw]at hu;exact absurd rfl hu
  |reg=>rw[hw]at k4;cases k4
  |_=>rfl
 .rw[if_neg hnil]at ho;exact(fail_out ho).elim
theorem aDA(h:RS X D Λ C e β σ){cs:List (Nat×Bool)}(hh:holds e cs){d:Nat}{x:Opd}:mF X D cf Λ C e β σ t0 cs d (.nilck x):=by
 intro ls cp e' hc hv ho;simp only[lA]at hc;split at hc
 .rename_i hp;obtain⟨l,hl,he⟩:=Option.map_eq_some_iff.1 hc;cases he;simp only[dop]at ho;split at ho
  .rename_i f hf;simp only[OD.out]at ho;cases ho;obtain⟨k1,k2,k3,k4⟩:=h.opd hh hf hl d;refine⟨f e,ev (get σ.env) x,rfl,?_,k1,k2,k3,k4⟩;simp only[aB];rcases aEe hp k1 with⟨_,_,_,hw⟩|⟨_,_,_,hw⟩|⟨_,_,hw⟩<;>rw[hw]
  .exact(fail_out ho).elim
 .cases hc
theorem aDB(h:RS X D Λ C e β σ){cs:List (Nat×Bool)}(hh:holds e cs){d:Nat}{x:Opd}:mF X D cf Λ C e β σ t0 cs d (.convS x):=by
 intro ls cp e' hc hv ho;simp only[lA]at hc;split at hc
 .rename_i hp;obtain⟨l,hl,he⟩:=Option.map_eq_some_iff.1 hc;cases he;simp only[dop]at ho;split at ho
  .rename_i f hf;simp only[OD.out]at ho;cases ho;obtain⟨k1,k2,k3,k4⟩:=h.opd hh hf hl d;obtain⟨s,hs⟩:=aIk hp k1;have hw:=nI hs;refine⟨f e,ev (get σ.env) x,rfl,?_,VOk.lone k1 (by rw[hw];trivial)⟩;simp only[aB,hw]
  .exact(fail_out ho).elim
 .cases hc
theorem aEf{s:Nat}:pP e s true=SY.asB (D s) (e s):=rfl
theorem aDC{s:Nat}:pP e s false=!(SY.asB (D s) (e s)):=rfl
theorem oS{s:Nat}{w:Bool}{cs:List (Nat×Bool)}(h:pP e s w=true)(hh:holds e cs):holds e ((s,w)::cs):=by
 intro s' w' hm;rcases List.mem_cons.1 hm with hm|hm
 .cases hm;exact h
 .exact hh s' w' hm
theorem aEg(h:RS X D Λ C e β σ){cs:List (Nat×Bool)}(hh:holds e cs){d:Nat}{c a b:Opd}:mF X D cf Λ C e β σ t0 cs d (.pick c a b):=by
 intro ls cp e' hc hv ho;simp only[lA]at hc;split at hc
 .rename_i lc hlc;split at hc
  .rename_i s;split at hc
   .rename_i la lb hla hlb;split at hc
    .rename_i hno;cases hc;simp only[Bool.and_eq_true]at hno;simp only[dop]at ho;split at ho
     .rename_i t ht;split at ho
      .rename_i fc fa fb hfc hfa hfb;obtain⟨x,rfl,hx⟩:=bL ho;have hcv:=h.opB hh hfc (by rw[hlc];rfl);have hb:=aIj hfc e;cases hcb:fc e with
       |true=>
        have hh':=oS (e:=e) (s:=s) (w:=true) (by rw[aEf,hb,hcb]) hh;obtain⟨k1,k2,k3⟩:=h.opD hh' hfa hla;refine⟨x,_,rfl,?_,hx (by rw[hcb];exact k1),k2.join_left,eB.none,(aG k1).2.2.1⟩;simp only[aB,hcv,hcb,if_true];rw[if_pos (eZ k1 k2 hno.1)]
       |false=>
        have hh':=oS (e:=e) (s:=s) (w:=false) (by rw[aDC,hb,hcb];rfl) hh;obtain⟨k1,k2,k3⟩:=h.opD hh' hfb hlb;refine⟨x,_,rfl,?_,hx (by rw[hcb];exact k1),k2.join_right (aE9 hno.1 hno.2),eB.none,(aG k1).2.2.1⟩;simp only[aB,hcv,hcb,Bool.false_eq_true,if_false];rw[if_pos (eZ k1 k2 hno.2)]
      .exact(fail_out ho).elim
     .exact(fail_out ho).elim
    .cases hc
   .cases hc
  .cases hc
 .cases hc
theorem dI{T:Nat->Nat}{lk:Nat->Bool}{gv:Nat->Prop}{E:Nat->V}{u:Ty}{y:u.den}{cs:List V}{off:Nat}{ls:Ls}(ho:off+u.size<=cs.length)(hr:bP u y ((cs.drop off).take u.size))(hk:(u.agg||u.size==1)=true)
  (hl:cD T lk gv E ls ((cs.drop off).take u.size)) (hn:jN ls=true) :
  ∃w,part u.agg off u.size cs=some w/\gP u y w/\w.kids=(cs.drop off).take u.size/\(u.agg=false->cs[off]?=some w):=by
 unfold part;rw[if_pos ho];have hok:=cells_ok (bJ hr) hl hn;cases hg:u.agg with
 |true=>
  refine⟨.agg ((cs.drop off).take u.size),by simp[nU],⟨hr,by rw[hg];rfl⟩,rfl,fun hh=>by cases hh⟩
 |false=>
  rw[hg]at hk;have h1:u.size=1:=by simpa using hk
  have hlen:((cs.drop off).take u.size).length=1:=by rw[aF hr,h1]
  match hcs:(cs.drop off).take u.size,hlen with
  |[w],_=>
   rw[hcs]at hr hok;have hcell:=bJ hr w (by simp);have hg2:w.isAgg=false:=by cases w<;>first|rfl|exact hcell.elim
   refine⟨w,?_,aH9 hr hg hg2,?_,fun _=>?_⟩
   .simp only[nU,Bool.false_eq_true,if_false];rw[if_pos (by simpa using hok)]
   .cases w<;>first|rfl|exact hcell.elim
   .rw[h1]at hcs;have h0:(cs.drop off)[0]?=some w:=by
     have:((cs.drop off).take 1)[0]?=some w:=by rw[hcs];rfl
     rwa [List.getElem?_take_of_lt (by omega)]at this
    rw[List.getElem?_drop]at h0;simpa using h0
theorem lD:jN []=true:=rfl
theorem aHb{a:Opd}{y:SY}(h:adO D a=y)(hy:zN y=true):∃f,opd D a y=some f:=by
 cases a with
 |const v=>simp only[adO]at h;subst h;cases hy
 |tmp p=>
  simp only[adO]at h;cases hD:D p with
  |reg t=>
   rw[hD]at h;simp only at h;subst h;have:∀z:SY,z=.reg t->∃f,SY.rd p z (.rp p 0)=some f:=by
    intro z hz;subst hz;exact⟨_,by simp only[SY.rd];rw[if_pos ⟨trivial,trivial⟩]⟩
   obtain⟨f,hf⟩:=this _ hD;exact⟨_,by simp only[opd,hf];rfl⟩
  |_=>
   rw[hD]at h;simp only at h
   first
    |(subst h;cases hy;done)
    | (have : ∀ z : SY, z = y → zN z = true → ∃ f, SY.rd p z y = some f := by
         intro z hz hq;subst hz;have key:∃f,SY.get z z=some f:=⟨fun v=>v,by unfold SY.get;rw[dif_pos rfl]⟩;cases z<;>first|exact key|cases hq
       obtain⟨f,hf⟩:=this (D p) (by rw[hD];exact h) (by rw[hD,h];exact hy);exact⟨_,by simp only[opd,hf];rfl⟩)
theorem RS.ad(h:RS X D Λ C e β σ){cs:List (Nat×Bool)}(hh:holds e cs){a:Opd}{y:SY}(ha:adO D a=y)(hy:zN y=true){l:Ls}(hr:rd D Λ C cs a=some l)(s0:Nat) :
  ∃x:y.den,cN (get σ.env) β σ.bx s0 y x (ev (get σ.env) a)/\cD σ.tips σ.lk X.gv (get σ.env) l (ev (get σ.env) a).kids/\eB (get σ.env) (aCu D Λ C a) (ev (get σ.env) a):=by
 obtain⟨f,hf⟩:=aHb ha hy;obtain⟨k1,k2,k3,_⟩:=h.opd hh hf hr s0;exact⟨_,k1,k2,k3⟩
theorem RS.regc(h:RS X D Λ C e β σ){cs:List (Nat×Bool)}(hh:holds e cs){s:Nat}{sv:SV}(hr:rdS Λ C cs s=some sv){t:Ty}{c:(D s).den->t.den}(hc:SY.get (D s) (.reg t)=some c) :
  ∃k n cells,get σ.env s=.reg k n cells/\bP t (c (e s)) cells/\cD σ.tips σ.lk X.gv (get σ.env) sv.ls cells:=by
 obtain⟨_,k1,k2,_⟩:=h.slot hh hr;obtain⟨k,n,cells,h1,h2⟩:=bS hc k1;rw[h1]at k2;exact⟨k,n,cells,h1,h2,k2⟩
theorem RS.boxc(h:RS X D Λ C e β σ){cs:List (Nat×Bool)}(hh:holds e cs){s:Nat}{sv:SV}(hr:rdS Λ C cs s=some sv){t:Ty}{c:(D s).den->t.den}(hc:SY.get (D s) (.box t)=some c) :
  ∃cells,σ.bx[β s]?=some cells/\bP t (c (e s)) cells/\∀v∈cells,v.bare0:=by
 obtain⟨_,k1,_,_⟩:=h.slot hh hr;exact(bS hc k1).2
theorem nM{T:Nat->Nat}{lk:Nat->Bool}{gv:Nat->Prop}{E:Nat->V}{al:AL}{l:Lab}{av:List Nat}(h:bR T lk gv E al l)(hn:∀s,al.rv=some s->s∉av):l.free E av=true:=by
 unfold Lab.free Lab.live;cases l with
 |rv s c v=>
  obtain⟨h1,cs,h2⟩:=h.2.2.2.2.2 s c v rfl;simp only[h2,beq_self_eq_true,Bool.and_self,Bool.true_and];have:=hn s h1;simpa using this
 |_=>rfl
theorem nN{av:List Nat}{ls:Ls}(h:zK av ls=true)(i:Nat):∀s,(aV ls i).rv=some s->s∉av:=by
 intro s hs;rcases fA (ls:=ls) (i:=i)with e|e
 .rw[e]at hs;cases hs
 .unfold zK at h;rw[List.all_eq_true]at h;have:=h _ e;simp only[hs]at this;simpa using this
theorem fT{cs:List V}{a b c z:Nat}(h:b+z<=c):((((cs.drop a).take c).drop b).take z)=(cs.drop (a+b)).take z:=by
 rw[List.drop_take,List.take_take,List.drop_drop];congr 1;omega
theorem aHc{T:Nat->Nat}{lk:Nat->Bool}{gv:Nat->Prop}{E:Nat->V}{ls:Ls}{cells:List V}{off sz:Nat}(h:cD T lk gv E ls cells)(hs:aCt off sz ls=[]):cD T lk gv E [] ((cells.drop off).take sz):=by
 have:=h.sub off sz;rw[hs]at this;exact this
theorem cD.nil_sub{T:Nat->Nat}{lk:Nat->Bool}{gv:Nat->Prop}{E:Nat->V}{cells:List V}(h:cD T lk gv E [] cells)(off sz:Nat):cD T lk gv E [] ((cells.drop off).take sz):=h.sub off sz
theorem eN{cs:List V}{off sz:Nat}{c:V}(h:c∈(cs.drop off).take sz):c∈cs:=List.mem_of_mem_drop (List.mem_of_mem_take h)
theorem aEh(h:RS X D Λ C e β σ){cs:List (Nat×Bool)}(hh:holds e cs){d:Nat}{rt:RT}{agg:Bool}{sz:Nat}{a:Opd}:mF X D cf Λ C e β σ t0 cs d (.load rt agg sz a):=by
 intro ls cp e' hc hv ho;simp only[lA]at hc;split at hc
 .cases hc
 rename_i la hla;simp only[dop]at ho;split at hc
 ·
  rename_i s off u ha hu;obtain⟨hDd,hk⟩:=dty_some hu;rw[ha]at ho;simp only at ho;split at hc
  .rename_i s' v hsv;split at hc
   .rename_i hcond;obtain⟨rfl,hno,rfl,rfl⟩:=hcond;cases hc;split at ho
    .rename_i t u' ht hu';rw[hu]at hu';cases hu';split at ho
     .rename_i f c hf hcc;obtain⟨x,rfl,hx⟩:=bL ho;obtain⟨y,k1,k2,k3⟩:=h.ad hh ha rfl hla d;obtain⟨k,n,cells,q1,q2,q3⟩:=h.regc hh hsv hcc;obtain⟨k',n',cells',p1,p2⟩:=k1;rw[q1]at p1;cases p1;obtain⟨g1,g2⟩:=cK hf;obtain⟨w,w1,w2,w3,w4⟩:=dI (by rw[aF q2];exact g1) (g2 _ _ q2) hk (q3.sub off u.size) (wX hno _ _);refine⟨x,w,rfl,?_,hx w2,by rw[w3];exact q3.sub off u.size,?_,(aG w2).2.2.1⟩
      .simp only[aB,p2,q1,true_and,if_true];exact w1
      .intro r o hro;split at hro
       .rename_i hcond;cases hro;exact⟨w,⟨_,_,_,q1,w4 hcond.2⟩,uQ (zQ w2)⟩
       .cases hro
     .exact(fail_out ho).elim
    .exact(fail_out ho).elim
   .cases hc
  .cases hc
 ·
  rename_i s off len u' u ha hu;obtain⟨hDd,hk⟩:=dty_some hu;rw[ha]at ho;simp only at ho;split at hc
  .rename_i s' v hsv;split at hc
   .rename_i hcond;obtain⟨rfl,rfl,rfl,rfl,hsub,hz,hcnt⟩:=hcond;cases hc;split at ho
    .rename_i t ht;split at ho
     .rename_i f l c i hf hl hcc hi;obtain⟨x,rfl,hx⟩:=bL ho;obtain⟨k1,k2,k3,_⟩:=h.opd hh hi hla d;obtain⟨k,n,cells,q1,q2,q3⟩:=h.regc hh hsv hcc;obtain⟨p0,k',n',cells',p1,p2⟩:=k1;rw[q1]at p1;cases p1;obtain⟨g1,g2⟩:=cK hf;obtain⟨r1,r2⟩:=oO hl _ _ (g2 _ _ q2);rw[hcnt]at r2;have hL:((l (f (c (e s'))))[i e]?)=some ((l (f (c (e s')))).getD (i e) u'.dflt):=by
       rw[List.getD_eq_getElem?_getD];rw[List.getElem?_eq_getElem (by rw[r2];exact p0)];rfl
      obtain⟨m1,m2⟩:=pX (fun _ _=>aF) r1 hL;rw[List.length_take,List.length_drop]at m2;rw[fT (by omega)]at m1;have hlen:=eI r1;rw[List.length_take,List.length_drop,r2]at hlen;have hcl:off+i e*u'.size+u'.size<=cells.length:=by omega
      have hlab:cD σ.tips σ.lk X.gv (get σ.env) [] ((cells.drop (off+i e*u'.size)).take u'.size):=by
       have hq:=(aHc q3 hsub).nil_sub (i e*u'.size) u'.size;rw[fT]at hq
       .exact hq
       .have:(i e+1)*u'.size<=len*u'.size:=Nat.mul_le_mul_right _ p0;rw[Nat.add_mul]at this;omega
      obtain⟨w,w1,w2,w3,w4⟩:=dI hcl m1 hk hlab lD;refine⟨x,w,rfl,?_,hx w2,by rw[w3];exact hlab,eB.none,(aG w2).2.2.1⟩;simp only[aB,p2,q1,true_and,if_true];exact w1
     .exact(fail_out ho).elim
    .exact(fail_out ho).elim
   .cases hc
  .cases hc
 ·
  rename_i b off u ha hu;obtain⟨hDd,hk⟩:=dty_some hu;rw[ha]at ho;simp only at ho;split at hc
  .rename_i v hsv;split at hc
   .rename_i hcond;obtain⟨rfl,rfl⟩:=hcond;cases hc;split at ho
    .rename_i t u' ht hu';rw[hu]at hu';cases hu';split at ho
     .rename_i f c hf hcc;obtain⟨x,rfl,hx⟩:=bL ho;obtain⟨y,k1,k2,k3⟩:=h.ad hh ha rfl hla d;have k1:ev (get σ.env) a=.bp (β b) off:=k1;obtain⟨cells,q1,q2,q3⟩:=h.boxc hh hsv hcc;obtain⟨g1,g2⟩:=cK hf;have hlab:cD σ.tips σ.lk X.gv (get σ.env) [] ((cells.drop off).take u.size):=kI (fun c hc=>bJ q2 c (eN hc)) fun c hc=>q3 c (eN hc)
      obtain⟨w,w1,w2,w3,w4⟩:=dI (by rw[aF q2];exact g1) (g2 _ _ q2) hk hlab lD;refine⟨x,w,rfl,?_,hx w2,by rw[w3];exact hlab,eB.none,(aG w2).2.2.1⟩;simp only[aB,k1,q1];exact w1
     .exact(fail_out ho).elim
    .exact(fail_out ho).elim
   .cases hc
  .cases hc
 ·
  rename_i t off r u ha hu;obtain⟨hDd,hk⟩:=dty_some hu;rw[ha,hu]at ho;simp only at ho;split at hc
  .rename_i av;split at hc
   .rename_i hcond;obtain⟨hav,rfl,rfl⟩:=hcond;cases hc;split at ho
    .rename_i f c hf hcc;obtain⟨x,rfl,hx⟩:=bL ho;obtain⟨k1,k2,k3,_⟩:=h.opd hh hcc hla d;obtain⟨lb,cells,p1,p2,p3,p4⟩:=k1;rw[p1]at k2;have hfr:=nM (av:=av) (k2 0 (.ep lb cells _) rfl) (nN hav 0);obtain⟨g1,g2⟩:=cK hf;obtain⟨m1,m2⟩:=pX (fun _ _=>aF) p2 p4;have m3:=g2 _ _ m1;rw[fT g1]at m3;have hlab:cD σ.tips σ.lk X.gv (get σ.env) [] ((cells.drop ((c e).1.2*t.size+off)).take u.size):=kI (fun c hc=>rY p2 c (eN hc)) fun c hc=>p3 c (eN hc)
     obtain⟨w,w1,w2,w3,w4⟩:=dI (by omega) m3 hk hlab lD;refine⟨x,w,rfl,?_,hx w2,by rw[w3];exact hlab,eB.none,(aG w2).2.2.1⟩;simp only[aB,p1,hfr,if_true];exact w1
    .exact(fail_out ho).elim
   .cases hc
  .cases hc
 ·
  rename_i t off u ha hu;obtain⟨hDd,hk⟩:=dty_some hu;rw[ha,hu]at ho;simp only at ho;split at hc
  .rename_i av;split at hc
   .rename_i hcond;obtain⟨hav,rfl,rfl⟩:=hcond;cases hc;split at ho
    .rename_i f c hf hcc;obtain⟨x,rfl,hx⟩:=bL ho;obtain⟨k1,k2,k3,_⟩:=h.opd hh hcc hla d;obtain⟨lb,cells,p1,p2,p3,p4⟩:=k1;rw[p1]at k2;have hfr:=nM (av:=av) (k2 0 (.ep lb cells _) rfl) (nN hav 0);obtain⟨g1,g2⟩:=cK hf;have m3:=g2 _ _ p3;have e1:((cells.take t.size).drop off).take u.size=(cells.drop off).take u.size:=by
      have:=fT (cs:=cells) (a:=0) (b:=off) (c:=t.size) (z:=u.size) g1;simpa using this
     rw[e1]at m3;have hlab:cD σ.tips σ.lk X.gv (get σ.env) [] ((cells.drop off).take u.size):=kI (fun c hc=>bJ m3 c hc) fun c hc=>p4 c (eN hc)
     obtain⟨w,w1,w2,w3,w4⟩:=dI (by omega) m3 hk hlab lD;refine⟨x,w,rfl,?_,hx w2,by rw[w3];exact hlab,eB.none,(aG w2).2.2.1⟩;simp only[aB,p1,hfr,if_true];exact w1
    .exact(fail_out ho).elim
   .cases hc
  .cases hc
 .cases hc
theorem aEi{y:Opd}{k:IntKind}{b:TE D->Int}{c:Int}(h:aEZ y=some c)(hb:opI D y k=some b):b e=c:=by
 cases y with
 |tmp s=>cases h
 |const v=>
  cases v with
  |int k' n=>
   cases h;unfold opI opd SY.cst Ty.ofV at hb;simp only[V.isAgg,Ty.agg,if_true,V.cells,Ty.ofAll,Ty.ofCells]at hb;split at hb
   .rename_i heq;split at heq
    .cases heq;simp only[Option.map_some,Option.some.injEq]at hb;rw[<-hb]
    .cases heq
   .cases hb
  |_=>cases h
theorem aDD{d:Nat}{op:BinOp}{k:IntKind}{a b:TE D->Int}{bc:Option Int}{e':TE D}(h:(aGx D d op k a b bc).out e=some e')(hb:∀c,bc=some c->b e=c) :
  ∃x w,e'=e.set d x/\vG op k (a e) (b e)=some w/\cN (get σ.env) β σ.bx d (D d) x w/\w.lone:=by
 cases op
 case quo=>
  simp only[aGx]at h;split at h
  .rename_i c;split at h
   .exact(fail_out h).elim
   .rename_i hc;obtain⟨x,rfl,hx⟩:=bL h;have:=hb c rfl;exact⟨x,_,rfl,by rw[this];simp only[vG];rw[if_neg hc],hx bN,trivial⟩
  .obtain⟨v,x,h1,rfl,hx⟩:=eL h;split at h1
   .cases h1
   .rename_i hc;cases h1;exact⟨x,_,rfl,by simp only[vG];rw[if_neg hc],hx bN,trivial⟩
 case rem=>
  simp only[aGx]at h;split at h
  .rename_i c;split at h
   .exact(fail_out h).elim
   .rename_i hc;obtain⟨x,rfl,hx⟩:=bL h;have:=hb c rfl;exact⟨x,_,rfl,by rw[this];simp only[vG];rw[if_neg hc],hx bN,trivial⟩
  .obtain⟨v,x,h1,rfl,hx⟩:=eL h;split at h1
   .cases h1
   .rename_i hc;cases h1;exact⟨x,_,rfl,by simp only[vG];rw[if_neg hc],hx bN,trivial⟩
 all_goals simp only[aGx]at h
 all_goals first
  |exact(fail_out h).elim
  | (obtain ⟨x, rfl, hx⟩ := bL h
     first
      |exact⟨x,_,rfl,rfl,hx bN,trivial⟩
      |exact⟨x,_,rfl,rfl,hx eY,trivial⟩)
theorem aDE{d:Nat}{op:BinOp}{a b:TE D->List UInt8}{e':TE D}(h:(aHz D d op a b).out e=some e') :
  ∃x w,e'=e.set d x/\aCI op (a e) (b e)=some w/\cN (get σ.env) β σ.bx d (D d) x w/\w.lone:=by
 cases op
 case add=>
  simp only[aHz]at h;obtain⟨v,x,h1,rfl,hx⟩:=eL h;unfold aJt at h1;split at h1
  .rename_i hc;cases h1;exact⟨x,_,rfl,by simp only[aCI];rw[if_pos hc],hx oQ,trivial⟩
  .cases h1
 all_goals simp only[aHz]at h
 all_goals first
  |exact(fail_out h).elim
  | (obtain ⟨x, rfl, hx⟩ := bL h
     exact⟨x,_,rfl,rfl,hx eY,trivial⟩)
theorem zS{d:Nat}{l:Bool}{k:IntKind}{a b:TE D->Int}{bc:Option Int}{e':TE D}(h:(uM D d l k a b bc).out e=some e')(hb:∀c,bc=some c->b e=c) :
  ∃x w,e'=e.set d x/\gC (if l then .shl else .shr) k (a e) (b e)=some w/\cN (get σ.env) β σ.bx d (D d) x w/\w.lone:=by
 unfold uM at h;split at h
 .rename_i c;have:=hb c rfl;split at h
  .exact(fail_out h).elim
  .rename_i hc;cases l
   .obtain⟨x,rfl,hx⟩:=bL h;exact⟨x,_,rfl,by rw[this];simp only[gC,Bool.false_eq_true,if_false];rw[if_neg hc];rfl,hx bN,trivial⟩
   .obtain⟨x,rfl,hx⟩:=bL h;exact⟨x,_,rfl,by rw[this];simp only[gC,if_true];rw[if_neg hc];rfl,hx bN,trivial⟩
 .obtain⟨v,x,h1,rfl,hx⟩:=eL h;split at h1
  .cases h1
  .rename_i hc;cases h1;cases l
   .exact⟨x,_,rfl,by simp only[gC,Bool.false_eq_true,if_false];rw[if_neg hc];rfl,hx bN,trivial⟩
   .exact⟨x,_,rfl,by simp only[gC,if_true];rw[if_neg hc];rfl,hx bN,trivial⟩
theorem aGO(h:RS X D Λ C e β σ){cs:List (Nat×Bool)}(hh:holds e cs){d:Nat}{op:BinOp}{x y:Opd}:mF X D cf Λ C e β σ t0 cs d (.bin op x y):=by
 intro ls cp e' hc hv ho;simp only[lA]at hc;split at hc
 .rename_i hr;cases hc;obtain⟨hrx,hry⟩:=nK hr
  have fin : (∃ x' w, e' = e.set d x' ∧ aGn op (ev (get σ.env) x) (ev (get σ.env) y) = some w ∧ cN (get σ.env) β σ.bx d (D d) x' w ∧ w.lone) →
      ∃x' w,e'=e.set d x'/\aB (get σ.env) t0 σ.clk σ.bx d (.bin op x y)=some w/\VOk X D β σ d [] none x' w:=fun⟨x',w,h1,h2,h3,h4⟩=>
   ⟨x',w,h1,by simp only[aB];exact h2,VOk.lone h3 h4⟩
  apply fin;simp only[dop]at ho;split at ho
  .rename_i k hk
   have shift : ∀ (l : Bool), op = (if l then .shl else .shr) → (match tyO D y with
       |some (.int k')=>match opI D x k,opI D y k' with
        |some a,some b=>uM D d l k a b (aEZ y)
        |_,_=>.fail
       |_=>.fail:OD (TE D)).out e=some e'->∃x' w,e'=e.set d x'/\aGn op (ev (get σ.env) x) (ev (get σ.env) y)=some w/\cN (get σ.env) β σ.bx d (D d) x' w/\w.lone:=by
    intro l hop ho;split at ho
    .rename_i k' hk';split at ho
     .rename_i a b ha hb;obtain⟨x',w,h1,h2,h3,h4⟩:=zS (σ:=σ) (β:=β) ho (fun c hc=>aEi hc hb);refine⟨x',w,h1,?_,h3,h4⟩;rw[h.opI hh ha hrx,h.opI hh hb hry];subst hop;cases l<;>exact h2
     .exact(fail_out ho).elim
    .exact(fail_out ho).elim
   have plain : (match opI D x k, opI D y k with
       |some a,some b=>aGx D d op k a b (aEZ y)
       |_,_=>.fail:OD (TE D)).out e=some e'->op≠.shl->op≠.shr->∃x' w,e'=e.set d x'/\aGn op (ev (get σ.env) x) (ev (get σ.env) y)=some w/\cN (get σ.env) β σ.bx d (D d) x' w/\w.lone:=by
    intro ho hn1 hn2;split at ho
    .rename_i a b ha hb;obtain⟨x',w,h1,h2,h3,h4⟩:=aDD (σ:=σ) (β:=β) ho (fun c hc=>aEi hc hb);refine⟨x',w,h1,?_,h3,h4⟩;rw[h.opI hh ha hrx,h.opI hh hb hry];simp only[aGn];cases op<;>first|exact absurd rfl hn1|exact absurd rfl hn2|(simp only[if_true];exact h2)
    .exact(fail_out ho).elim
   cases op
   case shl=>exact shift true rfl ho
   case shr=>exact shift false rfl ho
   all_goals exact plain ho (by intro q;cases q) (by intro q;cases q)
  .split at ho
   .rename_i a b ha hb;obtain⟨x',w,h1,h2,h3,h4⟩:=aDE (σ:=σ) (β:=β) ho;exact⟨x',w,h1,by rw[h.opS hh ha hrx,h.opS hh hb hry];exact h2,h3,h4⟩
   .exact(fail_out ho).elim
  .exact(fail_out ho).elim
 .cases hc
end
end Go.VM
