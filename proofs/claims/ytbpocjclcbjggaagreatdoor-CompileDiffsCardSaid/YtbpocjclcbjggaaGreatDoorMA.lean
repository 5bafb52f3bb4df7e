/- A plain machine for the translated code: values without a heap (a slice carries its contents), a deterministic evaluator. Definitions alone. -/
import Derived.WalkKit
import Derived.Deep.Slices
import Derived.ChangeKeysEq
namespace Go.VM
inductive Lab where
 |none
 |own (nm k:Nat)
 |pre (nm k:Nat)
 |view (nm:Nat)
 |rv (s c v:Nat)
 |arg (i:Nat)
 deriving DecidableEq
inductive V where
 |undef
 |bool (b:Bool)
 |int (k:IntKind) (n:Int)
 |str (s:List UInt8)
 |nilp
 |nilf
 |nili
 |nils
 |sl (l:Lab) (z n:Nat) (cs:List V)
 |ep (l:Lab) (cs:List V) (off:Nat)
 |rp (s c off:Nat)
 |bp (b off:Nat)
 |reg (c v:Nat) (cs:List V)
 |agg (cs:List V)
 |tup (vs:List V)
 |fn (f:Fn) (first cap:List V)
 |iface (t:TypeId) (v:V)
instance:Inhabited V:=⟨.undef⟩
inductive Opd where
 |tmp (t:Nat)
 |const (v:V)
inductive RT where
 |r (s:Nat)
 |b
 |e (av:List Nat)
 deriving DecidableEq
inductive CK where
 |i
 |b
 |s
 deriving DecidableEq
inductive EK where
 |bool
 |sl
 |ptr
 |fn
 |iface
 |flat (ks:List CK)
 deriving DecidableEq
inductive VOp where
 |mv (x:Opd)
 |pick (c a b:Opd)
 |allocR (zs:List V)
 |boxR (sz:Nat) (x:Opd)
 |allocB (zs:List V)
 |boxB (sz:Nat) (x:Opd)
 |build (zs:List V) (parts:List (Nat×Nat×Opd))
 |bslice (lky:Bool) (z n:Nat) (zs:List V) (parts:List (Nat×Nat×Opd))
 |load (rt:RT) (agg:Bool) (sz:Nat) (a:Opd)
 |store (rt:RT) (sz:Nat) (a x:Opd)
 |nilck (x:Opd)
 |bin (op:BinOp) (x y:Opd)
 |eq (neq:Bool) (k:EK) (x y:Opd)
 |unop (op:UnOp) (x:Opd)
 |convI (k:IntKind) (x:Opd)
 |convS (x:Opd)
 |toStr (x:Opd) (av:List Nat)
 |toBytes (x:Opd)
 |fieldA (off:Nat) (x:Opd)
 |field (agg:Bool) (off sz:Nat) (x:Opd)
 |idxS (z:Nat) (x i:Opd)
 |idxA (len z:Nat) (x i:Opd)
 |ixA (agg:Bool) (len z:Nat) (x i:Opd)
 |ixS (x i:Opd)
 |cutS (x:Opd) (lo hi:Option Opd)
 |cut (z:Nat) (x:Opd) (lo hi:Option Opd)
 |cutR (s len z:Nat) (x:Opd) (lo hi:Option Opd)
 |mkslice (z bytes:Nat) (zs:List V) (l c:Opd)
 |append (z bytes:Nat) (cut:Bool) (zs:List V) (s x:Opd) (av:List Nat)
 |len (st:Bool) (x:Opd)
 |lenC (n:Nat)
 |extract (i:Nat) (x:Opd)
 |arrptr (n z:Nat) (x:Opd)
 |call (f:Nat) (args:List Opd) (q:Bool) (av:List Nat)
 |callv (x:Opd) (args:List Opd) (q:Bool) (av:List Nat)
 |fail
 |mkfn (f:Fn) (first cap:List Opd)
 |mkiface (t:TypeId) (x:Opd)
 |minmax (mx:Bool) (x:Opd) (args:List Opd)
structure VOper where
 dst:Option Nat
 op:VOp
 guard:Option (Nat×Bool)
inductive VC where
 |skip
 |region (ops:List VOper)
 |seq (a b:VC)
 |cond (c:Opd) (a b:VC)
 |block (id:Nat) (body:VC)
 |loop (body:VC)
 |exit (id:Nat)
 |scope (body:VC)
 |ret
inductive RV where
 |tmp (t:Nat)
 |cell (agg:Bool) (sz t:Nat)
structure VF where
 kept:List Nat
 cons:List Nat
 quiet:Bool
 code:VC
 res:List RV
structure Sig where
 cons:List Nat
 quiet:Bool
abbrev Env:=List (Nat×V)
abbrev BX:=List (List V)
structure St where
 clk:Nat
 env:Env
 tips:Nat->Nat
 lk:Nat->Bool
 bx:BX
inductive Ex where
 |nrm
 |exit (id:Nat)
 |ret
def get:Env->Nat->V
 |[],_=>.undef
 |(a,v)::r,s=>if a=s then v else get r s
def set:Env->Nat->V->Env
 |[],s,v=>[(s,v)]
 |(a,u)::r,s,v=>if a=s then(a,v)::r else(a,u)::set r s v
def upd{α:Type}(f:Nat->α)(a:Nat)(v:α):Nat->α:=fun b=>if b=a then v else f b
def fB{α:Type}(f:Nat->α)(v:α):List Nat->Nat->α
 |[]=>f
 |a::r=>upd (fB f v r) a v
def bump(tips:Nat->Nat):List Nat->Nat->Nat
 |[]=>tips
 |nm::r=>upd (bump tips r) nm (bump tips r nm+1)
def aQ(d i:Nat):Nat:=d*64+64+i
def ev(e:Nat->V):Opd->V
 |.tmp t=>match e t with
  |.reg c _ _=>.rp t c 0
  |v=>v
 |.const v=>v
def V.ok1:V->Bool
 |.undef=>false
 |.rp ..|.reg ..|.tup _|.agg _=>false
 |.sl (.rv ..) ..|.ep (.rv ..) ..|.sl (.arg _) ..|.ep (.arg _) ..=>false
 |_=>true
def V.ok:V->Bool
 |.agg cs=>cs.all V.ok1
 |v=>v.ok1
def V.cells:V->List V
 |.agg cs=>cs
 |v=>[v]
def nU(agg:Bool)(cs:List V):Option V:=
 if agg then some (.agg cs)else match cs with
  |[v]=>if v.ok1 then some v else none
  |_=>none
def part(agg:Bool)(off sz:Nat)(cs:List V):Option V:=
 if off+sz<=cs.length then nU agg ((cs.drop off).take sz)else none
def splice(cs:List V)(off:Nat)(xs:List V):List V:=cs.take off++xs++cs.drop (off+xs.length)
def fits(v:V)(sz off len:Nat):Bool:=v.ok&&v.cells.length==sz&&decide (off+sz<=len)
def fill(e:Nat->V):List V->List (Nat×Nat×Opd)->Option (List V)
 |cs,[]=>some cs
 |cs,(off,sz,x)::r=>if fits (ev e x) sz off cs.length then fill e (splice cs off (ev e x).cells) r else none
def vG(op:BinOp)(k:IntKind)(a b:Int):Option V:=
 match op with
 |.add=>some (.int k (k.wrap (a+b)))
 |.sub=>some (.int k (k.wrap (a-b)))
 |.mul=>some (.int k (k.wrap (a*b)))
 |.quo=>if b=0 then none else some (.int k (k.wrap (a.tdiv b)))
 |.rem=>if b=0 then none else some (.int k (a.tmod b))
 |.and=>some (.int k (bits .and k a b))
 |.or=>some (.int k (bits .or k a b))
 |.xor=>some (.int k (bits .xor k a b))
 |.andNot=>some (.int k (bits .andNot k a b))
 |.eql=>some (.bool (a==b))
 |.neq=>some (.bool (a != b))
 |.lss=>some (.bool (decide (a<b)))
 |.leq=>some (.bool (decide (a<=b)))
 |.gtr=>some (.bool (decide (a>b)))
 |.geq=>some (.bool (decide (a>=b)))
 |_=>none
def gC(op:BinOp)(k:IntKind)(a y:Int):Option V:=
 if y<0 then none else
 match op with
 |.shl=>some (.int k (k.wrap (a*2^(min y.toNat k.bits))))
 |.shr=>some (.int k (a.fdiv (2^(min y.toNat k.bits))))
 |_=>none
def aCI(op:BinOp)(x y:List UInt8):Option V:=
 match op with
 |.add=>if x.length+y.length<=9223372036854775807 then some (.str (x++y))else none
 |.eql=>some (.bool (x==y))
 |.neq=>some (.bool (!(x==y)))
 |.lss=>some (.bool (Op.bytesLess x y))
 |.leq=>some (.bool (Op.bytesLess x y||x==y))
 |.gtr=>some (.bool (!(Op.bytesLess x y||x==y)))
 |.geq=>some (.bool (!(Op.bytesLess x y)))
 |_=>none
def gD:CK->V->V->Option Bool
 |.i,.int k a,.int k' b=>if k=k' then some (a==b)else none
 |.b,.bool a,.bool b=>some (a==b)
 |.s,.str a,.str b=>some (a==b)
 |_,_,_=>none
def aZ:List CK->List V->List V->Option Bool
 |[],[],[]=>some true
 |k::ks,x::xs,y::ys=>match gD k x y,aZ ks xs ys with
  |some a,some b=>some (a&&b)
  |_,_=>none
 |_,_,_=>none
def eqV:EK->V->V->Option Bool
 |.bool,.bool a,.bool b=>some (a==b)
 |.flat ks,.agg xs,.agg ys=>aZ ks xs ys
 |.sl,.nils,.nils=>some true
 |.sl,.nils,.sl ..=>some false
 |.sl,.sl ..,.nils=>some false
 |.ptr,.nilp,.nilp=>some true
 |.ptr,.nilp,.bp ..=>some false
 |.ptr,.bp ..,.nilp=>some false
 |.ptr,.nilp,.ep ..=>some false
 |.ptr,.ep ..,.nilp=>some false
 |.ptr,.nilp,.rp ..=>some false
 |.ptr,.rp ..,.nilp=>some false
 |.iface,.nili,.nili=>some true
 |.iface,.nili,.iface ..=>some false
 |.iface,.iface ..,.nili=>some false
 |.fn,.nilf,.nilf=>some true
 |.fn,.nilf,.fn ..=>some false
 |.fn,.fn ..,.nilf=>some false
 |_,_,_=>none
def aGn(op:BinOp)(x y:V):Option V:=
 match x,y with
 |.int k a,.int k' b=>match op with
  |.shl=>gC .shl k a b
  |.shr=>gC .shr k a b
  |op=>if k=k' then vG op k a b else none
 |.str a,.str b=>aCI op a b
 |_,_=>none
def unV(op:UnOp)(x:V):Option V:=
 match op,x with
 |.neg,.int k n=>some (.int k (k.wrap (0-n)))
 |.xor,.int k n=>some (.int k (bits .xor k (if k.signed then -1 else k.max) n))
 |.not,.bool b=>some (.bool (!b))
 |_,_=>none
def aAV:V->Option UInt8
 |.int .u8 n=>some (UInt8.ofNat n.toNat)
 |_=>none
def gR:List V->Option (List UInt8)
 |[]=>some []
 |v::r=>match aAV v,gR r with
  |some b,some l=>some (b::l)
  |_,_=>none
def gS(s:List UInt8):List V:=s.map fun c=>.int .u8 (c.toNat:Int)
def mH(x:Option Opd)(e:Nat->V)(lim dflt:Nat):Option Nat:=
 match x with
 |none=>some dflt
 |some o=>match ev e o with
  |.int _ i=>if 0<=i/\i<=(lim:Int)then some i.toNat else none
  |_=>none
def dV(lo hi:Option Opd)(e:Nat->V)(n:Nat):Option (Nat×Nat):=
 match mH hi e n n with
 |none=>none
 |some h=>match mH lo e h 0 with
  |none=>none
  |some l=>some (l,h)
def cC(l:Nat):Lab->Lab
 |.own nm k=>if l=0 then .pre nm k else .view nm
 |.pre nm k=>if l=0 then .pre nm k else .view nm
 |lb=>lb
def dP(mx:Bool):V->List V->Option V
 |x,[]=>some x
 |.int k x,.int k' y::r=>if k=k' then dP mx (.int k (if mx then(if y>x then y else x)else(if y<x then y else x))) r else none
 |_,_=>none
def V.mapLab1(g:Lab->Lab):V->V
 |.sl l z n cs=>.sl (g l) z n cs
 |.ep l cs off=>.ep (g l) cs off
 |v=>v
def V.mapLab(g:Lab->Lab):V->V
 |.agg cs=>.agg (cs.map (V.mapLab1 g))
 |v=>v.mapLab1 g
def V.bare(v:V):V:=v.mapLab fun _=>.none
def Lab.names:Lab->List Nat
 |.own nm _=>[nm]
 |.pre nm _=>[nm]
 |.view nm=>[nm]
 |.arg i=>[i]
 |_=>[]
mutual
def V.names:V->List Nat
 |.sl l _ _ _=>l.names
 |.ep l _ _=>l.names
 |.agg cs=>aC cs
 |.tup cs=>aC cs
 |.reg _ _ cs=>aC cs
 |_=>[]
def aC:List V->List Nat
 |[]=>[]
 |v::r=>v.names++aC r
end
def Lab.live(e:Nat->V):Lab->Bool
 |.rv s c v=>match e s with
  |.reg c' v' _=>c==c'&&v==v'
  |_=>false
 |_=>true
def Lab.free(e:Nat->V)(av:List Nat)(l:Lab):Bool:=
 l.live e&&(match l with
  |.rv s _ _=>!av.contains s
  |_=>true)
def aB(e:Nat->V)(t0:Nat->Nat)(clk:Nat)(bx:BX)(d:Nat):VOp->Option V
 |.mv x=>match ev e x with
  |.undef=>none
  |.reg ..=>none
  |v=>some v
 |.pick c a b=>match ev e c with
  |.bool t=>if(if t then ev e a else ev e b).ok then some (if t then ev e a else ev e b)else none
  |_=>none
 |.allocR zs=>some (.reg clk 0 zs)
 |.boxR sz x=>if fits (ev e x) sz 0 sz then some (.reg clk 0 (ev e x).cells)else none
 |.build zs parts=>(fill e zs parts).map .agg
 |.bslice false z n zs parts=>match fill e ((List.replicate n zs).flatten) parts with
  |some cs=>if 0<z/\cs.length=n*z/\aC cs=[]then some (.sl (.own (aQ d 0) (t0 (aQ d 0))) z n cs)else none
  |none=>none
 |.mkslice z bytes zs l c=>match ev e l,ev e c with
  |.int .i64 l,.int .i64 c=>
   if 0<z/\zs.length=z/\0<=l/\l<=c/\(bytes:Int)*c<=281474976710656/\c<=9223372036854775807 then
    some (.sl (.own (aQ d 0) (t0 (aQ d 0))) z l.toNat ((List.replicate l.toNat zs).flatten))
   else none
  |_,_=>none
 |.toBytes x=>match ev e x with
  |.str b=>if b.length<=9223372036854775807 then some (.sl (.own (aQ d 0) (t0 (aQ d 0))) 1 b.length (gS b))else none
  |_=>none
 | .mkfn f first cap => if (first.map (ev e) ++ cap.map (ev e)).all V.ok1 ∧ aC (first.map (ev e)) = [] ∧ aC (cap.map (ev e)) = [] then
     some (.fn f (first.map (ev e)) (cap.map (ev e)))else none
 |.mkiface t x=>if(ev e x).ok/\(ev e x).names=[]then some (.iface t (ev e x))else none
 |.load (.r s) agg sz a=>match ev e a with
  |.rp s' c off=>match e s with
   |.reg c' _ cs=>if s=s'/\c=c' then part agg off sz cs else none
   |_=>none
  |_=>none
 |.load .b agg sz a=>match ev e a with
  |.bp b off=>match bx[b]? with
   |some cs=>part agg off sz cs
   |none=>none
  |_=>none
 |.load (.e av) agg sz a=>match ev e a with
  |.ep l cs off=>if l.free e av then part agg off sz cs else none
  |_=>none
 |.nilck x=>match ev e x with
  |.rp s c off=>some (.rp s c off)
  |.ep l cs off=>some (.ep l cs off)
  |.bp b off=>some (.bp b off)
  |.fn (.func f) a b=>some (.fn (.func f) a b)
  |_=>none
 |.bin op x y=>aGn op (ev e x) (ev e y)
 |.eq neq k x y=>(eqV k (ev e x) (ev e y)).map fun b=>.bool (neq != b)
 |.unop op x=>unV op (ev e x)
 |.convI k x=>match ev e x with
  |.int _ n=>some (.int k (k.wrap n))
  |_=>none
 |.convS x=>match ev e x with
  |.str s=>some (.str s)
  |_=>none
 |.toStr x av=>match ev e x with
  |.nils=>some (.str [])
  |.sl l 1 _ cs=>if l.free e av then(gR cs).map .str else none
  |_=>none
 |.fieldA off x=>match ev e x with
  |.rp s c o=>some (.rp s c (o+off))
  |.ep l cs o=>some (.ep l cs (o+off))
  |.bp b o=>some (.bp b (o+off))
  |_=>none
 |.field agg off sz x=>match ev e x with
  |.agg cs=>part agg off sz cs
  |_=>none
 |.idxS z x i=>match ev e x,ev e i with
  |.sl l z' n cs,.int _ i=>if z=z'/\0<=i/\i<(n:Int)then some (.ep l cs (i.toNat*z))else none
  |_,_=>none
 |.idxA len z x i=>match ev e x,ev e i with
  |.rp s c off,.int _ i=>if 0<=i/\i<(len:Int)then some (.rp s c (off+i.toNat*z))else none
  |.ep l cs off,.int _ i=>if 0<=i/\i<(len:Int)then some (.ep l cs (off+i.toNat*z))else none
  |.bp b off,.int _ i=>if 0<=i/\i<(len:Int)then some (.bp b (off+i.toNat*z))else none
  |_,_=>none
 |.ixA agg len z x i=>match ev e x,ev e i with
  |.agg cs,.int _ i=>if 0<=i/\i<(len:Int)then part agg (i.toNat*z) z cs else none
  |_,_=>none
 |.ixS x i=>match ev e x,ev e i with
  |.str s,.int _ i=>if 0<=i then(s[i.toNat]?).map fun b=>.int .u8 (b.toNat:Int)else none
  |_,_=>none
 |.cutS x lo hi=>match ev e x with
  |.str s=>match dV lo hi e s.length with
   |some (l,h)=>some (.str ((s.take h).drop l))
   |none=>none
  |_=>none
 |.cut z x lo hi=>match ev e x with
  |.nils=>match dV lo hi e 0 with
   |some _=>some .nils
   |none=>none
  |.sl lb z' n cs=>match dV lo hi e n with
   |some (l,h)=>if z=z' then some (.sl (cC l lb) z (h-l) ((cs.take (h*z)).drop (l*z)))else none
   |none=>none
  |_=>none
 |.cutR s len z x lo hi=>match ev e x with
  |.rp s' c off=>match e s,dV lo hi e len with
   |.reg c' v cs,some (l,h)=>if s=s'/\c=c'/\off+len*z<=cs.length/\0<z/\aC cs=[]then some (.sl (.rv s c v) z (h-l) (((cs.drop off).take (h*z)).drop (l*z)))else none
   |_,_=>none
  |_=>none
 |.len true x=>match ev e x with
  |.str s=>some (.int .i64 (s.length:Int))
  |_=>none
 |.len false x=>match ev e x with
  |.sl _ _ n _=>some (.int .i64 (n:Int))
  |.nils=>some (.int .i64 0)
  |_=>none
 |.lenC n=>some (.int .i64 (n:Int))
 |.extract i x=>match ev e x with
  |.tup vs=>match vs[i]? with
   |some v=>if v.ok then some v else none
   |none=>none
  |_=>none
 |.arrptr n z x=>match ev e x with
  |.sl l z' m cs=>if z=z'/\n<=m then some (.ep l cs 0)else none
  |_=>none
 |.minmax mx x args=>match dP mx (ev e x) (args.map (ev e))with
  |some (.reg ..)=>none
  |r=>r
 |_=>none
def V.plain1:V->Bool
 |.bool _|.int ..|.str _|.nilp|.nilf|.nili|.nils=>true
 |_=>false
def V.plain:V->Bool
 |.agg cs=>cs.all V.plain1
 |v=>v.plain1
def aM(tips:Nat->Nat)(lk:Nat->Bool)(all:List Nat):Lab->Lab
 |.own nm k=>if k=tips nm/\all.count nm=1 then(if nm<64 then .arg nm else .own nm (if lk nm then 1 else 0))else .none
 |_=>.none
def number1(i:Nat):V->V×Nat
 |.sl (.own _ f) z n cs=>(.sl (.own i f) z n cs,i+1)
 |v=>(v,i)
def bA(i:Nat):List V->List V×Nat
 |[]=>([],i)
 |v::r=>((number1 i v).1::(bA (number1 i v).2 r).1,(bA (number1 i v).2 r).2)
def gT(i:Nat):V->V×Nat
 |.agg cs=>(.agg (bA i cs).1,(bA i cs).2)
 |v=>number1 i v
def bQ(i:Nat):List V->List V
 |[]=>[]
 |v::r=>(gT i v).1::bQ (gT i v).2 r
def dB(e:Nat->V):List RV->Option (List V)
 |[]=>some []
 |.tmp t::r=>if(ev e (.tmp t)).ok then(dB e r).map (ev e (.tmp t)::·)else none
 |.cell agg sz t::r=>match e t with
  |.reg _ _ cs=>match part agg 0 sz cs with
   |some v=>if v.ok then(dB e r).map (v::·)else none
   |none=>none
  |_=>none
def dJ(tips:Nat->Nat)(lk:Nat->Bool)(vs:List V):List V:=
 bQ 0 (vs.map (V.mapLab (aM tips lk (aC vs))))
def packed:List V->V
 |[v]=>v
 |vs=>.tup vs
def V.results:V->List V
 |.tup vs=>vs
 |v=>[v]
def iR(vs:List V)(i:Nat):Nat:=
 match vs[i]? with
 |some (.sl (.own nm _) _ _ _)=>nm
 |_=>0
def Lab.news:Lab->List Nat
 |.own i _=>[i]
 |_=>[]
def V.news1:V->List Nat
 |.sl l _ _ _=>l.news
 |.ep l _ _=>l.news
 |_=>[]
def V.news:V->List Nat
 |.agg cs=>cs.flatMap V.news1
 |v=>v.news1
def newsOf(rs:List V):List Nat:=rs.flatMap V.news
def aX(d:Nat)(rs:List V):List Nat:=(newsOf rs).map (aQ d ·)
def Lab.shared:Lab->List Nat
 |.own i 1=>[i]
 |_=>[]
def V.shared1:V->List Nat
 |.sl l _ _ _=>l.shared
 |_=>[]
def V.shared:V->List Nat
 |.agg cs=>cs.flatMap V.shared1
 |v=>v.shared1
def fH(d:Nat)(tips:Nat->Nat)(vs:List V):Lab->Lab
 |.own i _=>.own (aQ d i) (tips (aQ d i))
 |.arg i=>.own (iR vs i) (tips (iR vs i))
 |_=>.none
def cZ(cons:List Nat)(i:Nat):V->V
 |.sl (.own _ _) z n cs=>if cons.contains i then .sl (.own i 0) z n cs else .sl .none z n cs
 |v=>v.bare
def aI(cons:List Nat):Nat->List V->List V
 |_,[]=>[]
 |i,v::r=>cZ cons i v::aI cons (i+1) r
def jO(tips:Nat->Nat)(cons:List Nat)(i:Nat):V->Bool
 |.sl (.own nm k) _ _ _=>!cons.contains i||k==tips nm
 |_=>true
def eC(tips:Nat->Nat)(cons:List Nat):Nat->List V->Bool
 |_,[]=>true
 |i,v::r=>jO tips cons i v&&eC tips cons (i+1) r
def dA(cons:List Nat)(i:Nat):V->List Nat
 |.sl (.own nm _) _ _ _=>if cons.contains i then[nm]else[]
 |_=>[]
def aD(cons:List Nat):Nat->List V->List Nat
 |_,[]=>[]
 |i,v::r=>dA cons i v++aD cons (i+1) r
def hit(nm k:Nat)(cs':List V):V->V
 |.sl l z n cs=>if nm∈l.names then(if l=.own nm k then .sl l z n cs' else .undef)else .sl l z n cs
 |.ep l cs off=>if nm∈l.names then(if l=.own nm k then .ep l cs' off else .undef)else .ep l cs off
 |v=>if nm∈v.names then .undef else v
def iO(nm k:Nat)(cs':List V):V->V
 |.reg c v cs=>.reg c v (cs.map (hit nm k cs'))
 |.agg cs=>.agg (cs.map (hit nm k cs'))
 |.tup vs=>if nm∈aC vs then .undef else .tup vs
 |v=>hit nm k cs' v
def bY(nm k:Nat)(cs':List V)(e:Env):Env:=e.map fun x=>(x.1,iO nm k cs' x.2)
mutual
def V.noBox:V->Bool
 |.bp ..=>false
 |.sl _ _ _ cs=>bO cs
 |.ep _ cs _=>bO cs
 |.reg _ _ cs=>bO cs
 |.agg cs=>bO cs
 |.tup cs=>bO cs
 |.fn _ a b=>bO a&&bO b
 |.iface _ v=>v.noBox
 |_=>true
def bO:List V->Bool
 |[]=>true
 |v::r=>v.noBox&&bO r
end
abbrev cO:=Nat->List V->BX->Option (V×BX)
def tC(e:Nat->V)(av:List Nat):V->Bool
 |.sl (.rv s c v) _ _ _=>(Lab.rv s c v).free e av
 |v=>v.ok
def aD5:V->Bool
 |.sl (.rv ..) ..=>true
 |_=>false
def aGo(bx:BX):Bool:=bx.all fun cs=>cs.all V.plain1
def qH(rs:List V)(bx:BX):Bool:=rs.all V.plain&&aGo bx
def Lab.gone:Lab->List Nat
 |.arg i=>[i]
 |_=>[]
def V.gone1:V->List Nat
 |.sl l _ _ _=>l.gone
 |.ep l _ _=>l.gone
 |_=>[]
def V.gone:V->List Nat
 |.agg cs=>cs.flatMap V.gone1
 |v=>v.gone1
def fL(vs:List V)(i:Nat):Option Nat:=
 match vs[i]? with
 |some (.sl (.own nm _) _ _ _)=>some nm
 |_=>none
def pC(cons:List Nat)(vs:List V)(fresh:List Nat)(rs:List V):Bool:=
 (rs.flatMap V.gone).all fun i=>cons.contains i&&(match fL vs i with
  |some nm=>!fresh.contains nm
  |none=>false)
def aT(σ:St)(used:List Nat)(vs:List V)(d:Nat)(r:V)(bx:BX):St:=
 let rs:=r.results;let fresh:=aX d rs;let tips:=bump (bump σ.tips used) fresh;let lk0:=if qH rs bx then σ.lk else fB σ.lk true (aC vs)
 let lk:=fB (fB lk0 false fresh) true ((rs.flatMap V.shared).map (aQ d ·)++used)
 {clk:=σ.clk,env:=set σ.env d (packed (rs.map (V.mapLab (fH d tips vs)))),tips,lk,bx}
def mI(cf:cO)(sg:Nat->Sig)(σ:St)(d:Option Nat)(f:Nat)(vs:List V)(q:Bool)(av:List Nat):Option St:=
 match d with
 |none=>none
 |some d=>
  if vs.length<=64/\vs.all (tC (get σ.env) av)/\eC σ.tips (sg f).cons 0 vs/\(aD (sg f).cons 0 vs).Nodup/\(q=true->(sg f).quiet=true)then
   match cf f (aI (sg f).cons 0 vs) σ.bx with
   |none=>none
   |some (r,bx)=>
    if(qH r.results bx\/¬vs.any aD5)/\(newsOf r.results).all (·<64)/\pC (sg f).cons vs (aX d r.results) r.results/\(q=true->bx.length=σ.bx.length)then some (aT σ (aD (sg f).cons 0 vs) vs d r bx)else none
  else none
def tD(cf:cO)(sg:Nat->Sig)(σ:St)(d:Option Nat)(f:Nat)(vs:List V)(av:List Nat):Option St:=
 match d with
 |none=>none
 |some d=>
  if vs.length<=64/\vs.all (tC (get σ.env) av)/\eC σ.tips (sg f).cons 0 vs/\aD (sg f).cons 0 vs=[]/\vs.all V.noBox=true then
   match cf f (aI (sg f).cons 0 vs) []with
   |none=>none
   |some (r,_)=>if r.results.all V.plain=true then some {σ with env:=set σ.env d (packed r.results)}else none
  else none
def pv(av:List Nat):Bool:=av.contains 4095
def eQ(cf:cO)(sg:Nat->Sig)(σ:St)(d:Option Nat)(f:Nat)(vs:List V)(q:Bool)(av:List Nat):Option St:=
 if vs.any aD5=true\/pv av=true then tD cf sg σ d f vs av else mI cf sg σ d f vs q av
def append2(σ:St)(d bytes:Nat)(cut:Bool)(z:Nat)(s:V)(m:Nat)(news:List V):Option St:=
 match s with
 | .nils => if m * bytes ≤ 140737488355328 ∧ m ≤ 9223372036854775807 ∧ 0 < z then
     (if m=0 then some {σ with env:=set σ.env d .nils}
      else some {σ with env:=set σ.env d (.sl (.own (aQ d 0) (σ.tips (aQ d 0)+1)) z m news),tips:=upd σ.tips (aQ d 0) (σ.tips (aQ d 0)+1),lk:=upd σ.lk (aQ d 0) false})
     else none
 |.sl (.own nm k) z' n cs=>
  if z=z'/\k=σ.tips nm/\(n+m)*bytes<=140737488355328/\n+m<=9223372036854775807 then
   some {σ with env:=set σ.env d (.sl (.own nm (k+1)) z (n+m) (cs++news)),tips:=upd σ.tips nm (k+1)}
  else none
 |.sl (.pre nm k) z' n cs=>
  if cut=true/\z=z'/\k=σ.tips nm/\σ.lk nm=false/\(n+m)*bytes<=140737488355328/\n+m<=9223372036854775807 then
   some {σ with env:=set (bY nm (k+1) [] σ.env) d (.sl (.own nm (k+1)) z (n+m) (cs++news)),tips:=upd σ.tips nm (k+1)}
  else none
 |_=>none
def jP(e:Nat->V)(av:List Nat)(z:Nat):V->Option (Nat×List V)
 |.nils=>some (0,[])
 |.sl l z' m cs=>if z=z'/\l.free e av then some (m,cs)else none
 |.str b=>if z=1 then some (b.length,gS b)else none
 |_=>none
def iS(e:Nat->V)(av:List Nat)(z:Nat)(zs:List V)(v:V):Option (Nat×List V):=match zs with
 |[]=>jP e av z v
 |u::r=>match v with
  |.int .i64 n=>if 0<=n/\(u::r).length=z then some (n.toNat,(List.replicate n.toNat (u::r)).flatten)else none
  |_=>none
def storeAt(σ:St)(rt:RT)(sz:Nat)(a v:V):Option St:=
 match rt,a with
 |.r s,.rp s' c off=>match get σ.env s with
  |.reg c' n cs=>if s=s'/\c=c'/\fits v sz off cs.length then some {σ with env:=set σ.env s (.reg c (n+1) (splice cs off v.cells))}else none
  |_=>none
 |.b,.bp b off=>match σ.bx[b]? with
  |some cs=>if fits v sz off cs.length then some {σ with bx:=σ.bx.set b (splice cs off v.bare.cells),lk:=fB σ.lk true v.names}else none
  |none=>none
 |.e _,.ep (.own nm k) cs off=>
  if k=σ.tips nm/\σ.lk nm=false/\nm∉v.names/\fits v sz off cs.length then
   some {σ with env:=bY nm k (splice cs off v.bare.cells) σ.env,lk:=fB σ.lk true v.names}
  else none
 |_,_=>none
def fI(e:Nat->V):Option (Nat×Bool)->Option Bool
 |none=>some true
 |some (s,want)=>match e s with
  |.bool b=>some (b==want)
  |.tup []=>some false
  |_=>none
def aU(cf:cO)(sg:Nat->Sig)(σ:St)(t0:Nat->Nat)(d:Option Nat):VOp->Option St
 |.store rt sz a x=>match d with
  |none=>storeAt σ rt sz (ev (get σ.env) a) (ev (get σ.env) x)
  |some _=>none
 |.call f args q av=>eQ cf sg σ d f (args.map (ev (get σ.env))) q av
 |.callv x args q av=>match ev (get σ.env) x with
  |.fn (.func f) first cap=>eQ cf sg σ d f (first++args.map (ev (get σ.env))++cap) q av
  |_=>none
 |.allocB zs=>match d with
  |some d=>some {σ with env:=set σ.env d (.bp σ.bx.length 0),bx:=σ.bx++[zs]}
  |none=>none
 |.boxB sz x=>match d with
  | some d => if fits (ev (get σ.env) x) sz 0 sz then
      some {σ with env:=set σ.env d (.bp σ.bx.length 0),bx:=σ.bx++[(ev (get σ.env) x).bare.cells],lk:=fB σ.lk true (ev (get σ.env) x).names}else none
  |none=>none
 |.bslice true z n zs parts=>match d,fill (get σ.env) ((List.replicate n zs).flatten) parts with
  |some d,some cs=>if 0<z/\cs.length=n*z/\cs.all V.ok1 then some {σ with env:=set σ.env d (.sl (.own (aQ d 0) (t0 (aQ d 0))) z n (cs.map V.bare)),lk:=fB σ.lk true (aC cs)}else none
  |_,_=>none
 |.append z bytes cut zs s x av=>match d,iS (get σ.env) av z zs (ev (get σ.env) x)with
  |some d,some (m,news)=>if news.all V.ok1/\news.length=m*z then append2 σ d bytes cut z (ev (get σ.env) s) m news else none
  |_,_=>none
 |op=>match d with
  |some d=>match aB (get σ.env) t0 σ.clk σ.bx d op with
   |some v=>some {σ with env:=set σ.env d v}
   |none=>none
  |none=>none
def aN:V->Bool
 |.reg ..=>true
 |_=>false
def xL(e:Nat->V):Option Nat->Bool
 |some d=>aN (e d)
 |none=>false
def VOp.makesR:VOp->Bool
 |.allocR _|.boxR ..=>true
 |_=>false
def bH(cf:cO)(sg:Nat->Sig)(t0:Nat->Nat)(σ:St)(o:VOper):Option St:=
 match fI (get σ.env) o.guard with
 |some true=>if xL (get σ.env) o.dst&&!o.op.makesR then none else aU cf sg σ t0 o.dst o.op
 |some false=>match o.dst with
  |some d=>if aN (get σ.env d)then none else some {σ with env:=set σ.env d (.tup [])}
  |none=>some σ
 |none=>none
def cB:List VOper->List Nat
 |[]=>[]
 |o::r=>match o.op,o.dst with
  |.bslice ..,some d=>(aQ d 0)::cB r
  |.mkslice ..,some d=>(aQ d 0)::cB r
  |.toBytes _,some d=>(aQ d 0)::cB r
  |_,_=>cB r
def eD(cf:cO)(sg:Nat->Sig)(t0:Nat->Nat):St->List VOper->Option St
 |σ,[]=>some σ
 |σ,o::r=>match bH cf sg t0 σ o with
  |some σ'=>eD cf sg t0 σ' r
  |none=>none
def iD(cf:cO)(sg:Nat->Sig)(ops:List VOper)(σ:St):Option St:=
 match eD cf sg (bump σ.tips (cB ops)) {σ with clk:=σ.clk+1,tips:=bump σ.tips (cB ops),lk:=fB σ.lk false (cB ops)} ops with
 |some τ=>some {τ with env:=τ.env.take σ.env.length}
 |none=>none
def aF3(body:St->Option (Ex×St)):Nat->St->Option (Ex×St)
 |0,_=>none
 |n+1,σ=>match body σ with
  |some (.nrm,τ)=>aF3 body n τ
  |r=>r
def exec(cf:cO)(sg:Nat->Sig)(m:Nat):VC->St->Option (Ex×St)
 |.skip,σ=>some (.nrm,σ)
 |.region ops,σ=>(iD cf sg ops σ).map fun τ=>(.nrm,τ)
 |.seq a b,σ=>match exec cf sg m a σ with
  |some (.nrm,τ)=>exec cf sg m b τ
  |r=>r
 |.cond c a b,σ=>match ev (get σ.env) c with
  |.bool true=>exec cf sg m a σ
  |.bool false=>exec cf sg m b σ
  |_=>none
 |.block id body,σ=>match exec cf sg m body σ with
  |some (.exit id',τ)=>if id'=id then some (.nrm,τ)else some (.exit id',τ)
  |r=>r
 |.loop body,σ=>aF3 (exec cf sg m body) m σ
 |.exit id,σ=>some (.exit id,σ)
 |.scope body,σ=>exec cf sg m body σ
 |.ret,σ=>some (.ret,σ)
def bX:List (List V)->Bool
 |[]=>true
 |v::r=>bO v&&bX r
def qI(vf:VF)(args:List V):Env:=vf.kept.map fun s=>(s,args.getD s .undef)
inductive Entry where
 |code (vf:VF)
 |prim (cons:List Nat) (p:List V->Option V)
 |primB (p:List V->BX->Option (V×BX))
def aAW(F:Nat->Option Entry)(f:Nat):Sig:=
 match F f with
 |some (.code vf)=>⟨vf.cons,vf.quiet⟩
 |some (.prim cons _)=>⟨cons,true⟩
 |some (.primB _)=>⟨[],false⟩
 |none=>⟨[],false⟩
def dC(n:Nat)(vs:List V)(bx:BX):BX:=
 if bx.length=n then bx else if bO vs&&bX (bx.take n)then bx.take n else bx
def start(vf:VF)(args:List V)(bx:BX):St:={clk:=0,env:=qI vf args,tips:=fun _=>0,lk:=fun nm=>decide (nm<64),bx}
def aF8(vf:VF)(n:Nat):Option (Ex×St)->Option (V×BX)
 |some (.nrm,τ)|some (.ret,τ)=>match dB (get τ.env) vf.res with
  |some vs=>some (packed (dJ τ.tips τ.lk vs),dC n (dJ τ.tips τ.lk vs) τ.bx)
  |none=>none
 |_=>none
def call(F:Nat->Option Entry):Nat->cO
 |0,_,_,_=>none
 |n+1,f,args,bx=>match F f with
  |some (.code vf)=>aF8 vf bx.length (exec (call F n) (aAW F) n vf.code (start vf args bx))
  |some (.prim _ p)=>(p args).map fun v=>(v,bx)
  |some (.primB p)=>p args bx
  |none=>none
end Go.VM
namespace Go.VM
open Go.RowKit
variable{Ω:World->Prop}
inductive Zn where
 |out
 |st (n:Nat)
 |fam (nm:Nat)
 |rg (s c:Nat)
 |bx (i:Nat)
structure Gh where
 Z:Nat->Zn
 rgB:Nat->Nat->Nat
 ver:Nat->Nat->Nat
 famB:Nat->Nat
 ext:Nat->Nat
 bxB:List Nat
 lo:Nat
def Row(w:World)(a:Addr)(xs:List Value):Prop:=∀j u,xs[j]?=some u->w.cell? (a.add j)=some u
abbrev Pl:=Lab->Addr->Nat->Nat->Nat->Nat->Prop
theorem cW{cs:List V}:aC cs=[]↔∀v∈cs,v.names=[]:=by
 induction cs with
 |nil=>simp[aC]
 |cons v r ih=>simp[aC,List.append_eq_nil_iff,ih]
theorem tS{cs:List V}{nm:Nat}:nm∈aC cs↔∃v∈cs,nm∈v.names:=by
 induction cs with
 |nil=>simp[aC]
 |cons v r ih=>simp[aC,ih]
theorem fV{cs ds:List V}(h:aC cs=[])(hs:∀v∈ds,v∈cs):aC ds=[]:=cW.2 fun v hv=>cW.1 h v (hs v hv)
theorem iE{cs:List V}(h:aC cs=[])(n m:Nat):aC ((cs.take n).drop m)=[]:=fV h fun _ hv=>List.mem_of_mem_take (List.mem_of_mem_drop hv)
theorem cT{cs ds:List V}:aC (cs++ds)=aC cs++aC ds:=by
 induction cs with
 |nil=>rfl
 |cons v r ih=>simp[aC,ih]
mutual
inductive Rel(w:World)(A:Pl)(B:List Nat):V->Value->Prop
 |undef (c:Value):Rel w A B .undef c
 |bool (b:Bool):Rel w A B (.bool b) (.bool b)
 |int (k:IntKind) (n:Int):Rel w A B (.int k n) (.int k n)
 |str (s:ByteArray):Rel w A B (.str s.data.toList) (.string s)
 |nilp:Rel w A B .nilp (.pointer none)
 |nilf:Rel w A B .nilf .nilFunc
 |nili:Rel w A B .nili .nilIface
 |nils:Rel w A B .nils (.slice none 0 0)
 |sl (l:Lab) (z n:Nat) (cs:List V) (a:Addr) (cap:Nat) (xs:List Value):A l a xs.length z n cap->0<z->xs.length=n*z->n<=cap->cap<=maxLen->Row w a xs->RelL w A B cs xs->aC cs=[]->Rel w A B (.sl l z n cs) (.slice (some a) n cap)
 |ep (l:Lab) (cs:List V) (off:Nat) (a:Addr) (z n cap:Nat) (xs:List Value):A l a xs.length z n cap->Row w a xs->RelL w A B cs xs->aC cs=[]->Rel w A B (.ep l cs off) (.pointer (some (a.add off)))
 |bp (b off blk:Nat):B[b]?=some blk->Rel w A B (.bp b off) (.pointer (some ⟨blk,off,none⟩))
 |agg (cs:List V) (xs:Array Value):RelL w A B cs xs.toList->Rel w A B (.agg cs) (.agg xs)
 |tup (cs:List V) (xs:Array Value):RelL w A B cs xs.toList->Rel w A B (.tup cs) (.tuple xs)
 |fn (f:Fn) (a b:List V) (xs ys:Array Value):RelL w A B a xs.toList->RelL w A B b ys.toList->aC a=[]->aC b=[]->Rel w A B (.fn f a b) (.func f xs ys)
 |iface (t:TypeId) (v:V) (c:Value):Rel w A B v c->v.names=[]->Rel w A B (.iface t v) (.iface t c)
inductive RelL(w:World)(A:Pl)(B:List Nat):List V->List Value->Prop
 |nil:RelL w A B [] []
 |cons (v:V) (c:Value) (vs:List V) (cs:List Value):Rel w A B v c->RelL w A B vs cs->RelL w A B (v::vs) (c::cs)
end
def aCJ(w w':World)(A A':Pl)(B B':List Nat):Prop:=
 (∀l a len z n cap,A l a len z n cap->A' l a len z n cap/\∀j,j<len->w'.cell? (a.add j)=w.cell? (a.add j))/\∀(i blk:Nat),B[i]?=some blk->B'[i]?=some blk
theorem Row.keep{w w':World}{a:Addr}{xs:List Value}(h:Row w a xs)(hk:∀j,j<xs.length->w'.cell? (a.add j)=w.cell? (a.add j)):Row w' a xs:=fun j u hu=>by
 have hj:j<xs.length:=(List.getElem?_eq_some_iff.1 hu).1;rw[hk j hj];exact h j u hu
mutual
theorem Rel.keep{w w':World}{A A':Pl}{B B':List Nat}(hk:aCJ w w' A A' B B'){v:V}{c:Value}(h:Rel w A B v c):Rel w' A' B' v c:=by
 cases h with
 |undef=>exact .undef _
 |bool=>exact .bool _
 |int=>exact .int _ _
 |str=>exact .str _
 |nilp=>exact .nilp
 |nilf=>exact .nilf
 |nili=>exact .nili
 |nils=>exact .nils
 |sl l z n cs a cap xs h1 h2 h3 h4 h5 h6 h7 h8=>exact .sl l z n cs a cap xs (hk.1 _ _ _ _ _ _ h1).1 h2 h3 h4 h5 (h6.keep (hk.1 _ _ _ _ _ _ h1).2) (RelL.keep hk h7) h8
 |ep l cs off a z n cap xs h1 h2 h3 h4=>exact .ep l cs off a z n cap xs (hk.1 _ _ _ _ _ _ h1).1 (h2.keep (hk.1 _ _ _ _ _ _ h1).2) (RelL.keep hk h3) h4
 |bp b off blk h1=>exact .bp b off blk (hk.2 _ _ h1)
 |agg cs xs h1=>exact .agg cs xs (RelL.keep hk h1)
 |tup cs xs h1=>exact .tup cs xs (RelL.keep hk h1)
 |fn f a b xs ys h1 h2 h3 h4=>exact .fn f a b xs ys (RelL.keep hk h1) (RelL.keep hk h2) h3 h4
 |iface t v c h1 h2=>exact .iface t v c (Rel.keep hk h1) h2
theorem RelL.keep{w w':World}{A A':Pl}{B B':List Nat}(hk:aCJ w w' A A' B B'){vs:List V}{cs:List Value}(h:RelL w A B vs cs):RelL w' A' B' vs cs:=by
 cases h with
 |nil=>exact .nil
 |cons v c vs cs h1 h2=>exact .cons v c vs cs (Rel.keep hk h1) (RelL.keep hk h2)
end
section
variable{w:World}{A:Pl}{B:List Nat}
theorem RelL.length{vs:List V}{cs:List Value}(h:RelL w A B vs cs):vs.length=cs.length:=by
 induction vs generalizing cs with
 |nil=>cases h;rfl
 |cons v vs ih=>cases h with|cons _ c _ cs h1 h2=>simp[ih h2]
theorem RelL.get{vs:List V}{cs:List Value}(h:RelL w A B vs cs){i:Nat}{v:V}(hv:vs[i]?=some v):∃c,cs[i]?=some c/\Rel w A B v c:=by
 induction vs generalizing cs i with
 |nil=>simp at hv
 |cons u vs ih=>
  cases h with
  |cons _ c _ cs h1 h2=>
   cases i with
   |zero=>simp at hv;subst hv;exact⟨c,rfl,h1⟩
   |succ i=>simp at hv ⊢;exact ih h2 hv
theorem RelL.of_get{vs:List V}{cs:List Value}(hl:vs.length=cs.length)(h:∀(i:Nat) v c,vs[i]?=some v->cs[i]?=some c->Rel w A B v c):RelL w A B vs cs:=by
 induction vs generalizing cs with
 |nil=>cases cs with|nil=>exact .nil|cons=>simp at hl
 |cons v vs ih=>
  cases cs with
  |nil=>simp at hl
  |cons c cs=>
   refine .cons _ _ _ _ (h 0 v c rfl rfl) (ih (by simpa using hl) fun i v' c' h1 h2=>h (i+1) v' c' (by simpa using h1) (by simpa using h2))
theorem RelL.append{vs us:List V}{cs ds:List Value}(h:RelL w A B vs cs)(k:RelL w A B us ds):RelL w A B (vs++us) (cs++ds):=by
 induction vs generalizing cs with
 |nil=>cases h;simpa using k
 |cons v vs ih=>cases h with|cons _ c _ cs h1 h2=>exact .cons _ _ _ _ h1 (ih h2)
theorem RelL.take{vs:List V}{cs:List Value}(h:RelL w A B vs cs)(n:Nat):RelL w A B (vs.take n) (cs.take n):=by
 induction vs generalizing cs n with
 |nil=>cases h;simp;exact .nil
 |cons v vs ih=>
  cases h with
  |cons _ c _ cs h1 h2=>
   cases n with
   |zero=>simp;exact .nil
   |succ n=>simp only[List.take_succ_cons];exact .cons _ _ _ _ h1 (ih h2 n)
theorem RelL.drop{vs:List V}{cs:List Value}(h:RelL w A B vs cs)(n:Nat):RelL w A B (vs.drop n) (cs.drop n):=by
 induction vs generalizing cs n with
 |nil=>cases h;simp;exact .nil
 |cons v vs ih=>
  cases h with
  |cons _ c _ cs h1 h2=>
   cases n with
   |zero=>exact .cons _ _ _ _ h1 h2
   |succ n=>simp only[List.drop_succ_cons];exact ih h2 n
theorem RelL.splice{vs us:List V}{cs ds:List Value}(h:RelL w A B vs cs)(k:RelL w A B us ds)(off:Nat) :
  RelL w A B (splice vs off us) (cs.take off++ds++cs.drop (off+ds.length)):=by
 unfold VM.splice;rw[k.length];exact((h.take off).append k).append (h.drop _)
theorem RelL.map{vs:List V}{cs:List Value}{A':Pl}(h:RelL w A B vs cs)(f:V->V)(hf:∀v c,Rel w A B v c->Rel w A' B (f v) c):RelL w A' B (vs.map f) cs:=by
 induction vs generalizing cs with
 |nil=>cases h;exact .nil
 |cons v vs ih=>cases h with|cons _ c _ cs h1 h2=>exact .cons _ _ _ _ (hf _ _ h1) (ih h2)
theorem RelL.flatten_replicate{vs:List V}{cs:List Value}(h:RelL w A B vs cs)(n:Nat):RelL w A B (List.replicate n vs).flatten (List.replicate n cs).flatten:=by
 induction n with
 |zero=>simp;exact .nil
 |succ n ih=>simp only[List.replicate_succ,List.flatten_cons];exact h.append ih
theorem Rel.cells{v:V}{c:Value}(h:Rel w A B v c)(hv:v≠.undef)(ht:∀vs,v≠.tup vs):RelL w A B v.cells c.cells.toList:=by
 cases h with
 |undef=>exact absurd rfl hv
 |agg cs xs h=>simpa[V.cells,Value.cells]using h
 |tup cs xs h=>exact absurd rfl (ht cs)
 |bool b=>exact .cons _ _ _ _ (.bool b) .nil
 |int k n=>exact .cons _ _ _ _ (.int k n) .nil
 |str s=>exact .cons _ _ _ _ (.str s) .nil
 |nilp=>exact .cons _ _ _ _ .nilp .nil
 |nilf=>exact .cons _ _ _ _ .nilf .nil
 |nili=>exact .cons _ _ _ _ .nili .nil
 |nils=>exact .cons _ _ _ _ .nils .nil
 |sl l z n cs a cap xs h1 h2 h3 h4 h5 h6 h7 h8=>exact .cons _ _ _ _ (.sl l z n cs a cap xs h1 h2 h3 h4 h5 h6 h7 h8) .nil
 |ep l cs off a z n cap xs h1 h2 h3 h4=>exact .cons _ _ _ _ (.ep l cs off a z n cap xs h1 h2 h3 h4) .nil
 |bp b off blk h=>exact .cons _ _ _ _ (.bp b off blk h) .nil
 |fn f a b xs ys h1 h2 h3 h4=>exact .cons _ _ _ _ (.fn f a b xs ys h1 h2 h3 h4) .nil
 |iface t v c h h2=>exact .cons _ _ _ _ (.iface t v c h h2) .nil
end
def qJ(G:Gh)(a:Addr)(len:Nat):Prop:=∃n,G.Z a.block=.st n/\a.off+len<=n
theorem qJ.over{G G':Gh}{a:Addr}{len:Nat}(h:qJ G a len)(hz:∀n,G.Z a.block=.st n->G'.Z a.block=.st n):qJ G' a len:=let ⟨n,h1,h2⟩:=h;⟨n,hz n h1,h2⟩
def Rd(G:Gh)(nm:Nat)(a:Addr)(len:Nat):Prop:=qJ G a len\/(G.Z a.block=.fam nm/\a.off+len<=G.ext nm)
def Fz(fr:Nat×Nat)(n:Nat):Prop:=fr.2<=fr.1\/n<=fr.1
theorem Fz.zero(n:Nat):Fz (0,0) n:=.inl (Nat.le_refl _)
theorem cb_uniq{o:Option Obj}{c c':Array Value}{e e':TypeId}(h:∃fr:Nat×Nat,o=some (.cells c e fr)/\Fz fr c.size)(h':∃fr:Nat×Nat,o=some (.cells c' e' fr)/\Fz fr c'.size):c=c':=by
 obtain⟨fr,h1,_⟩:=h;obtain⟨fr',h2,_⟩:=h';rw[h1]at h2;cases h2;rfl
def Tip(G:Gh)(w:World)(nm:Nat)(a:Addr)(z cap:Nat):Prop:=
 G.Z a.block=.fam nm/\a=⟨G.famB nm,0,none⟩/\∃cur e,(∃fr:Nat×Nat,w.heap[G.famB nm]?=some (.cells cur e fr)/\Fz fr cur.size)/\cur.size=cap*z
def At(G:Gh)(T:Nat->Nat)(lk:Nat->Bool)(w:World):Pl
 |.none,a,len,_,_,_=>len=0\/qJ G a len\/∃nm,lk nm=true/\G.Z a.block=.fam nm/\a.off+len<=G.ext nm
 |.own nm k,a,len,z,n,cap=>k<=T nm/\Rd G nm a len/\(k=T nm->Tip G w nm a z cap/\len=G.ext nm/\n*z=len)
 |.pre nm k,a,len,z,_,cap=>k<=T nm/\Rd G nm a len/\(k=T nm->Tip G w nm a z cap)
 |.view nm,a,len,_,_,_=>Rd G nm a len
 |.rv _ _ _,_,_,_,_,_=>False
 |.arg _,_,_,_,_,_=>False
def VR(G:Gh)(A:Pl)(w:World)(e:Nat->V):V->Value->Prop
 |.rp t c off,x=>x=.pointer (some ⟨G.rgB t c,off,none⟩)/\G.Z (G.rgB t c)=.rg t c
 | .sl (.rv t c v) z n cs, x => ∃ a cap, x = .slice (some a) n cap ∧ 0 < z ∧ n ≤ cap ∧ cap ≤ maxLen ∧ cs.length = n * z ∧
     G.Z a.block=.rg t c/\v<=G.ver t c/\aC cs=[]/\∀cs',e t=.reg c v cs'->∃xs,Row w a xs/\RelL w A G.bxB cs xs
 |.ep (.rv t c v) cs off,x=>∃a,x=.pointer (some (a.add off))/\G.Z a.block=.rg t c/\v<=G.ver t c/\aC cs=[]/\∀cs',e t=.reg c v cs'->∃xs,Row w a xs/\RelL w A G.bxB cs xs
 |.reg ..,_=>False
 |v,x=>Rel w A G.bxB v x
def aAX(G:Gh)(A:Pl)(w:World)(s c v:Nat)(cs:List V)(x:Value):Prop:=
 v=G.ver s c/\x=.pointer (some ⟨G.rgB s c,0,none⟩)/\G.Z (G.rgB s c)=.rg s c/\∃xs e,w.heap[G.rgB s c]?=some (.cells xs e (0,0))/\RelL w A G.bxB cs xs.toList
def fN(G:Gh)(A:Pl)(w:World)(e:Nat->V)(s:Nat):V->Value->Prop
 |.reg c v cs,x=>aAX G A w s c v cs x
 |v,x=>VR G A w e v x
def aJ8(G:Gh)(A:Pl)(w:World)(bx:BX):Prop:=
 bx.length=G.bxB.length/\∀(i:Nat) cs,bx[i]?=some cs->aC cs=[]/\∃b,G.bxB[i]?=some b/\G.Z b=.bx i/\∃xs e,w.heap[b]?=some (.cells xs e (0,0))/\RelL w A G.bxB cs xs.toList
structure GOk(Ω:World->Prop)(G:Gh)(w:World):Prop where
 lt:∀b,G.Z b≠.out->b<w.heap.size
 famU:∀b nm,G.Z b=.fam nm->b=G.famB nm
 famC:∀b nm,G.Z b=.fam nm->∃cur e,(∃fr:Nat×Nat,w.heap[b]?=some (.cells cur e fr)/\Fz fr cur.size)/\G.ext nm<=cur.size
 rgU:∀b s c,G.Z b=.rg s c->b=G.rgB s c
 low:∀b,b<G.lo->b<w.heap.size/\(G.Z b=.out\/∃n,G.Z b=.st n)
 inv:∀w':World,(∀b,b<G.lo->w'.heap[b]?=w.heap[b]?)->Ω w'
structure SR(Ω:World->Prop)(D M:Nat->Prop)(G:Gh)(σ:St)(tm:Array Value)(w:World):Prop where
 slots:∀s,fN G (At G σ.tips σ.lk w) w (get σ.env) s (get σ.env s) (tm.getD s Go.undef)
 boxes:aJ8 G (At G σ.tips σ.lk w) w σ.bx
 ok:GOk Ω G w
 shared:∀nm,nm<64->σ.lk nm=true
 clkD:∀b s c,G.Z b=.rg s c->c<σ.clk\/(c=σ.clk/\D s)
 newD:∀d,M d->¬D d->∀b,G.Z b≠.fam (aQ d 0)
structure Fr(G:Gh)(w:World)(G':Gh)(w':World):Prop where
 os:w'.os=w.os
 tape:w'.tape=w.tape
 output:w'.output=w.output
 size:w.heap.size<=w'.heap.size
 rest:∀b,b<w.heap.size->(G.Z b=.out\/∃n,G.Z b=.st n)->w'.heap[b]?=w.heap[b]?/\G'.Z b=G.Z b
 used:∀b nm,nm<64->G.Z b=.fam nm->(∀x:Addr,x.block=b->x.off<G.ext nm->w'.cell? x=w.cell? x)/\((G'.Z b=.fam nm/\G.ext nm<=G'.ext nm)\/∃n,G'.Z b=.st n/\G.ext nm<=n)
 boxes:∀(i b:Nat),G.bxB[i]?=some b->G'.bxB[i]?=some b
theorem GOk.next{G G':Gh}{w w':World}(h:GOk Ω G w)(hz:∀b,(G.Z b=.out\/∃n,G.Z b=.st n)->b<w.heap.size->b<w'.heap.size/\w'.heap[b]?=w.heap[b]?/\(G'.Z b=.out\/∃n,G'.Z b=.st n))(hl:G'.lo=G.lo) :
  (∀b,b<G'.lo->b<w'.heap.size/\(G'.Z b=.out\/∃n,G'.Z b=.st n))/\∀w'':World,(∀b,b<G'.lo->w''.heap[b]?=w'.heap[b]?)->Ω w'':=by
 rw[hl];refine⟨fun b hb=>?_,fun w'' hw=>h.inv w'' fun b hb=>?_⟩
 .obtain⟨h1,h2⟩:=h.low b hb;exact⟨(hz b h2 h1).1,(hz b h2 h1).2.2⟩
 .obtain⟨h1,h2⟩:=h.low b hb;rw[hw b hb];exact(hz b h2 h1).2.1
theorem GOk.same{G G':Gh}{w:World}(h:GOk Ω G w)(hz:∀b,G'.Z b=G.Z b)(hl:G'.lo=G.lo) :
  (∀b,b<G'.lo->b<w.heap.size/\(G'.Z b=.out\/∃n,G'.Z b=.st n))/\∀w'':World,(∀b,b<G'.lo->w''.heap[b]?=w.heap[b]?)->Ω w'':=
 h.next (fun b h1 h2=>⟨h2,rfl,by rw[hz];exact h1⟩) hl
theorem Fr.refl(G:Gh)(w:World):Fr G w G w:=⟨rfl,rfl,rfl,Nat.le_refl _,fun _ _ _=>⟨rfl,rfl⟩,fun _ _ _ h=>⟨fun _ _ _=>rfl,.inl ⟨h,Nat.le_refl _⟩⟩,fun _ _ h=>h⟩
theorem Fr.trans{G G1 G2:Gh}{w w1 w2:World}(hok:GOk Ω G w)(h:Fr G w G1 w1)(k:Fr G1 w1 G2 w2):Fr G w G2 w2:=by
 refine⟨k.os.trans h.os,k.tape.trans h.tape,k.output.trans h.output,Nat.le_trans h.size k.size,?_,?_,fun i b hb=>k.boxes i b (h.boxes i b hb)⟩
 .intro b hb hz;obtain⟨h1,h2⟩:=h.rest b hb hz;obtain⟨k1,k2⟩:=k.rest b (Nat.lt_of_lt_of_le hb h.size) (by rw[h2];exact hz);exact⟨k1.trans h1,k2.trans h2⟩
 .intro b nm hnm hz;have hlt:b<w.heap.size:=hok.lt b (by rw[hz];simp);obtain⟨h1,h2⟩:=h.used b nm hnm hz;rcases h2 with⟨h2,h3⟩|⟨n,h2,h3⟩
  .obtain⟨k1,k2⟩:=k.used b nm hnm h2;refine⟨fun x hx hj=>(k1 x hx (by omega)).trans (h1 x hx hj),?_⟩;rcases k2 with⟨k2,k3⟩|⟨n,k2,k3⟩
   .exact .inl ⟨k2,by omega⟩
   .exact .inr ⟨n,k2,by omega⟩
  .obtain⟨k1,k2⟩:=k.rest b (Nat.lt_of_lt_of_le hlt h.size) (.inr ⟨n,h2⟩);exact⟨fun x hx hj=>(World.cell?_of_block (by rw[hx];exact k1)).trans (h1 x hx hj),.inr ⟨n,k2.trans h2,h3⟩⟩
end Go.VM
namespace Go.VM
def tT:Value->Option V
 |.bool b=>some (.bool b)
 |.int k n=>some (.int k n)
 |.string s=>some (.str s.data.toList)
 |.pointer none=>some .nilp
 |.slice none 0 0=>some .nils
 |.nilFunc=>some .nilf
 |.nilIface=>some .nili
 |_=>none
def ofCells:List Value->Option (List V)
 |[]=>some []
 |c::r=>match tT c,ofCells r with
  |some v,some vs=>some (v::vs)
  |_,_=>none
def nV:Value->Option V
 |.agg cs=>(ofCells cs.toList).map .agg
 |v=>tT v
def aJ:Operand->Option Opd
 |.tmp t=>some (.tmp t)
 |.const v=>(nV v).map .const
 |.func f=>some (.const (.fn (.func f) [] []))
 |.global _=>none
def eE:List Operand->Option (List Opd)
 |[]=>some []
 |x::r=>match aJ x,eE r with
  |some y,some ys=>some (y::ys)
  |_,_=>none
def aBc:Option Operand->Option (Option Opd)
 |none=>some none
 |some x=>(aJ x).map some
def bE(P:Program)(t:TypeId):Option Nat:=(P.info? t).map (·.size)
def fC(P:Program)(t:TypeId):Option (List V):=
 match P.info? t with
 |some i=>match i.zero with
  |some z=>if z.cells.size=i.size/\0<i.size then ofCells z.cells.toList else none
  |none=>none
 |none=>none
def aggT(P:Program)(t:TypeId):Option Bool:=
 match P.underlying t with
 |some (.struct _)=>some true
 |some (.array _ _)=>some true
 |some _=>some false
 |none=>none
def xM(P:Program)(g:TypeId->Option (List CK)):List Field->Nat->Option (List CK)
 |[],_=>some []
 |f::r,off=>match g f.type,xM P g r (off+P.cellsOf f.type)with
  |some ks,some ls=>if f.name ≠ "_" /\ f.offset=off/\ks.length=P.cellsOf f.type/\0<ks.length then some (ks++ls)else none
  |_,_=>none
def aAY(P:Program):Nat->TypeId->Option (List CK)
 |0,_=>none
 |d+1,t=>match P.underlying t with
  |some .bool=>if bE P t=some 1 then some [.b]else none
  |some (.int _)=>if bE P t=some 1 then some [.i]else none
  |some .string=>if bE P t=some 1 then some [.s]else none
  |some (.struct fs)=>match xM P (aAY P d) fs.toList 0 with
   |some ks=>if P.stoodInHeld t=false/\bE P t=some ks.length then some ks else none
   |none=>none
  |some (.array n e)=>match aAY P d e with
   |some ks=>if bE P e=some ks.length/\bE P t=some (n*ks.length)/\0<ks.length then some (List.replicate n ks).flatten else none
   |none=>none
  |_=>none
def aBd(P:Program):Nat->TypeId->Bool
 |0,_=>false
 |d+1,t=>match P.underlying t with
  |some .bool=>true
  |some (.int _)=>true
  |some .string=>true
  |some (.struct fs)=>fs.toList.all fun f=>aBd P d f.type
  |some (.array _ e)=>aBd P d e
  |_=>false
structure Hints where
 esc:List Nat
 rt:List (Nat×RT)
 cut:List Nat
 quiet:List Nat
 avoid:List (Nat×List Nat)
 no:List Nat
def aF4(h:Hints):Option Nat->List Nat
 |some d=>match h.avoid.find? (·.1==d)with
  |some x=>x.2
  |none=>[]
 |none=>[]
def aJD(h:Hints):Option Nat->Bool
 |some d=>h.quiet.contains d
 |none=>false
def aJ9(h:Hints):Operand->RT
 |.tmp t=>match h.rt.find? (·.1==t)with
  |some x=>x.2
  |none=>.b
 |_=>.b
def RT.withAv(av:List Nat):RT->RT
 |.e _=>.e av
 |.r s=>.r s
 |.b=>.b
def aIJ(h:Hints)(x:Operand):Nat:=
 match aJ9 h x with
 |.r s=>s
 |_=>0
def tU(P:Program)(fs:Array Field):List (Nat×Operand)->Option (List (Nat×Nat×Opd))
 |[]=>some []
 |(i,x)::r=>match fs[i]?,aJ x,tU P fs r with
  |some f,some y,some ys=>(bE P f.type).map fun sz=>(f.offset,sz,y)::ys
  |_,_,_=>none
def jJ(z:Nat):List (Nat×Operand)->Option (List (Nat×Nat×Opd))
 |[]=>some []
 |(i,x)::r=>match aJ x,jJ z r with
  |some y,some ys=>some ((i*z,z,y)::ys)
  |_,_=>none
def mJ:Operand->Bool
 |.const _=>true
 |_=>false
def eqT(P:Program)(t:TypeId)(x y:Operand):Option EK:=
 match P.underlying t with
 |some .bool=>some .bool
 |some (.slice _)=>some .sl
 |some (.pointer _)=>some .ptr
 |some (.func _ _ _)=>some .fn
 |some (.interface _)=>if mJ x||mJ y then some .iface else none
 |some (.struct _)|some (.array _ _)=>if P.eqGuardType P.depth t=false then(aAY P 20 t).map .flat else none
 |_=>none
def aHH(P:Program)(t:TypeId):Bool:=
 match P.underlying t with
 |some (.int _)|some .string=>true
 |_=>false
def aE(P:Program)(h:Hints)(d:Option Nat):Op->Option VOp
 |.move x|.assign x=>(aJ x).map .mv
 |.pick c a b=>match aJ c,aJ a,aJ b with
  |some c,some a,some b=>some (.pick c a b)
  |_,_,_=>none
 |.alloc t=>match fC P t with
  |some zs=>if(d.map h.esc.contains).getD false then some (.allocB zs)else some (.allocR zs)
  |none=>none
 |.box t x=>match bE P t,aJ x with
  |some sz,some x=>if(d.map h.esc.contains).getD false then some (.boxB sz x)else some (.boxR sz x)
  |_,_=>none
 |.build t parts=>match fC P t,P.underlying t with
  |some zs,some (.struct fs)=>if(fs.toList.all fun f=>(P.info? f.type).isSome)=true then(tU P fs parts.toList).map (.build zs)else none
  |some zs,some (.array _ e)=>match bE P e with
   |some z=>(jJ z parts.toList).map (.build zs)
   |none=>none
  |_,_=>none
 |.buildSlice t len parts=>match P.underlying t with
  |some (.slice e)=>match bE P e,fC P e with
   |some z,some zs=>if len*z<=16777216 then(jJ z parts.toList).map (.bslice (!aBd P 20 e) z len zs)else none
   |_,_=>none
  |_=>none
 |.load t a=>match aggT P t,bE P t,aJ a with
  |some g,some sz,some y=>if 0<sz then some (.load ((aJ9 h a).withAv (aF4 h d)) g sz y)else none
  |_,_,_=>none
 |.store t a x=>match bE P t,aJ a,aJ x with
  |some sz,some y,some x=>if 0<sz then some (.store (aJ9 h a) sz y x)else none
  |_,_,_=>none
 |.nilCheck x=>(aJ x).map .nilck
 |.binOp op t x y _=>match aJ x,aJ y with
  |some u,some v=>if aHH P t then some (.bin op u v)else match op with
   |.eql=>(eqT P t x y).map fun k=>.eq false k u v
   |.neq=>(eqT P t x y).map fun k=>.eq true k u v
   |_=>none
  |_,_=>none
 |.unOp op _ x=>(aJ x).map (.unop op)
 |.convert src dst x=>match P.underlying src,P.underlying dst,aJ x with
  |some (.int _),some (.int k),some y=>some (.convI k y)
  |some .string,some .string,some y=>some (.convS y)
  |some (.slice e),some .string,some y=>match P.underlying e with
   |some (.int .u8)=>some (.toStr y (aF4 h d))
   |_=>none
  |some .string,some (.slice e),some y=>match P.underlying e with
   |some (.int .u8)=>some (.toBytes y)
   |_=>none
  |_,_,_=>none
 |.sliceToArrayPointer t x=>match P.underlying t,aJ x with
  |some (.array n e),some y=>(bE P e).map fun z=>.arrptr n z y
  |_,_=>none
 |.makeInterface t x=>match P.underlying t,aJ x with
  |some (.interface _),_=>none
  |some _,some y=>some (.mkiface t y)
  |_,_=>none
 |.makeFunc fn a b=>match eE a.toList,eE b.toList with
  |some a,some b=>some (.mkfn fn a b)
  |_,_=>none
 |.makeSlice t l c=>match P.underlying t,aJ l,aJ c with
  |some (.slice e),some l,some c=>match P.info? e,fC P e with
   |some i,some zs=>some (.mkslice i.size i.bytes zs l c)
   |_,_=>none
  |_,_,_=>none
 |.slice t x lo hi none=>match P.underlying t,aJ x,aBc lo,aBc hi with
  |some .string,some y,some lo,some hi=>some (.cutS y lo hi)
  |some (.slice e),some y,some lo,some hi=>(bE P e).map fun z=>.cut z y lo hi
  |some (.array n e),some y,some lo,some hi=>if n<=maxLen then(bE P e).map fun z=>.cutR (aIJ h x) n z y lo hi else none
  |_,_,_,_=>none
 |.fieldAddr t x f=>match P.underlying t,aJ x with
  |some (.struct fs),some y=>match fs[f]? with
   |some g=>match bE P g.type with
    |some sz=>if 0<sz then some (.fieldA g.offset y)else none
    |none=>none
   |none=>none
  |_,_=>none
 |.field t x f=>match P.underlying t,aJ x with
  |some (.struct fs),some y=>match fs[f]? with
   |some g=>match aggT P g.type,bE P g.type with
    |some a,some sz=>some (.field a g.offset sz y)
    |_,_=>none
   |none=>none
  |_,_=>none
 |.indexAddr t x i=>match P.underlying t,aJ x,aJ i with
  |some (.slice e),some y,some j=>(bE P e).map fun z=>.idxS z y j
  |some (.array n e),some y,some j=>(bE P e).map fun z=>.idxA n z y j
  |_,_,_=>none
 |.index t x i=>match P.underlying t,aJ x,aJ i with
  |some (.array n e),some y,some j=>match aggT P e,bE P e with
   |some a,some z=>some (.ixA a n z y j)
   |_,_=>none
  |some .string,some y,some j=>some (.ixS y j)
  |_,_,_=>none
 |.extract x i=>(aJ x).map (.extract i)
 |.call c=>match c.callee with
  |.value (.func f)=>(eE c.args.toList).map fun ys=>.call f ys (aJD h d) (aF4 h d)
  |.value x=>match aJ x,eE c.args.toList with
   |some x,some ys=>some (.callv x ys (aJD h d) (aF4 h d))
   |_,_=>none
  |.builtin .append=>match c.argTypes.toList,c.args.toList with
   |[t,u],[s,x]=>match P.underlying t,P.underlying u,aJ s,aJ x with
    |some (.slice e),some (.slice _),some s,some x=>(P.info? e).bind fun i=>match i.zero with
     |some zv=>if zv.cells.size=i.size/\0<i.size then some (.append i.size i.bytes ((d.map h.cut.contains).getD false) [] s x (aF4 h d))else none
     |none=>none
    |some (.slice e),some .string,some s,some x=>(P.info? e).bind fun i=>match i.zero with
     |some zv=>if zv.cells.size=i.size/\0<i.size then some (.append i.size i.bytes ((d.map h.cut.contains).getD false) [] s x (aF4 h d))else none
     |none=>none
    |some (.slice e),some (.int _),some s,some x=>(P.info? e).bind fun i=>match i.zero,fC P e with
     |some zv,some zs=>if zv.cells.size=i.size/\0<i.size/\zs≠[]then some (.append i.size i.bytes ((d.map h.cut.contains).getD false) zs s x (aF4 h d))else none
     |_,_=>none
    |_,_,_,_=>none
   |_,_=>none
  |.builtin .len=>match c.argTypes.toList,c.args.toList with
   |[t],[x]=>match P.underlying t,aJ x with
    |some .string,some y=>some (.len true y)
    |some (.slice _),some y=>some (.len false y)
    |some (.array n _),_=>some (.lenC n)
    |_,_=>none
   |_,_=>none
  |.builtin .min=>match eE c.args.toList with
   |some (x::r)=>some (.minmax false x r)
   |_=>none
  |.builtin .max=>match eE c.args.toList with
   |some (x::r)=>some (.minmax true x r)
   |_=>none
  |_=>none
 |_=>none
def Opd.slots:Opd->List Nat
 |.tmp t=>[t]
 |.const _=>[]
def mK:Option Opd->List Nat
 |some x=>x.slots
 |none=>[]
def VOp.reads:VOp->List Nat
 |.mv x|.boxR _ x|.boxB _ x|.load _ _ _ x|.nilck x|.unop _ x|.convI _ x|.convS x|.toStr x _|.toBytes x|.fieldA _ x|.field _ _ _ x|.len _ x|.extract _ x|.arrptr _ _ x|.mkiface _ x=>x.slots
 |.pick c a b=>c.slots++a.slots++b.slots
 |.allocR _|.allocB _|.lenC _|.fail=>[]
 |.build _ ps|.bslice _ _ _ _ ps=>ps.flatMap fun p=>p.2.2.slots
 |.store _ _ a x|.bin _ a x|.eq _ _ a x|.idxS _ a x|.idxA _ _ a x|.ixA _ _ _ a x|.ixS a x|.mkslice _ _ _ a x|.append _ _ _ _ a x _=>a.slots++x.slots
 |.cutS x lo hi|.cut _ x lo hi|.cutR _ _ _ x lo hi=>x.slots++mK lo++mK hi
 |.call _ xs _ _=>xs.flatMap Opd.slots
 |.callv x xs _ _=>x.slots++xs.flatMap Opd.slots
 |.mkfn _ a b=>a.flatMap Opd.slots++b.flatMap Opd.slots
 |.minmax _ x xs=>x.slots++xs.flatMap Opd.slots
def VOp.roots:VOp->List Nat
 |.load (.r s) _ _ _=>[s]
 |.cutR s _ _ _ _ _=>[s]
 |_=>[]
def VOp.isP:VOp->Bool
 |.store ..|.call ..|.callv ..|.allocB _|.boxB ..|.bslice true _ _ _ _|.append ..=>false
 |_=>true
def VOp.calm:VOp->Bool
 |.load (.e _) _ _ _|.toStr _ _|.append ..|.call ..|.callv ..=>false
 |_=>true
def VOp.calmFor(ds:List Nat):VOp->Bool
 |.call _ _ _ av|.callv _ _ _ av|.load (.e av) _ _ _|.toStr _ av|.append _ _ _ _ _ _ av=>ds.all av.contains
 |op=>op.calm
def VOp.looksB:VOp->Bool
 |.load .b _ _ _=>true
 |_=>false
def VOp.leavesB:VOp->Bool
 |.call _ _ q _|.callv _ _ q _=>q
 |.allocB _|.boxB ..|.store .b _ _ _=>false
 |_=>true
def VOp.mild:VOp->Bool
 |.call ..|.callv ..|.append _ _ false _ _ _ _|.bslice true _ _ _ _|.allocB _|.boxB ..|.store .b _ _ _=>true
 |_=>false
def VOper.slots(o:VOper):List Nat:=o.op.reads++o.op.roots++o.dst.toList++(o.guard.map (·.1)).toList
def bB:VOp->Option Nat
 |.store (.r s) _ _ _=>some s
 |_=>none
def apart(x y:VOper):Bool:=
 (x.dst.toList.all fun d=>!y.slots.contains d)&&(y.dst.toList.all fun d=>!x.slots.contains d)
def vH(x y:VOper):Bool:=
 x.op.isP&&(!x.op.looksB||y.op.leavesB)&&(y.op.isP||y.op.mild||(match bB y.op with
  |some s=>x.op.calm&&!(x.op.roots++x.dst.toList++(x.guard.map (·.1)).toList).contains s
  |none=>false))
def appBs(x y:VOper):Bool:=match x.op,y.op with
 |.append _ _ false _ _ _ _,.bslice true _ _ _ _=>true
 |_,_=>false
def aCK(x y:VOper):Bool:=apart x y&&(vH x y||vH y x)&&(!x.op.makesR||y.op.calmFor x.dst.toList)&&(!y.op.makesR||x.op.calmFor y.dst.toList)||apart x y&&appBs x y
def iF(acc:List Nat):List Edge->Nat
 |[]=>0
 |e::r=>(if Region.binds .any e then 2^e.on ||| acc.getD e.on 0 else 0) ||| iF acc r
def lU:List Oper->List Nat->List Nat
 |[],acc=>acc
 |o::r,acc=>lU r (acc++[iF acc o.after.toList])
def vI(ps:List Nat)(vs:List VOper):Bool:=
 (List.range vs.length).all fun i=>(List.range i).all fun j=>(ps.getD i 0).testBit j||(match vs[j]?,vs[i]? with
  |some x,some y=>aCK x y
  |_,_=>false)
def Hints.bars(h:Hints):Op->Bool
 |.call c=>match c.callee with
  |.value (.func f)=>h.no.contains f
  |_=>false
 |_=>false
def kT(P:Program)(h:Hints)(d:Option Nat)(op:Op):VOp:=if h.bars op then .fail else(aE P h d op).getD .fail
def gE(P:Program)(h:Hints)(N:Nat)(ops:Array Oper)(o:Oper):Option VOper:=
 if(o.dst.toList.all fun d=>decide (d<N))then
  match o.guard with
  |none=>some ⟨o.dst,kT P h o.dst o.op,none⟩
  |some (j,want)=>match(ops[j]?).bind (·.dst)with
   |some s=>if s<N then some ⟨o.dst,kT P h o.dst o.op,some (s,want)⟩else none
   |none=>none
 else none
def cQ(P:Program)(h:Hints)(N:Nat)(ops:Array Oper):List Oper->Option (List VOper)
 |[]=>some []
 |o::r=>match gE P h N ops o,cQ P h N ops r with
  |some v,some vs=>some (v::vs)
  |_,_=>none
def mL(vs:List VOper):List Nat:=vs.flatMap fun v=>v.dst.toList
def qK:List Oper->Nat->Bool
 |[],_=>true
 |o::r,i=>(o.after.toList.all fun e=>!Region.binds .any e||decide (e.on<i))&&qK r (i+1)
def iT(P:Program)(h:Hints)(N:Nat)(ops:Array Oper)(draw:Bool):Option (List VOper):=
 match cQ P h N ops ops.toList with
 |none=>none
 |some vs=>if(mL vs).Nodup/\(draw=true->vI (lU ops.toList []) vs=true/\qK ops.toList 0=true/\P.follows .mixedOrders=true)then some vs else none
def bF(P:Program)(h:Hints)(N:Nat):Code->Option VC
 |.skip=>some .skip
 |.label _=>some .skip
 |.region _ ops draw=>(iT P h N ops draw).map .region
 |.seq a b=>match bF P h N a,bF P h N b with
  |some a,some b=>some (.seq a b)
  |_,_=>none
 |.cond c a b=>match aJ c,bF P h N a,bF P h N b with
  |some c,some a,some b=>some (.cond c a b)
  |_,_,_=>none
 |.block id a=>(bF P h N a).map (.block id)
 |.loop a=>(bF P h N a).map .loop
 |.exit id=>some (.exit id)
 |.scope a=>(bF P h N a).map .scope
 |.ret=>some .ret
 |_=>none
def VOp.quiet:VOp->Bool
 |.store .b _ _ _=>false
 |.call _ _ q _|.callv _ _ q _=>q
 |_=>true
def VC.quiet:VC->Bool
 |.region ops=>ops.all fun o=>o.op.quiet
 |.seq a b|.cond _ a b=>a.quiet&&b.quiet
 |.block _ a|.loop a|.scope a=>a.quiet
 |_=>true
def dW(P:Program)(N:Nat):List ResultVar->Option (List RV)
 |[]=>some []
 |.tmp t::r=>if t<N then(dW P N r).map (.tmp t::·)else none
 |.cell a t::r=>match aggT P t,bE P t with
  |some g,some sz=>if a<N/\0<sz then(dW P N r).map (.cell g sz a::·)else none
  |_,_=>none
def mM(P:Program)(h:Hints)(kept cons:List Nat)(fn:Func):Option VF:=
 match fn.body with
 |none=>none
 |some c=>match bF P h fn.ntmps c,dW P fn.ntmps fn.results.toList with
  |some code,some res=>if fn.params.size<=64/\(kept.all fun s=>decide (s<fn.ntmps))/\fn.params.size<=fn.ntmps/\(fn.name == "runtime.NumGoroutine")=false then some ⟨kept,cons,code.quiet,code,res⟩else none
  |_,_=>none
end Go.VM
namespace Go.VM
open Go.RowKit
variable{Ω:World->Prop}
section consts
variable{w:World}{A:Pl}{B:List Nat}
theorem tV{c:Value}{v:V}(h:tT c=some v):Rel w A B v c:=by
 unfold tT at h;split at h<;>first|(cases h;constructor)|cases h
theorem dQ{cs:List Value}{vs:List V}(h:ofCells cs=some vs):RelL w A B vs cs:=by
 induction cs generalizing vs with
 |nil=>cases h;exact .nil
 |cons c r ih=>
  simp only[ofCells]at h;split at h
  .rename_i v vs' h1 h2;cases h;exact .cons _ _ _ _ (tV h1) (ih h2)
  .cases h
theorem xN{c:Value}{v:V}(h:tT c=some v):v.ok1=true/\v.ok=true/\v.names=[]/\v.cells=[v]:=by
 unfold tT at h;split at h<;>first|(cases h;exact⟨rfl,rfl,rfl,rfl⟩)|cases h
theorem aAZ{c:Value}{v:V}(h:nV c=some v):Rel w A B v c:=by
 unfold nV at h;split at h
 .rename_i cs;cases hc:ofCells cs.toList with
  |none=>rw[hc]at h;cases h
  |some vs=>rw[hc]at h;cases h;exact .agg _ _ (dQ hc)
 .exact tV h
end consts
def V.far:V->Prop
 |.rp ..|.reg ..=>False
 |.sl (.rv ..) ..|.ep (.rv ..) ..=>False
 |_=>True
theorem VR.of_rel{G:Gh}{A:Pl}{w:World}{e:Nat->V}{v:V}{c:Value}(hf:v.far)(h:Rel w A G.bxB v c):VR G A w e v c:=by
 cases v with
 |rp=>exact hf.elim
 |reg=>exact hf.elim
 |sl l z n cs=>cases l<;>first|exact hf.elim|exact h
 |ep l cs off=>cases l<;>first|exact hf.elim|exact h
 |_=>exact h
theorem VR.rel{G:Gh}{A:Pl}{w:World}{e:Nat->V}{v:V}{c:Value}(hf:v.far)(h:VR G A w e v c):Rel w A G.bxB v c:=by
 cases v with
 |rp=>exact hf.elim
 |reg=>exact hf.elim
 |sl l z n cs=>cases l<;>first|exact hf.elim|exact h
 |ep l cs off=>cases l<;>first|exact hf.elim|exact h
 |_=>exact h
theorem V.far_of_ok1{v:V}(h:v.ok1=true):v.far:=by
 cases v with
 |sl l z n cs=>cases l<;>first|trivial|cases h
 |ep l cs off=>cases l<;>first|trivial|cases h
 |rp=>cases h
 |reg=>cases h
 |_=>trivial
theorem V.far_of_ok{v:V}(h:v.ok=true):v.far:=by
 cases v with
 |agg=>trivial
 |undef=>trivial
 |_=>exact V.far_of_ok1 (by simpa[V.ok]using h)
theorem V.ok_known{v:V}(h:v.ok=true):v≠.undef/\∀vs,v≠.tup vs:=by
 cases v with
 |undef=>cases h
 |tup=>cases h
 |_=>exact⟨by simp,by simp⟩
theorem aA0{c:Value}{v:V}(h:nV c=some v):v.far:=by
 unfold nV at h;split at h
 .rename_i cs;cases hc:ofCells cs.toList with
  |none=>rw[hc]at h;cases h
  |some vs=>rw[hc]at h;cases h;trivial
 .exact V.far_of_ok1 (xN h).1
section
variable{D M:Nat->Prop}{G:Gh}{σ:St}{a:Act}{w:World}
theorem SR.opd(h:SR Ω D M G σ a.tmps w){x:Operand}{y:Opd}(hy:aJ x=some y):VR G (At G σ.tips σ.lk w) w (get σ.env) (ev (get σ.env) y) (a.eval x):=by
 cases x with
 |tmp t=>
  simp only[aJ]at hy;cases hy;have hs:=h.slots t;simp only[ev,Act.eval];generalize get σ.env t=v at hs ⊢;cases v with
  |reg c n cs=>
   simp only[fN,aAX]at hs;exact⟨hs.2.1,hs.2.2.1⟩
  |_=>exact hs
 |const c=>
  simp only[aJ]at hy;cases hc:nV c with
  |none=>rw[hc]at hy;cases hy
  |some v=>
   rw[hc]at hy;cases hy;exact VR.of_rel (aA0 hc) (aAZ hc)
 |global g=>cases hy
 |func f=>simp only[aJ]at hy;cases hy;exact .fn _ _ _ _ _ .nil .nil rfl rfl
theorem SR.opd_ok(h:SR Ω D M G σ a.tmps w){x:Operand}{y:Opd}(hy:aJ x=some y)(hk:(ev (get σ.env) y).ok=true) :
  Rel w (At G σ.tips σ.lk w) G.bxB (ev (get σ.env) y) (a.eval x):=(h.opd hy).rel (V.far_of_ok hk)
end
section inv
variable{w:World}{A:Pl}{B:List Nat}{c:Value}
theorem Rel.int_inv{k:IntKind}{n:Int}(h:Rel w A B (.int k n) c):c=.int k n:=by cases h;rfl
theorem Rel.bool_inv{b:Bool}(h:Rel w A B (.bool b) c):c=.bool b:=by cases h;rfl
theorem Rel.str_inv{s:List UInt8}(h:Rel w A B (.str s) c):∃t:ByteArray,c=.string t/\t.data.toList=s:=by cases h with|str t=>exact⟨t,rfl,rfl⟩
theorem Rel.nils_inv(h:Rel w A B .nils c):c=.slice none 0 0:=by cases h;rfl
theorem Rel.sl_inv{l:Lab}{z n:Nat}{cs:List V}(h:Rel w A B (.sl l z n cs) c):∃a cap xs,c=.slice (some a) n cap/\A l a xs.length z n cap/\0<z/\xs.length=n*z/\n<=cap/\cap<=maxLen/\Row w a xs/\RelL w A B cs xs/\aC cs=[]:=by
 cases h with|sl _ _ _ _ a cap xs h1 h2 h3 h4 h5 h6 h7 h8=>exact⟨a,cap,xs,rfl,h1,h2,h3,h4,h5,h6,h7,h8⟩
theorem Rel.ep_inv{l:Lab}{cs:List V}{off:Nat}(h:Rel w A B (.ep l cs off) c):∃a z n cap xs,c=.pointer (some (a.add off))/\A l a xs.length z n cap/\Row w a xs/\RelL w A B cs xs/\aC cs=[]:=by
 cases h with|ep _ _ _ a z n cap xs h1 h2 h3 h4=>exact⟨a,z,n,cap,xs,rfl,h1,h2,h3,h4⟩
theorem Rel.bp_inv{b off:Nat}(h:Rel w A B (.bp b off) c):∃blk,c=.pointer (some ⟨blk,off,none⟩)/\B[b]?=some blk:=by
 cases h with|bp _ _ blk h=>exact⟨blk,rfl,h⟩
theorem Rel.agg_inv{cs:List V}(h:Rel w A B (.agg cs) c):∃xs:Array Value,c=.agg xs/\RelL w A B cs xs.toList:=by
 cases h with|agg _ xs h=>exact⟨xs,rfl,h⟩
theorem Rel.tup_inv{cs:List V}(h:Rel w A B (.tup cs) c):∃xs:Array Value,c=.tuple xs/\RelL w A B cs xs.toList:=by
 cases h with|tup _ xs h=>exact⟨xs,rfl,h⟩
theorem Rel.fn_inv{f:Fn}{a b:List V}(h:Rel w A B (.fn f a b) c):∃xs ys:Array Value,c=.func f xs ys/\RelL w A B a xs.toList/\RelL w A B b ys.toList/\aC a=[]/\aC b=[]:=by
 cases h with|fn _ _ _ xs ys h1 h2 h3 h4=>exact⟨xs,ys,rfl,h1,h2,h3,h4⟩
end inv
theorem iU(e:Env)(s t:Nat)(v:V):get (set e s v) t=if t=s then v else get e t:=by
 induction e with
 |nil=>
  simp only[set,get];by_cases h:s=t
  .simp[h]
  .simp[h,Ne.symm h]
 |cons x r ih=>
  obtain⟨a,u⟩:=x;simp only[set];by_cases h:a=s
  .subst h;simp only[if_true,get];by_cases h2:a=t
   .simp[h2]
   .simp[h2,Ne.symm h2]
  .simp only[if_neg h,get,ih];by_cases h2:a=t
   .subst h2;simp[h]
   .simp[h2]
theorem bG(e:Env)(s:Nat)(v:V):get (set e s v)=upd (get e) s v:=by
 funext t;rw[iU];rfl
structure Goes(G G':Gh)(A A':Pl)(w w':World)(e e':Nat->V):Prop where
 keeps:aCJ w w' A A' G.bxB G'.bxB
 rgs:∀b s c,G.Z b=.rg s c->G'.Z b=.rg s c/\G'.rgB s c=G.rgB s c/\G.ver s c<=G'.ver s c
 live:∀s c v cs,e' s=.reg c v cs->(∃cs',e s=.reg c v cs'/\(∀j,w'.cell? ⟨G.rgB s c,j,none⟩=w.cell? ⟨G.rgB s c,j,none⟩))\/(∀b,G.Z b≠.rg s c)\/G.ver s c<v
theorem bM(a:Addr)(n:Nat):(a.add n).block=a.block:=by unfold Addr.add;split<;>rfl
theorem VR.goes{G G':Gh}{A A':Pl}{w w':World}{e e':Nat->V}(hok:GOk Ω G w)(hg:Goes G G' A A' w w' e e'){v:V}{c:Value}(h:VR G A w e v c):VR G' A' w' e' v c:=by
 have rowk : ∀ (t c v : Nat) (a : Addr) (cs : List V), G.Z a.block = .rg t c → v ≤ G.ver t c → (∀ cs', e t = .reg c v cs' → ∃ xs, Row w a xs ∧ RelL w A G.bxB cs xs) →
     ∀cs',e' t=.reg c v cs'->∃xs,Row w' a xs/\RelL w' A' G'.bxB cs xs:=by
  intro t c v a cs hz hv hl cs' he;rcases hg.live t c v cs' he with⟨cs'',h1,h2⟩|h1|h1
  .obtain⟨xs,h3,h4⟩:=hl cs'' h1;refine⟨xs,fun j u hu=>?_,h4.keep hg.keeps⟩;have h5:=h3 j u hu;have hb:(a.add j).block=G.rgB t c:=by rw[bM];exact hok.rgU _ _ _ hz
   have hsp:(a.add j).spot=none:=by
    by_cases hsn:(a.add j).spot=none
    .exact hsn
    .exfalso;unfold World.cell? at h5;split at h5
     .rw[if_pos (by simpa[Option.isSome_iff_ne_none]using hsn)]at h5;cases h5
     .cases h5
   have haj:a.add j=⟨G.rgB t c,(a.add j).off,none⟩:=by
    rw[<-hb,<-hsp]
   rw[haj]at h5 ⊢;rw[h2];exact h5
  .exact absurd hz (h1 _)
  .omega
 cases v with
 |rp t c off=>
  obtain⟨h1,h2⟩:=h;obtain⟨k1,k2,_⟩:=hg.rgs _ _ _ h2;exact⟨by rw[k2];exact h1,by rw[k2];exact k1⟩
 |reg=>exact h.elim
 |sl l z n cs=>
  cases l with
  |rv t c v=>
   obtain⟨a,cap,h1,h2,h3,h4,h5,h6,h7,h9,h8⟩:=h;obtain⟨k1,k2,k3⟩:=hg.rgs _ _ _ h6;exact⟨a,cap,h1,h2,h3,h4,h5,k1,by omega,h9,rowk t c v a cs h6 h7 h8⟩
  |_=>exact Rel.keep hg.keeps h
 |ep l cs off=>
  cases l with
  |rv t c v=>
   obtain⟨a,h1,h6,h7,h9,h8⟩:=h;obtain⟨k1,k2,k3⟩:=hg.rgs _ _ _ h6;exact⟨a,h1,k1,by omega,h9,rowk t c v a cs h6 h7 h8⟩
  |_=>exact Rel.keep hg.keeps h
 |_=>exact Rel.keep hg.keeps h
end Go.VM
namespace Go.VM
open Go.RowKit
def aY(P:Program)(a:Act)(o:Oper)(w:World)(c:Value):Prop:=(execOp a.eval o).run P w=.ok (.value c) w
section
variable{P:Program}{D M:Nat->Prop}{G:Gh}{σ:St}{a:Act}{w:World}{o:Oper}
theorem aIL{x:Operand}(ho:o.op=.move x\/o.op=.assign x):aY P a o w (a.eval x):=by
 unfold aY execOp;rcases ho with ho|ho<;>simp[ho]
theorem aF9{c x y:Operand}{t:Bool}(ho:o.op=.pick c x y)(hc:a.eval c=.bool t):aY P a o w (if t then a.eval x else a.eval y):=by
 unfold aY execOp;cases t<;>simp[ho,hc,asBool]
theorem xO{t:TypeId}{g:Bool}(h:aggT P t=some g)(w:World):(isAgg t).run P w=.ok g w:=by
 unfold aggT at h;unfold isAgg;split at h<;>first|(cases h)|skip
 .rename_i hu;simp[run_underlying hu]
 .rename_i hu;simp[run_underlying hu]
 .rename_i d h1 h2 hu;simp only[Sem.run_bind,run_underlying hu,Result.andThen_ok];cases d<;>first|rfl|exact absurd hu (by first|exact h1 _|exact h2 _ _)
theorem cX{t:TypeId}{sz:Nat}(h:bE P t=some sz)(w:World):(sizeOf t).run P w=.ok sz w:=by
 unfold bE at h;cases hi:P.info? t with
 |none=>rw[hi]at h;cases h
 |some i=>
  rw[hi]at h;cases h;simp[sizeOf,typeInfo,hi]
theorem aA1{w:World}{A:Pl}{B:List Nat}{g:Bool}{cs:List V}{v:V}{xs:List Value}(hv:nU g cs=some v)(h:RelL w A B cs xs) :
  Rel w A B v (if g then .agg xs.toArray else xs.headD Go.undef)/\(g=false->xs.length=1)/\v.far:=by
 unfold nU at hv;cases g with
 |true=>cases hv;exact⟨.agg _ _ (by simpa using h),by simp,trivial⟩
 |false=>
  simp only[Bool.false_eq_true,if_false]at hv ⊢;split at hv
  .rename_i u;split at hv
   .rename_i hu;cases hv;cases h with
    |cons _ c _ cs h1 h2=>cases h2;exact⟨by simpa using h1,by simp,V.far_of_ok1 hu⟩
   .cases hv
  .cases hv
theorem pQ{w:World}{A:Pl}{B:List Nat}{g:Bool}{off sz:Nat}{cs:List V}{v:V}{xs:List Value}(hv:part g off sz cs=some v)(h:RelL w A B cs xs) :
  Rel w A B v (if g then .agg ((xs.drop off).take sz).toArray else((xs.drop off).take sz).headD Go.undef)/\off+sz<=xs.length/\(g=false->sz=1)/\v.far:=by
 unfold part at hv;split at hv
 .rename_i hl;have hl':off+sz<=xs.length:=by rw[<-h.length];exact hl
  obtain⟨h1,h2,h3⟩:=aA1 hv ((h.drop off).take sz);refine⟨h1,hl',fun hg=>?_,h3⟩;have h4:=h2 hg;rw[List.length_take,List.length_drop]at h4;omega
 .cases hv
theorem lK(xs:List Value)(off sz:Nat)(h:off+sz<=xs.length)(h1:sz=1):xs[off]?=some (((xs.drop off).take sz).headD Go.undef):=by
 subst h1;have:off<xs.length:=by omega
 rw[List.getElem?_eq_getElem this];simp[List.headD_eq_head?_getD,List.head?_take,List.head?_drop,List.getElem?_eq_getElem this]
theorem vJ{g:Bool}{off sz:Nat}{t:TypeId}{xs:Array Value}(hg:aggT P t=some g)(hs:bE P t=some sz)(hl:off+sz<=xs.size)(h1:g=false->sz=1)(w:World) :
  (Go.part t xs off).run P w=.ok (if g then .agg ((xs.toList.drop off).take sz).toArray else((xs.toList.drop off).take sz).headD Go.undef) w:=by
 unfold Go.part;simp only[Sem.run_bind,xO hg,Result.andThen_ok];cases g with
 |true=>
  simp only[if_true,Sem.run_bind,cX hs,Result.andThen_ok,Sem.run_pure];congr 2;apply Array.ext';simp[Array.toList_extract,List.extract_eq_take_drop]
 |false=>
  have hh:=lK xs.toList off sz (by simpa using hl) (h1 rfl);simp only[Bool.false_eq_true,if_false];rw[Array.getElem?_toList]at hh;rw[hh];rfl
theorem aBe{a:Addr}{xs:List Value}(h:Row w a xs)(off n:Nat):Row w (a.add off) ((xs.drop off).take n):=by
 intro j u hu;rw[Go.Deep.add_add];have hj:j<n:=by
  have:=(List.getElem?_eq_some_iff.1 hu).1;rw[List.length_take]at this;omega
 rw[List.getElem?_take,if_pos hj,List.getElem?_drop]at hu;exact h _ u hu
theorem jK{g:Bool}{off sz:Nat}{t:TypeId}{a:Addr}{xs:List Value}(hg:aggT P t=some g)(hs:bE P t=some sz)(hl:off+sz<=xs.length)(h1:g=false->sz=1)(hr:Row w a xs) :
  (loadVar t (a.add off)).run P w=.ok (if g then .agg ((xs.drop off).take sz).toArray else((xs.drop off).take sz).headD Go.undef) w:=by
 unfold loadVar;simp only[Sem.run_bind,xO hg,Result.andThen_ok];cases g with
 |true=>
  simp only[if_true,Sem.run_bind,cX hs,Result.andThen_ok];have hlen:((xs.drop off).take sz).length=sz:=by rw[List.length_take,List.length_drop];omega
  have:=run_loadCells_list (P:=P) (w:=w) (a.add off) ((xs.drop off).take sz) (fun j v hv=>aBe hr off sz j v hv);rw[hlen]at this;rw[this];rfl
 |false=>
  have hh:=lK xs off sz hl (h1 rfl);simp only[Bool.false_eq_true,if_false];have:=hr off _ hh;simp[this]
theorem cR{g:Nat}{xs:Array Value}{e:TypeId}{fr:Nat×Nat}(h:w.heap[g]?=some (.cells xs e fr)):Row w ⟨g,0,none⟩ xs.toList:=by
 intro j u hu;have:(⟨g,0,none⟩:Addr).add j=⟨g,j,none⟩:=by unfold Addr.add;split<;>simp_all
 rw[this,cell_of_row w g j xs e fr h];simpa using hu
theorem jR(g n:Nat):(⟨g,n,none⟩:Addr)=(⟨g,0,none⟩:Addr).add n:=by
 unfold Addr.add;split<;>simp_all
end
end Go.VM
namespace Go.VM
open Go.RowKit
variable{Ω:World->Prop}
theorem fO(b o n:Nat):(⟨b,o,none⟩:Addr).add n=⟨b,o+n,none⟩:=by
 unfold Addr.add;split<;>simp_all
section
variable{P:Program}{D M:Nat->Prop}{G:Gh}{σ:St}{a:Act}{w:World}{o:Oper}{t0:Nat->Nat}{clk d:Nat}{bx:BX}
def Ans(P:Program)(G:Gh)(σ:St)(a:Act)(o:Oper)(w:World)(v:V):Prop:=
 ∃c,aY P a o w c/\VR G (At G σ.tips σ.lk w) w (get σ.env) v c
theorem SR.opd_int(h:SR Ω D M G σ a.tmps w){x:Operand}{y:Opd}(hy:aJ x=some y){k:IntKind}{n:Int}(hv:ev (get σ.env) y=.int k n):a.eval x=.int k n:=by
 have:=h.opd hy;rw[hv]at this;exact Rel.int_inv this
theorem SR.opd_bool(h:SR Ω D M G σ a.tmps w){x:Operand}{y:Opd}(hy:aJ x=some y){b:Bool}(hv:ev (get σ.env) y=.bool b):a.eval x=.bool b:=by
 have:=h.opd hy;rw[hv]at this;exact Rel.bool_inv this
theorem SR.opd_str(h:SR Ω D M G σ a.tmps w){x:Operand}{y:Opd}(hy:aJ x=some y){s:List UInt8}(hv:ev (get σ.env) y=.str s):∃t:ByteArray,a.eval x=.string t/\t.data.toList=s:=by
 have:=h.opd hy;rw[hv]at this;exact Rel.str_inv this
theorem aGp(h:SR Ω D M G σ a.tmps w){x:Operand}{y:Opd}(ho:o.op=.move x\/o.op=.assign x)(hy:aJ x=some y):Ans P G σ a o w (ev (get σ.env) y):=
 ⟨_,aIL ho,h.opd hy⟩
theorem aFa(h:SR Ω D M G σ a.tmps w){c x y:Operand}{c' x' y':Opd}{t:Bool}(ho:o.op=.pick c x y)(hc:aJ c=some c')(hx:aJ x=some x')(hy:aJ y=some y')(ht:ev (get σ.env) c'=.bool t) :
  Ans P G σ a o w (if t then ev (get σ.env) x' else ev (get σ.env) y'):=by
 refine⟨_,aF9 ho (h.opd_bool hc ht),?_⟩;cases t
 .exact h.opd hy
 .exact h.opd hx
theorem aA2{t:TypeId}{x:Operand}{b:Addr}{c:Value}(ho:o.op=.load t x)(hx:a.eval x=.pointer (some b))(hr:(loadVar t b).run P w=.ok c w):aY P a o w c:=by
 unfold aY execOp;simp[ho,Instr.loadAt,hx,Instr.sureAddr,hr]
theorem jS(_:SR Ω D M G σ a.tmps w){t:TypeId}{x:Operand}{g:Bool}{off sz:Nat}{b:Addr}{cs:List V}{xs:List Value}{v:V}(ho:o.op=.load t x)(hg:aggT P t=some g)(hs:bE P t=some sz)
  (hx:a.eval x=.pointer (some (b.add off))) (hr:Row w b xs) (hl:RelL w (At G σ.tips σ.lk w) G.bxB cs xs) (hv:part g off sz cs=some v):Ans P G σ a o w v:=by
 obtain⟨h1,h2,h3,h4⟩:=pQ hv hl;exact⟨_,aA2 ho hx (jK hg hs h2 h3 hr),VR.of_rel h4 h1⟩
theorem aCL(h:SR Ω D M G σ a.tmps w){t:TypeId}{x:Operand}{y:Opd}{g:Bool}{sz s c n off:Nat}{cs:List V}{v:V}(ho:o.op=.load t x)(hy:aJ x=some y)(hg:aggT P t=some g)(hs:bE P t=some sz)
  (he:ev (get σ.env) y=.rp s c off) (hc:get σ.env s=.reg c n cs) (hv:part g off sz cs=some v):Ans P G σ a o w v:=by
 have h1:=h.opd hy;rw[he]at h1;have h2:=h.slots s;rw[hc]at h2;obtain⟨_,_,_,xs,e,h3,h4⟩:=h2;exact jS h (b:=⟨G.rgB s c,0,none⟩) (off:=off) ho hg hs (by rw[h1.1,<-jR]) (cR h3) h4 hv
theorem aCM(h:SR Ω D M G σ a.tmps w){t:TypeId}{x:Operand}{y:Opd}{g:Bool}{sz b off:Nat}{cs:List V}{v:V}(ho:o.op=.load t x)(hy:aJ x=some y)(hg:aggT P t=some g)(hs:bE P t=some sz)
  (he:ev (get σ.env) y=.bp b off) (hc:σ.bx[b]?=some cs) (hv:part g off sz cs=some v):Ans P G σ a o w v:=by
 have h1:=h.opd hy;rw[he]at h1;obtain⟨blk,h5,h6⟩:=Rel.bp_inv h1;obtain⟨_,b',h7,_,xs,e,h3,h4⟩:=h.boxes.2 b cs hc;obtain rfl:blk=b':=by rw[h6]at h7;cases h7;rfl
 exact jS h (b:=⟨blk,0,none⟩) (off:=off) ho hg hs (by rw[h5,<-jR]) (cR h3) h4 hv
theorem vK{e:Nat->V}{s c v:Nat}(h:(Lab.rv s c v).live e=true):∃cs,e s=.reg c v cs:=by
 simp only[Lab.live]at h;split at h
 .rename_i c' v' cs hc;simp only[Bool.and_eq_true,beq_iff_eq]at h;obtain⟨rfl,rfl⟩:=h;exact⟨cs,hc⟩
 .cases h
theorem gU{e:Nat->V}{av:List Nat}{l:Lab}(h:l.free e av=true):l.live e=true:=by
 simp only[Lab.free,Bool.and_eq_true]at h;exact h.1
theorem VR.sl_row{G:Gh}{A:Pl}{w:World}{e:Nat->V}{l:Lab}{z n:Nat}{cs:List V}{c:Value}(h:VR G A w e (.sl l z n cs) c)(hl:l.live e=true) :
  ∃b cap xs,c=.slice (some b) n cap/\0<z/\xs.length=n*z/\n<=cap/\cap<=maxLen/\Row w b xs/\RelL w A G.bxB cs xs/\aC cs=[]:=by
 cases l with
 |rv s k v=>
  obtain⟨b,cap,h1,h2,h3,h4,h5,_,_,hn,h8⟩:=h;obtain⟨cs',hc⟩:=vK hl;obtain⟨xs,h9,h10⟩:=h8 cs' hc;exact⟨b,cap,xs,h1,h2,by rw[<-h10.length];exact h5,h3,h4,h9,h10,hn⟩
 |_=>
  obtain⟨b,cap,xs,h1,_,h3,h4,h5,h6,h7,h8⟩:=Rel.sl_inv h;exact⟨b,cap,xs,h1,h3,h4,h5,h6,h7,h8⟩
theorem VR.ep_row{G:Gh}{A:Pl}{w:World}{e:Nat->V}{l:Lab}{cs:List V}{off:Nat}{c:Value}(h:VR G A w e (.ep l cs off) c)(hl:l.live e=true) :
  ∃b xs,c=.pointer (some (b.add off))/\Row w b xs/\RelL w A G.bxB cs xs/\aC cs=[]:=by
 cases l with
 |rv s k v=>
  obtain⟨b,h1,_,_,hn,h8⟩:=h;obtain⟨cs',hc⟩:=vK hl;obtain⟨xs,h9,h10⟩:=h8 cs' hc;exact⟨b,xs,h1,h9,h10,hn⟩
 |_=>
  obtain⟨b,z,n,cap,xs,h1,_,h3,h4⟩:=Rel.ep_inv h;exact⟨b,xs,h1,h3,h4⟩
theorem VR.sl_val{G:Gh}{A:Pl}{w:World}{e:Nat->V}{l:Lab}{z n:Nat}{cs:List V}{c:Value}(h:VR G A w e (.sl l z n cs) c) :
  ∃b cap,c=.slice (some b) n cap/\0<z/\n<=cap/\cap<=maxLen/\cs.length=n*z:=by
 cases l with
 |rv s k v=>
  obtain⟨b,cap,h1,h2,h3,h4,h5,_⟩:=h;exact⟨b,cap,h1,h2,h3,h4,h5⟩
 |_=>
  obtain⟨b,cap,xs,h1,_,h3,h4,h5,h6,h7,h8⟩:=Rel.sl_inv h;exact⟨b,cap,h1,h3,h5,h6,by rw[h8.1.length];exact h4⟩
theorem VR.ep_val{G:Gh}{A:Pl}{w:World}{e:Nat->V}{l:Lab}{cs:List V}{off:Nat}{c:Value}(h:VR G A w e (.ep l cs off) c):∃b:Addr,c=.pointer (some (b.add off)):=by
 cases l with
 |rv s k v=>obtain⟨b,h1,_⟩:=h;exact⟨b,h1⟩
 |_=>obtain⟨b,z,n,cap,xs,h1,_⟩:=Rel.ep_inv h;exact⟨b,h1⟩
theorem VR.ep_at{G:Gh}{A:Pl}{w:World}{e:Nat->V}{l:Lab}{cs:List V}{off:Nat}{c:Value}(h:VR G A w e (.ep l cs off) c) :
  ∃b:Addr,c=.pointer (some (b.add off))/\∀off',VR G A w e (.ep l cs off') (.pointer (some (b.add off'))):=by
 cases l with
 |rv s k v=>obtain⟨b,h1,h2⟩:=h;exact⟨b,h1,fun off'=>⟨b,rfl,h2⟩⟩
 |_=>obtain⟨b,z,n,cap,xs,h1,h2,h3,h4,h5⟩:=Rel.ep_inv h;exact⟨b,h1,fun off'=>.ep _ _ _ b z n cap xs h2 h3 h4 h5⟩
theorem VR.sl_at{G:Gh}{A:Pl}{w:World}{e:Nat->V}{l:Lab}{z n:Nat}{cs:List V}{c:Value}(h:VR G A w e (.sl l z n cs) c) :
  ∃(b:Addr) (cap:Nat),c=.slice (some b) n cap/\n<=cap/\∀off',VR G A w e (.ep l cs off') (.pointer (some (b.add off'))):=by
 cases l with
 |rv s k v=>obtain⟨b,cap,h1,_,h3,_,_,h6,h7,h8⟩:=h;exact⟨b,cap,h1,h3,fun off'=>⟨b,rfl,h6,h7,h8⟩⟩
 |_=>obtain⟨b,cap,xs,h1,h2,h3,h4,h5,h6,h7,h8,h9⟩:=Rel.sl_inv h;exact⟨b,cap,h1,h5,fun off'=>.ep _ _ _ b z n cap xs h2 h7 h8 h9⟩
theorem aCN(h:SR Ω D M G σ a.tmps w){t:TypeId}{x:Operand}{y:Opd}{g:Bool}{sz off:Nat}{l:Lab}{cs:List V}{v:V}(ho:o.op=.load t x)(hy:aJ x=some y)(hg:aggT P t=some g)(hs:bE P t=some sz)
  (he:ev (get σ.env) y=.ep l cs off) (hl:l.live (get σ.env)=true) (hv:part g off sz cs=some v):Ans P G σ a o w v:=by
 have h1:=h.opd hy;rw[he]at h1;obtain⟨b,xs,h2,h3,h4,_⟩:=h1.ep_row hl;exact jS h (b:=b) (off:=off) ho hg hs h2 h3 h4 hv
theorem aDa(h:SR Ω D M G σ a.tmps w){x:Operand}{y:Opd}{v:V}(ho:o.op=.nilCheck x)(hy:aJ x=some y)(hv:aB (get σ.env) t0 clk bx d (.nilck y)=some v):Ans P G σ a o w v:=by
 have h1:=h.opd hy;simp only[aB]at hv;split at hv
 .rename_i s c off e1;rw[e1]at h1;cases hv;refine⟨_,?_,h1⟩;unfold aY execOp;simp[ho,h1.1]
 .rename_i l cs off e1;rw[e1]at h1;cases hv;obtain⟨c,h2⟩:=h1.ep_val;refine⟨_,?_,h1⟩;unfold aY execOp;simp[ho,h2]
 .rename_i b off e1;rw[e1]at h1;cases hv;obtain⟨c,h2,h3⟩:=Rel.bp_inv h1;refine⟨_,?_,h1⟩;unfold aY execOp;simp[ho,h2]
 .rename_i f p q e1;rw[e1]at h1;cases hv;obtain⟨xs,ys,h2,_⟩:=Rel.fn_inv h1;refine⟨_,?_,h1⟩;unfold aY execOp;simp[ho,h2]
 .cases hv
theorem aDb(h:SR Ω D M G σ a.tmps w){src dst:TypeId}{x:Operand}{y:Opd}{k k':IntKind}{n:Int}(ho:o.op=.convert src dst x)(hy:aJ x=some y){ks:IntKind}(hs:P.underlying src=some (.int ks))(hd:P.underlying dst=some (.int k))
  (hv:ev (get σ.env) y=.int k' n):Ans P G σ a o w (.int k (k.wrap n)):=by
 refine⟨_,?_,.int _ _⟩;unfold aY execOp;simp[ho,h.opd_int hy hv,Go.convert,run_underlying hs,run_underlying hd,Conv.intToInt]
theorem aDc(h:SR Ω D M G σ a.tmps w){src dst:TypeId}{x:Operand}{y:Opd}{s:List UInt8}(ho:o.op=.convert src dst x)(hy:aJ x=some y)(hs:P.underlying src=some .string)(hd:P.underlying dst=some .string)
  (hv:ev (get σ.env) y=.str s):Ans P G σ a o w (.str s):=by
 obtain⟨t,h1,rfl⟩:=h.opd_str hy hv;refine⟨.string t,?_,.str _⟩;unfold aY execOp;simp[ho,h1,Go.convert,run_underlying hs,run_underlying hd]
theorem aA3(h:SR Ω D M G σ a.tmps w){t:TypeId}{x:Operand}{y:Opd}{s:List UInt8}(ho:o.op=.call {callee:=.builtin .len,args:=#[x],argTypes:=#[t]})(hy:aJ x=some y)(hu:P.underlying t=some .string)
  (hv:ev (get σ.env) y=.str s):Ans P G σ a o w (.int .i64 (s.length:Int)):=by
 obtain⟨b,h1,rfl⟩:=h.opd_str hy hv;refine⟨_,?_,.int _ _⟩;unfold aY execOp;simp[ho,resolve,invoke,builtin,h1,Builtin.len_,run_underlying hu,goInt]
theorem aCO(h:SR Ω D M G σ a.tmps w){t e:TypeId}{x:Operand}{y:Opd}(ho:o.op=.call {callee:=.builtin .len,args:=#[x],argTypes:=#[t]})(hy:aJ x=some y)(hu:P.underlying t=some (.slice e))
  {l:Lab} {z n:Nat} {cs:List V} (hv:ev (get σ.env) y=.sl l z n cs):Ans P G σ a o w (.int .i64 (n:Int)):=by
 have h1:=h.opd hy;rw[hv]at h1;obtain⟨b,cap,h2,_⟩:=h1.sl_val;refine⟨_,?_,.int _ _⟩;unfold aY execOp;simp[ho,resolve,invoke,builtin,h2,Builtin.len_,run_underlying hu,goInt]
theorem aA4(h:SR Ω D M G σ a.tmps w){t e:TypeId}{x:Operand}{y:Opd}(ho:o.op=.call {callee:=.builtin .len,args:=#[x],argTypes:=#[t]})(hy:aJ x=some y)(hu:P.underlying t=some (.slice e))
  (hv:ev (get σ.env) y=.nils):Ans P G σ a o w (.int .i64 0):=by
 have h1:=h.opd hy;rw[hv]at h1;have h2:=Rel.nils_inv h1;refine⟨_,?_,.int _ _⟩;unfold aY execOp;simp[ho,resolve,invoke,builtin,h2,Builtin.len_,run_underlying hu,goInt]
theorem aFb{t e:TypeId}{x:Operand}{n:Nat}(ho:o.op=.call {callee:=.builtin .len,args:=#[x],argTypes:=#[t]})(hu:P.underlying t=some (.array n e)):Ans P G σ a o w (.int .i64 (n:Int)):=by
 refine⟨_,?_,.int _ _⟩;unfold aY execOp;simp[ho,resolve,invoke,builtin,Builtin.len_,run_underlying hu,goInt]
theorem aA5(h:SR Ω D M G σ a.tmps w){x:Operand}{y:Opd}{i:Nat}{vs:List V}{v:V}(ho:o.op=.extract x i)(hy:aJ x=some y)(hv:ev (get σ.env) y=.tup vs)(hi:vs[i]?=some v)(hk:v.ok=true):Ans P G σ a o w v:=by
 have h1:=h.opd hy;rw[hv]at h1;obtain⟨xs,h2,h3⟩:=Rel.tup_inv h1;obtain⟨c,h4,h5⟩:=h3.get hi;refine⟨c,?_,VR.of_rel (V.far_of_ok hk) h5⟩;unfold aY execOp;simp only[Array.getElem?_toList]at h4;simp[ho,h2,Instr.extract,h4]
theorem aDd(h:SR Ω D M G σ a.tmps w){t:TypeId}{x:Operand}{y:Opd}{f:Nat}{fs:Array Field}{g:Field}{ag:Bool}{sz:Nat}{cs:List V}{v:V}(ho:o.op=.field t x f)(hy:aJ x=some y)(hu:P.underlying t=some (.struct fs))(hf:fs[f]?=some g)
  (hg:aggT P g.type=some ag) (hs:bE P g.type=some sz) (hv:ev (get σ.env) y=.agg cs) (hp:part ag g.offset sz cs=some v):Ans P G σ a o w v:=by
 have h1:=h.opd hy;rw[hv]at h1;obtain⟨xs,h2,h3⟩:=Rel.agg_inv h1;obtain⟨k1,k2,k3,k4⟩:=pQ hp h3;refine⟨_,?_,VR.of_rel k4 k1⟩;unfold aY execOp;simp[ho,h2,Instr.field,run_underlying hu,hf,asAgg,vJ hg hs (by simpa using k2) k3]
theorem tE{b:Addr}{g:Field}{sz:Nat}(hs:bE P g.type=some sz)(h0:0<sz):(fieldPlace b g).run P w=.ok (b.add g.offset) w:=by
 unfold fieldPlace;simp only[Sem.run_bind,cX hs,Result.andThen_ok];rw[if_neg (by omega)];rfl
theorem iV{t:TypeId}{x:Operand}{f:Nat}{fs:Array Field}{g:Field}{sz:Nat}{b:Addr}(ho:o.op=.fieldAddr t x f)(hu:P.underlying t=some (.struct fs))(hf:fs[f]?=some g)(hs:bE P g.type=some sz)(h0:0<sz)
  (hx:a.eval x=.pointer (some b)):aY P a o w (.pointer (some (b.add g.offset))):=by
 unfold aY execOp;simp[ho,hx,Instr.fieldAt,run_underlying hu,hf,Instr.sureAddr,tE hs h0]
theorem aCP(h:SR Ω D M G σ a.tmps w){t:TypeId}{x:Operand}{y:Opd}{f:Nat}{fs:Array Field}{g:Field}{sz:Nat}{v:V}(ho:o.op=.fieldAddr t x f)(hy:aJ x=some y)(hu:P.underlying t=some (.struct fs))(hf:fs[f]?=some g)(hs:bE P g.type=some sz)(h0:0<sz)
  (hv:aB (get σ.env) t0 clk bx d (.fieldA g.offset y)=some v):Ans P G σ a o w v:=by
 have h1:=h.opd hy;simp only[aB]at hv;split at hv
 .rename_i s c off e1;rw[e1]at h1;cases hv;refine⟨_,iV ho hu hf hs h0 h1.1,?_⟩;rw[fO];exact⟨rfl,h1.2⟩
 .rename_i l cs off e1;rw[e1]at h1;cases hv;obtain⟨b,h2,h3⟩:=h1.ep_at;refine⟨_,iV ho hu hf hs h0 h2,?_⟩;rw[Go.Deep.add_add];exact h3 _
 .rename_i b off e1;rw[e1]at h1;cases hv;obtain⟨blk,h2,h3⟩:=Rel.bp_inv h1;refine⟨_,iV ho hu hf hs h0 h2,?_⟩;rw[fO];exact .bp _ _ _ h3
 .cases hv
theorem aA6{t e:TypeId}{x i:Operand}{z:Nat}{b:Addr}{n cap:Nat}{k:IntKind}{j:Int}(ho:o.op=.indexAddr t x i)(hu:P.underlying t=some (.slice e))(hs:bE P e=some z)(hx:a.eval x=.slice (some b) n cap)(hi:a.eval i=.int k j)(h0:0<=j)(h1:j<n) :
  aY P a o w (.pointer (some (b.add (j.toNat*z)))):=by
 unfold aY execOp;simp[ho,hx,hi,Instr.indexAt,asIntOf,run_underlying hu,cX hs,h0,h1]
theorem lV{t e:TypeId}{x i:Operand}{z len:Nat}{b:Addr}{k:IntKind}{j:Int}(ho:o.op=.indexAddr t x i)(hu:P.underlying t=some (.array len e))(hs:bE P e=some z)(hx:a.eval x=.pointer (some b))(hi:a.eval i=.int k j)(h0:0<=j)(h1:j<len) :
  aY P a o w (.pointer (some (b.add (j.toNat*z)))):=by
 unfold aY execOp;simp[ho,hx,hi,Instr.indexAt,asIntOf,run_underlying hu,cX hs,h0,h1,Instr.sureAddr]
theorem aFc(h:SR Ω D M G σ a.tmps w){t e:TypeId}{x i:Operand}{y j:Opd}{z:Nat}{v:V}(ho:o.op=.indexAddr t x i)(hy:aJ x=some y)(hj:aJ i=some j)(hu:P.underlying t=some (.slice e))(hs:bE P e=some z)
  (hv:aB (get σ.env) t0 clk bx d (.idxS z y j)=some v):Ans P G σ a o w v:=by
 have h1:=h.opd hy;simp only[aB]at hv;split at hv
 .rename_i l z' n cs k m e1 e2;rw[e1]at h1;split at hv
  .rename_i hb;obtain⟨rfl,h0,h2⟩:=hb;cases hv;obtain⟨b,cap,h3,_,h4⟩:=h1.sl_at;exact⟨_,aA6 ho hu hs h3 (h.opd_int hj e2) h0 h2,h4 _⟩
  .cases hv
 .cases hv
theorem aFd(h:SR Ω D M G σ a.tmps w){t e:TypeId}{x i:Operand}{y j:Opd}{z len:Nat}{v:V}(ho:o.op=.indexAddr t x i)(hy:aJ x=some y)(hj:aJ i=some j)(hu:P.underlying t=some (.array len e))(hs:bE P e=some z)
  (hv:aB (get σ.env) t0 clk bx d (.idxA len z y j)=some v):Ans P G σ a o w v:=by
 have h1:=h.opd hy;simp only[aB]at hv;split at hv
 .rename_i s c off k m e1 e2;rw[e1]at h1;split at hv
  .rename_i hb;cases hv;refine⟨_,lV ho hu hs h1.1 (h.opd_int hj e2) hb.1 hb.2,?_⟩;rw[fO];exact⟨rfl,h1.2⟩
  .cases hv
 .rename_i l cs off k m e1 e2;rw[e1]at h1;split at hv
  .rename_i hb;cases hv;obtain⟨b,h2,h3⟩:=h1.ep_at;refine⟨_,lV ho hu hs h2 (h.opd_int hj e2) hb.1 hb.2,?_⟩;rw[Go.Deep.add_add];exact h3 _
  .cases hv
 .rename_i b off k m e1 e2;rw[e1]at h1;split at hv
  .rename_i hb;cases hv;obtain⟨blk,h2,h3⟩:=Rel.bp_inv h1;refine⟨_,lV ho hu hs h2 (h.opd_int hj e2) hb.1 hb.2,?_⟩;rw[fO];exact .bp _ _ _ h3
  .cases hv
 .cases hv
theorem aHI(h:SR Ω D M G σ a.tmps w){t e:TypeId}{x i:Operand}{y j:Opd}{z len:Nat}{g:Bool}{v:V}(ho:o.op=.index t x i)(hy:aJ x=some y)(hj:aJ i=some j)(hu:P.underlying t=some (.array len e))(hs:bE P e=some z)(hg:aggT P e=some g)
  (hv:aB (get σ.env) t0 clk bx d (.ixA g len z y j)=some v):Ans P G σ a o w v:=by
 have h1:=h.opd hy;simp only[aB]at hv;split at hv
 .rename_i cs k m e1 e2;rw[e1]at h1;split at hv
  .rename_i hb;obtain⟨xs,h2,h3⟩:=Rel.agg_inv h1;obtain⟨k1,k2,k3,k4⟩:=pQ hv h3;refine⟨_,?_,VR.of_rel k4 k1⟩;unfold aY execOp;simp[ho,h2,Instr.index,h.opd_int hj e2,asIntOf,run_underlying hu,cX hs,hb.1,hb.2,vJ hg hs (by simpa using k2) k3]
  .cases hv
 .cases hv
theorem aHJ(h:SR Ω D M G σ a.tmps w){t:TypeId}{x i:Operand}{y j:Opd}{v:V}(ho:o.op=.index t x i)(hy:aJ x=some y)(hj:aJ i=some j)(hu:P.underlying t=some .string)
  (hv:aB (get σ.env) t0 clk bx d (.ixS y j)=some v):Ans P G σ a o w v:=by
 simp only[aB]at hv;split at hv
 .rename_i s k m e1 e2;obtain⟨b,h2,rfl⟩:=h.opd_str hy e1;split at hv
  .rename_i hb;cases hg:b.data.toList[m.toNat]? with
   |none=>rw[hg]at hv;cases hv
   |some u=>
    rw[hg]at hv;cases hv;refine⟨_,?_,.int _ _⟩;have hb2:b[m.toNat]?=some u:=by
     have hlt:=(List.getElem?_eq_some_iff.1 hg).1;have hlt':m.toNat<b.size:=by simpa using hlt
     rw[getElem?_pos b m.toNat hlt'];rw[List.getElem?_eq_getElem hlt]at hg;cases hg;rfl
    unfold aY execOp;simp[ho,h2,Instr.index,h.opd_int hj e2,asIntOf,run_underlying hu,hb,hb2]
  .cases hv
 .cases hv
end
end Go.VM
namespace Go.VM
open Go.RowKit
variable{Ω:World->Prop}
theorem qL(a:Addr)(n:Nat):(a.add n).off=a.off+n:=by unfold Addr.add;split<;>simp_all
theorem xP(a:Addr):a.add 0=a:=by unfold Addr.add;simp
section
variable{P:Program}{D M:Nat->Prop}{G:Gh}{σ:St}{a:Act}{w:World}{o:Oper}{t0:Nat->Nat}{clk d:Nat}{bx:BX}
theorem xQ(h:SR Ω D M G σ a.tmps w){hi:Option Operand}{hi':Option Opd}(hhi:aBc hi=some hi'){n cap m:Nat}(hb:mH hi' (get σ.env) n n=some m)(hn:n<=cap)(isSl:Bool) :
  m<=n/\(match(hi.map a.eval:Option Value),(none:Option Value)with
   |some v,some _=>Instr.sliceBound v cap .slice3B
   |some v,none=>Instr.sliceBound v cap (if isSl then .sliceAcap else .sliceAlen)
   |none,none=>pure n
   |none,some _=>stuck "Slice: max without high").run P w=.ok m w:=by
 cases hi with
 |none=>cases hhi;simp only[mH]at hb;cases hb;exact⟨Nat.le_refl _,rfl⟩
 |some x=>
  simp only[aBc]at hhi;cases hx:aJ x with
  |none=>rw[hx]at hhi;cases hhi
  |some y=>
   rw[hx]at hhi;cases hhi;simp only[mH]at hb;split at hb
   .rename_i k i e1;split at hb
    .rename_i hc;cases hb;refine⟨by omega,?_⟩;simp only[Option.map_some,h.opd_int hx e1];unfold Instr.sliceBound;simp only[Sem.run_bind,asIntOf,Sem.run_pure,Result.andThen_ok];rw[if_pos ⟨hc.1,by omega⟩];rfl
    .cases hb
   .cases hb
theorem xR(h:SR Ω D M G σ a.tmps w){lo:Option Operand}{lo':Option Opd}(hlo:aBc lo=some lo'){m l:Nat}(hb:mH lo' (get σ.env) m 0=some l) :
  l<=m/\(match(lo.map a.eval:Option Value)with
   |some v=>Instr.sliceBound v m (if(none:Option Value).isSome then .slice3C else .sliceB)
   |none=>pure 0).run P w=.ok l w:=by
 cases lo with
 |none=>cases hlo;simp only[mH]at hb;cases hb;exact⟨Nat.zero_le _,rfl⟩
 |some x=>
  simp only[aBc]at hlo;cases hx:aJ x with
  |none=>rw[hx]at hlo;cases hlo
  |some y=>
   rw[hx]at hlo;cases hlo;simp only[mH]at hb;split at hb
   .rename_i k i e1;split at hb
    .rename_i hc;cases hb;refine⟨by omega,?_⟩;simp only[Option.map_some,h.opd_int hx e1];unfold Instr.sliceBound;simp only[Sem.run_bind,asIntOf,Sem.run_pure,Result.andThen_ok];rw[if_pos ⟨hc.1,by omega⟩];rfl
    .cases hb
   .cases hb
theorem kU(h:SR Ω D M G σ a.tmps w){lo hi:Option Operand}{lo' hi':Option Opd}(hlo:aBc lo=some lo')(hhi:aBc hi=some hi'){n cap l m:Nat}(hb:dV lo' hi' (get σ.env) n=some (l,m))(hn:n<=cap)(isSl:Bool) :
  l<=m/\m<=n/\(Instr.sliceBounds isSl n cap (lo.map a.eval) (hi.map a.eval) none).run P w=.ok (l,m,cap) w:=by
 unfold dV at hb;split at hb
 .cases hb
 .rename_i m' h1;split at hb
  .cases hb
  .rename_i l' h2;cases hb;obtain⟨k1,k2⟩:=xQ (P:=P) h hhi h1 hn isSl;obtain⟨k3,k4⟩:=xR (P:=P) h hlo h2;refine⟨k3,k1,?_⟩;unfold Instr.sliceBounds;cases hi<;>cases lo<;>simp only[Option.map_none,Option.map_some,Sem.run_bind,Sem.run_pure,Result.andThen_ok]at k2 k4⊢<;>
    (try rw[k2])<;>(try simp only[Result.andThen_ok])<;>(try rw[k4])<;>simp_all
theorem aFe(h:SR Ω D M G σ a.tmps w){t:TypeId}{x:Operand}{y:Opd}{lo hi:Option Operand}{lo' hi':Option Opd}{v:V}(ho:o.op=.slice t x lo hi none)(hy:aJ x=some y)(hlo:aBc lo=some lo')(hhi:aBc hi=some hi')(hu:P.underlying t=some .string)
  (hv:aB (get σ.env) t0 clk bx d (.cutS y lo' hi')=some v):Ans P G σ a o w v:=by
 simp only[aB]at hv;split at hv
 .rename_i s e1;obtain⟨b,h2,rfl⟩:=h.opd_str hy e1;split at hv
  .rename_i l m hb;cases hv;obtain⟨k1,k2,k3⟩:=kU (P:=P) h hlo hhi hb (Nat.le_refl _) false;have hsz:b.data.toList.length=b.size:=by simp
   rw[hsz]at k2 k3;refine⟨.string (b.extract l m),?_,?_⟩
   .unfold aY execOp;simp only[ho,Instr.sliceAt,Instr.slice,h2,Sem.run_bind,run_underlying hu,Result.andThen_ok,Option.map_none,Option.isSome_none,Bool.false_eq_true,if_false];rw[k3];rfl
   · have : ((b.data.toList.take m).drop l) = (b.extract l m).data.toList := by
       rw[ByteArray.data_extract];simp[Array.toList_extract,List.take_drop,Nat.add_sub_cancel' k1]
     rw[this];exact .str _
  .cases hv
 .cases hv
theorem nW{b:Addr}{xs:List Value}{l m z n cap:Nat}(hr:Row w b xs)(hlen:xs.length=n*z)(hl:l<=m)(hm:m<=n)(hn:n<=cap) :
  Row w (if cap=l then b else b.add (l*z)) ((xs.take (m*z)).drop (l*z))/\((xs.take (m*z)).drop (l*z)).length=(m-l)*z:=by
 have h1:m*z<=n*z:=Nat.mul_le_mul_right z hm;have h2:l*z<=m*z:=Nat.mul_le_mul_right z hl;have hlen2:((xs.take (m*z)).drop (l*z)).length=(m-l)*z:=by
  rw[List.length_drop,List.length_take,hlen,Nat.sub_mul];omega
 refine⟨?_,hlen2⟩;split
 .rename_i hc;have:m=l:=by omega
  subst this;intro j u hu;have:=(List.getElem?_eq_some_iff.1 hu).1;rw[hlen2]at this;simp at this
 .intro j u hu;rw[Go.Deep.add_add];rw[List.getElem?_drop,List.getElem?_take]at hu;split at hu
  .exact hr _ u hu
  .cases hu
theorem aBf{G:Gh}{T:Nat->Nat}{lk:Nat->Bool}{lb:Lab}{b:Addr}{z n cap l m:Nat}(h:At G T lk w lb b (n*z) z n cap)(hl:l<=m)(hm:m<=n)(hn:n<=cap) :
  At G T lk w (cC l lb) (if cap=l then b else b.add (l*z)) ((m-l)*z) z (m-l) (cap-l):=by
 have h1:l*z+(m-l)*z<=n*z:=by rw[<-Nat.add_mul];exact Nat.mul_le_mul_right z (by omega)
 have hblk:(if cap=l then b else b.add (l*z)).block=b.block:=by split;rfl;rw[bM]
 have hoff:(if cap=l then b else b.add (l*z)).off+(m-l)*z<=b.off+n*z:=by
  split
  .have:m-l=0:=by omega
   rw[this];omega
  .rw[qL];omega
 have rd:∀nm,Rd G nm b (n*z)->Rd G nm (if cap=l then b else b.add (l*z)) ((m-l)*z):=by
  intro nm hr;unfold Rd at *;rw[hblk];rcases hr with⟨k,hr,hr2⟩|⟨hr,hr2⟩
  .exact .inl ⟨k,by rw[hblk];exact hr,by omega⟩
  .exact .inr ⟨hr,by omega⟩
 have same:l=0->(if cap=l then b else b.add (l*z))=b:=by
  intro h0;subst h0;split;rfl;rw[Nat.zero_mul,xP]
 cases lb with
 |none=>
  simp only[cC,At]at *;rw[hblk];rcases h with h0|⟨k,h,h2⟩|⟨nm,h2,h3,h4⟩
  .exact .inl (by omega)
  .exact .inr (.inl ⟨k,by rw[hblk];exact h,by omega⟩)
  .exact .inr (.inr ⟨nm,h2,h3,by omega⟩)
 |own nm k=>
  obtain⟨a1,a2,a3⟩:=h;by_cases h0:l=0
  .rw[show cC l (.own nm k)=.pre nm k from by simp[cC,h0]];refine⟨a1,rd nm a2,fun hk=>?_⟩;rw[same h0,h0,Nat.sub_zero];exact(a3 hk).1
  .rw[show cC l (.own nm k)=.view nm from by simp[cC,h0]];exact rd nm a2
 |pre nm k=>
  obtain⟨a1,a2,a3⟩:=h;by_cases h0:l=0
  .rw[show cC l (.pre nm k)=.pre nm k from by simp[cC,h0]];refine⟨a1,rd nm a2,fun hk=>?_⟩;rw[same h0,h0,Nat.sub_zero];exact a3 hk
  .rw[show cC l (.pre nm k)=.view nm from by simp[cC,h0]];exact rd nm a2
 |view nm=>exact rd nm h
 |rv=>exact h.elim
 |arg=>exact h.elim
theorem aHK(h:SR Ω D M G σ a.tmps w){t e:TypeId}{x:Operand}{y:Opd}{z:Nat}{lo hi:Option Operand}{lo' hi':Option Opd}{v:V}(ho:o.op=.slice t x lo hi none)(hy:aJ x=some y)(hlo:aBc lo=some lo')(hhi:aBc hi=some hi')(hu:P.underlying t=some (.slice e))(hs:bE P e=some z)
  (hv:aB (get σ.env) t0 clk bx d (.cut z y lo' hi')=some v):Ans P G σ a o w v:=by
 have h1:=h.opd hy;simp only[aB]at hv;split at hv
 .rename_i e1;rw[e1]at h1;have h2:=Rel.nils_inv h1;split at hv
  .rename_i p hb;cases hv;obtain⟨l,m⟩:=p;obtain⟨k1,k2,k3⟩:=kU (P:=P) h hlo hhi hb (Nat.le_refl _) true;obtain rfl:m=0:=by omega
   obtain rfl:l=0:=by omega
   refine⟨.slice none 0 0,?_,.nils⟩;unfold aY execOp;simp only[ho,Instr.sliceAt,Instr.slice,h2,Sem.run_bind,run_underlying hu,Result.andThen_ok,Option.map_none];rw[k3];simp only[Result.andThen_ok,cX hs,Sem.run_pure];rfl
  .cases hv
 .rename_i lb z' n cs e1;rw[e1]at h1;split at hv
  .rename_i l m hb;split at hv
   .rename_i hz;subst hz;cases hv;obtain⟨b,cap,h2,h3,h4,h5,h6⟩:=h1.sl_val;obtain⟨k1,k2,k3⟩:=kU (P:=P) h hlo hhi hb h4 true;refine⟨.slice (some (if cap=l then b else b.add (l*z))) (m-l) (cap-l),?_,?_⟩
    .unfold aY execOp;simp only[ho,Instr.sliceAt,Instr.slice,h2,Sem.run_bind,run_underlying hu,Result.andThen_ok,Option.map_none];rw[k3];simp only[Result.andThen_ok,cX hs,Sem.run_pure];split<;>rfl
    · have hcl : ((cs.take (m * z)).drop (l * z)).length = (m - l) * z := by
        have q1:m*z<=n*z:=Nat.mul_le_mul_right z k2;rw[List.length_drop,List.length_take,h6,Nat.sub_mul];omega
      cases lb with
      |rv s c u=>
       obtain⟨b',cap',h7,_,_,_,_,h8,h9,hnm,h10⟩:=h1;rw[h2]at h7;cases h7;refine⟨_,_,rfl,h3,by omega,by omega,hcl,?_,h9,iE hnm _ _,fun cs' hc=>?_⟩
       .have hblk:(if cap=l then b else b.add (l*z)).block=b.block:=by split;rfl;rw[bM]
        rw[hblk];exact h8
       .obtain⟨xs,h11,h12⟩:=h10 cs' hc;have hx:xs.length=n*z:=by rw[<-h12.length];exact h6
        exact⟨_,(nW h11 hx k1 k2 h4).1,(h12.take _).drop _⟩
      |arg i=>
       obtain⟨b',cap',xs,h7,h8,_⟩:=Rel.sl_inv h1;exact h8.elim
      |none=>
       obtain⟨b',cap',xs,h7,h8,_,h9,_,_,h10,h11,hnm⟩:=Rel.sl_inv h1;rw[h2]at h7;cases h7;obtain⟨q1,q2⟩:=nW h10 h9 k1 k2 h4;exact .sl _ _ _ _ _ _ _ (by rw[q2];rw[h9]at h8;exact aBf h8 k1 k2 h4) h3 q2 (by omega) (by omega) q1 ((h11.take _).drop _) (iE hnm _ _)
      |view nm=>
       obtain⟨b',cap',xs,h7,h8,_,h9,_,_,h10,h11,hnm⟩:=Rel.sl_inv h1;rw[h2]at h7;cases h7;obtain⟨q1,q2⟩:=nW h10 h9 k1 k2 h4;exact .sl _ _ _ _ _ _ _ (by rw[q2];rw[h9]at h8;exact aBf h8 k1 k2 h4) h3 q2 (by omega) (by omega) q1 ((h11.take _).drop _) (iE hnm _ _)
      |own nm k=>
       obtain⟨b',cap',xs,h7,h8,_,h9,_,_,h10,h11,hnm⟩:=Rel.sl_inv h1;rw[h2]at h7;cases h7;obtain⟨q1,q2⟩:=nW h10 h9 k1 k2 h4;have h12:=aBf (T:=σ.tips) (lk:=σ.lk) (by rw[h9]at h8;exact h8) k1 k2 h4;refine VR.of_rel ?_ (.sl _ _ _ _ _ _ _ (by rw[q2];exact h12) h3 q2 (by omega) (by omega) q1 ((h11.take _).drop _) (iE hnm _ _));simp only[cC];split<;>trivial
      |pre nm k=>
       obtain⟨b',cap',xs,h7,h8,_,h9,_,_,h10,h11,hnm⟩:=Rel.sl_inv h1;rw[h2]at h7;cases h7;obtain⟨q1,q2⟩:=nW h10 h9 k1 k2 h4;have h12:=aBf (T:=σ.tips) (lk:=σ.lk) (by rw[h9]at h8;exact h8) k1 k2 h4;refine VR.of_rel ?_ (.sl _ _ _ _ _ _ _ (by rw[q2];exact h12) h3 q2 (by omega) (by omega) q1 ((h11.take _).drop _) (iE hnm _ _));simp only[cC];split<;>trivial
   .cases hv
  .cases hv
 .cases hv
theorem aFf(h:SR Ω D M G σ a.tmps w){t e:TypeId}{x:Operand}{y:Opd}{s z len:Nat}{lo hi:Option Operand}{lo' hi':Option Opd}{v:V}(ho:o.op=.slice t x lo hi none)(hy:aJ x=some y)(hlo:aBc lo=some lo')(hhi:aBc hi=some hi')(hu:P.underlying t=some (.array len e))(hs:bE P e=some z)(hlen:len<=maxLen)
  (hv:aB (get σ.env) t0 clk bx d (.cutR s len z y lo' hi')=some v):Ans P G σ a o w v:=by
 have h1:=h.opd hy;simp only[aB]at hv;split at hv
 .rename_i s' c off e1;rw[e1]at h1;split at hv
  .rename_i c' n cs l m e2 hb;split at hv
   .rename_i hc;obtain⟨rfl,rfl,hc1,hc2,hnm⟩:=hc;cases hv;have hsl:=h.slots s;rw[e2]at hsl;obtain⟨q1,q2,q3,xs,et,q4,q5⟩:=hsl;obtain⟨k1,k2,k3⟩:=kU (P:=P) h hlo hhi hb (Nat.le_refl _) false;refine⟨.slice (some (if len=l then⟨G.rgB s c,off,none⟩else(⟨G.rgB s c,off,none⟩:Addr).add (l*z))) (m-l) (len-l),?_,?_⟩
    .unfold aY execOp;simp only[ho,Instr.sliceAt,h1.1,Sem.run_bind,run_underlying hu,Result.andThen_ok,Option.map_none,Instr.sureAddr,Sem.run_pure];rw[k3];simp only[Result.andThen_ok,cX hs]
    .have hxl:xs.toList.length=cs.length:=q5.length.symm;have hr1:Row w ⟨G.rgB s c,off,none⟩ ((xs.toList.drop off).take (len*z)):=by
      rw[jR];exact aBe (cR q4) off _
     have hl1:((xs.toList.drop off).take (len*z)).length=len*z:=by
      rw[List.length_take,List.length_drop,hxl];omega
     have hl2:((cs.drop off).take (len*z)).length=len*z:=by
      rw[List.length_take,List.length_drop];omega
     have q6:RelL w (At G σ.tips σ.lk w) G.bxB ((cs.drop off).take (len*z)) ((xs.toList.drop off).take (len*z)):=(q5.drop off).take _;have hm:((cs.drop off).take (len*z)).take (m*z)=(cs.drop off).take (m*z):=by
      rw[List.take_take,Nat.min_eq_left (Nat.mul_le_mul_right z k2)]
     obtain⟨r1,r2⟩:=nW hr1 hl1 k1 k2 (Nat.le_refl len);have hcl:(((cs.drop off).take (m*z)).drop (l*z)).length=(m-l)*z:=by
      rw[<-hm];have q7:m*z<=len*z:=Nat.mul_le_mul_right z k2;rw[List.length_drop,List.length_take,hl2,Nat.sub_mul];omega
     refine⟨_,_,rfl,hc2,by omega,by omega,hcl,?_,by omega,fV hnm fun v hv=>List.mem_of_mem_drop (List.mem_of_mem_take (List.mem_of_mem_drop hv)),fun cs' hc'=>⟨_,r1,?_⟩⟩
     .have hblk:(if len=l then(⟨G.rgB s c,off,none⟩:Addr)else(⟨G.rgB s c,off,none⟩:Addr).add (l*z)).block=G.rgB s c:=by split;rfl;rw[bM]
      rw[hblk];exact q3
     .rw[<-hm];exact(q6.take _).drop _
   .cases hv
  .cases hv
 .cases hv
theorem aCQ(h:SR Ω D M G σ a.tmps w){t e:TypeId}{x:Operand}{y:Opd}{n z:Nat}{v:V}(ho:o.op=.sliceToArrayPointer t x)(hy:aJ x=some y)(hu:P.underlying t=some (.array n e))
  (hv:aB (get σ.env) t0 clk bx d (.arrptr n z y)=some v):Ans P G σ a o w v:=by
 have h1:=h.opd hy;simp only[aB]at hv;split at hv
 .rename_i l z' m cs e1;rw[e1]at h1;split at hv
  .rename_i hc;cases hv;obtain⟨b,cap,h2,h3,h4⟩:=h1.sl_at;have h5:=h4 0;rw[xP]at h5;refine⟨_,?_,h5⟩;unfold aY execOp;simp only[ho,Instr.arrayAt,h2,Sem.run_bind,run_underlying hu,Result.andThen_ok,Sem.run_pure];rw[if_neg (by omega)];rfl
  .cases hv
 .cases hv
theorem xS{A:Pl}{B:List Nat}{cs:List V}{bs:List UInt8}{xs:List Value}(hb:gR cs=some bs)(h:RelL w A B cs xs) :
  ∃ns:List Int,xs=ns.map (Value.int .u8)/\bs=ns.map fun n=>UInt8.ofNat n.toNat:=by
 induction cs generalizing bs xs with
 |nil=>cases h;simp only[gR]at hb;cases hb;exact⟨[],rfl,rfl⟩
 |cons v r ih=>
  cases h with
  |cons _ c _ xs h1 h2=>
   simp only[gR]at hb;split at hb
   .rename_i b l e1 e2;cases hb;obtain⟨ns,h3,h4⟩:=ih e2 h2;unfold aAV at e1;split at e1
    .rename_i n;cases e1;have h5:=Rel.int_inv h1;exact⟨n::ns,by rw[h5,h3];rfl,by rw[h4];rfl⟩
    .cases e1
   .cases hb
theorem aCR(ns:List Int)(s:ByteArray):(ns.foldl (fun r n=>r.push (UInt8.ofNat n.toNat)) s).data.toList=s.data.toList++ns.map fun n=>UInt8.ofNat n.toNat:=by
 induction ns generalizing s with
 |nil=>simp
 |cons n ns ih=>simp only[List.foldl_cons,ih,List.map_cons];simp[ByteArray.push]
theorem aDe(h:SR Ω D M G σ a.tmps w){av:List Nat}{src dst e:TypeId}{x:Operand}{y:Opd}{v:V}(ho:o.op=.convert src dst x)(hy:aJ x=some y)(hs:P.underlying src=some (.slice e))(he:P.underlying e=some (.int .u8))(hd:P.underlying dst=some .string)
  (hv:aB (get σ.env) t0 clk bx d (.toStr y av)=some v):Ans P G σ a o w v:=by
 have h1:=h.opd hy;simp only[aB]at hv;split at hv
 .rename_i e1;rw[e1]at h1;cases hv;have h2:=Rel.nils_inv h1;refine⟨.string ByteArray.empty,?_,Rel.str ByteArray.empty⟩;unfold aY execOp;simp[ho,h2,run_convert_bytes_string (P:=P) w src dst e none 0 0 hs he hd,Conv.bytesToString]
 .rename_i l n cs e1;rw[e1]at h1;split at hv
  .rename_i hl;cases hb:gR cs with
   |none=>rw[hb]at hv;cases hv
   |some bs=>
    rw[hb]at hv;cases hv;obtain⟨b,cap,xs,h2,h3,h4,h5,h6,h7,h8,_⟩:=h1.sl_row (gU hl);obtain⟨ns,h9,h10⟩:=xS hb h8;subst h9;have hlen:(ns.map (Value.int .u8)).length=n:=by simpa using h4
    have hload:=run_loadCells_list (P:=P) (w:=w) b (ns.map (Value.int .u8)) (fun j u hu=>h7 j u hu);rw[hlen]at hload;refine⟨.string (ns.foldl (fun r n=>r.push (UInt8.ofNat n.toNat)) ByteArray.empty),?_,?_⟩
    .unfold aY execOp;simp[ho,h2,run_convert_bytes_string (P:=P) w src dst e (some b) n cap hs he hd,run_bytesToString w b n cap ns hload]
    · have : bs = (ns.foldl (fun r n => r.push (UInt8.ofNat n.toNat)) ByteArray.empty).data.toList := by
        rw[aCR,h10];simp
      rw[this];exact .str _
  .cases hv
 .cases hv
end
end Go.VM
namespace Go.VM
open Go.RowKit
section scal
variable{P:Program}{w:World}{A:Pl}{B:List Nat}{t:TypeId}
theorem aDf{op:BinOp}{k:IntKind}{a b:Int}{v:V}(h:vG op k a b=some v):∃c,(Go.binOp op t (.int k a) (.int k b)).run P w=.ok c w/\Rel w A B v c/\v.far:=by
 cases op<;>simp only[vG,Option.some.injEq,reduceCtorEq]at h
 case add=>subst h;exact⟨_,by simp[Go.binOp,Op.intArith],.int _ _,trivial⟩
 case sub=>subst h;exact⟨_,by simp[Go.binOp,Op.intArith],.int _ _,trivial⟩
 case mul=>subst h;exact⟨_,by simp[Go.binOp,Op.intArith],.int _ _,trivial⟩
 case quo=>
  split at h
  .cases h
  .rename_i hb;cases h;exact⟨_,by simp[Go.binOp,Op.intDiv,hb],.int _ _,trivial⟩
 case rem=>
  split at h
  .cases h
  .rename_i hb;cases h;exact⟨_,by simp[Go.binOp,Op.intDiv,hb],.int _ _,trivial⟩
 case and=>subst h;exact⟨_,by simp[Go.binOp,intBits_and],.int _ _,trivial⟩
 case or=>subst h;exact⟨_,by simp[Go.binOp,intBits_or],.int _ _,trivial⟩
 case xor=>subst h;exact⟨_,by simp[Go.binOp,intBits_xor],.int _ _,trivial⟩
 case andNot=>subst h;exact⟨_,by simp[Go.binOp,intBits_andNot],.int _ _,trivial⟩
 case eql=>subst h;exact⟨_,by simp[Go.binOp,Op.intCmp],.bool _,trivial⟩
 case neq=>subst h;exact⟨_,by simp[Go.binOp,Op.intCmp],.bool _,trivial⟩
 case lss=>subst h;exact⟨_,by simp[Go.binOp,Op.intCmp],.bool _,trivial⟩
 case leq=>subst h;exact⟨_,by simp[Go.binOp,Op.intCmp],.bool _,trivial⟩
 case gtr=>subst h;exact⟨.bool (decide (a>b)),by simp[Go.binOp,Op.intCmp],.bool _,trivial⟩
 case geq=>subst h;exact⟨.bool (decide (a>=b)),by simp[Go.binOp,Op.intCmp],.bool _,trivial⟩
theorem qM{op:BinOp}(hop:op=.shl\/op=.shr){k k':IntKind}{a b:Int}{v:V}(h:gC op k a b=some v):∃c,(Go.binOp op t (.int k a) (.int k' b)).run P w=.ok c w/\Rel w A B v c/\v.far:=by
 unfold gC at h;split at h
 .cases h
 .rename_i hb;rcases hop with rfl|rfl
  .cases h;exact⟨_,by simp[Go.binOp,Op.shift,hb],.int _ _,trivial⟩
  .cases h;exact⟨_,by simp[Go.binOp,Op.shift,hb],.int _ _,trivial⟩
theorem aDg{op:BinOp}{x y:ByteArray}{v:V}(h:aCI op x.data.toList y.data.toList=some v):∃c,(Go.binOp op t (.string x) (.string y)).run P w=.ok c w/\Rel w A B v c/\v.far:=by
 cases op<;>simp only[aCI,Option.some.injEq,reduceCtorEq]at h
 case add=>
  split at h
  .rename_i hl;cases h;refine⟨.string (x++y),?_,?_,trivial⟩
   · have h1 : ¬ (((x.size + y.size : Nat) : Int) > IntKind.i64.max) := by
       have e1:x.data.toList.length=x.size:=by simp
       have e2:y.data.toList.length=y.size:=by simp
       have e3:IntKind.i64.max=9223372036854775807:=by decide
       rw[e3];omega
     simp only[Go.binOp,Op.stringOp];rw[if_neg h1];rfl
   .have:x.data.toList++y.data.toList=(x++y).data.toList:=by simp[ByteArray.data_append]
    rw[this];exact .str _
  .cases h
 all_goals
  subst h;exact⟨_,by simp only[Go.binOp,Op.stringOp,ByteArray.toList_eq];rfl,.bool _,trivial⟩
theorem aA7{op:BinOp}{x y:Operand}{k k':IntKind}{a b:Int}:(eqGuard op t x y (.int k a) (.int k' b)).run P w=.ok () w:=by
 unfold eqGuard;cases op<;>rfl
theorem aA8{op:BinOp}{x y:Operand}{a b:ByteArray}:(eqGuard op t x y (.string a) (.string b)).run P w=.ok () w:=by
 unfold eqGuard;cases op<;>rfl
theorem lL{k1 k2:List CK}{cs ds:List V}{b:Bool}(h:aZ (k1++k2) cs ds=some b) :
  ∃b1 b2,aZ k1 (cs.take k1.length) (ds.take k1.length)=some b1/\aZ k2 (cs.drop k1.length) (ds.drop k1.length)=some b2/\b=(b1&&b2):=by
 induction k1 generalizing cs ds b with
 |nil=>exact⟨true,b,by simp[aZ],by simpa using h,by simp⟩
 |cons k ks ih=>
  cases cs with
  |nil=>simp[aZ]at h
  |cons c cs=>
   cases ds with
   |nil=>simp[aZ]at h
   |cons d ds=>
    simp only[List.cons_append,aZ]at h;split at h
    .rename_i a b' h1 h2;cases h;obtain⟨b1,b2,h3,h4,h5⟩:=ih h2;refine⟨a&&b1,b2,?_,by simpa using h4,by rw[h5,Bool.and_assoc]⟩;simp only[List.length_cons,List.take_succ_cons,aZ,h1,h3]
    .cases h
theorem gZ{ks:List CK}{cs ds:List V}{b:Bool}(h:aZ ks cs ds=some b):cs.length=ks.length/\ds.length=ks.length:=by
 induction ks generalizing cs ds b with
 |nil=>cases cs<;>cases ds<;>simp[aZ]at h<;>simp
 |cons k ks ih=>
  cases cs with
  |nil=>simp[aZ]at h
  |cons c cs=>
   cases ds with
   |nil=>simp[aZ]at h
   |cons d ds=>
    simp only[aZ]at h;split at h
    .rename_i a b' h1 h2;have:=ih h2;simp[this]
    .cases h
def vL(g:Bool)(xs:List Value):Value:=if g then .agg xs.toArray else xs.headD Go.undef
def CK.fits(P:Program)(t:TypeId):CK->Prop
 |.i=>∃q,P.underlying t=some (.int q)
 |.b=>P.underlying t=some .bool
 |.s=>P.underlying t=some .string
theorem aCS{c d:Value}{k:CK}{v u:V}{b:Bool}(hv:Rel w A B v c)(hu:Rel w A B u d)(h:gD k v u=some b)(n:Nat)
  (ht:k.fits P t):(Op.equalIn (n+1) t c d).run P w=.ok b w:=by
 cases k with
 |i=>
  cases v with
  |int k1 a=>
   cases u with
   |int k2 b'=>
    by_cases hk:k1=k2
    .subst hk;simp only[gD,if_true,Option.some.injEq]at h;subst h;obtain⟨q,hq⟩:=ht;rw[Rel.int_inv hv,Rel.int_inv hu];exact run_equalIn_int w n t k1 q _ _ hq
    .simp[gD,hk]at h
   |_=>simp[gD]at h
  |_=>simp[gD]at h
 |b=>
  cases v with
  |bool a=>
   cases u with
   |bool b'=>
    simp only[gD,Option.some.injEq]at h;subst h;rw[Rel.bool_inv hv,Rel.bool_inv hu];exact run_equalIn_bool w n t _ _ ht
   |_=>simp[gD]at h
  |_=>simp[gD]at h
 |s=>
  cases v with
  |str a=>
   cases u with
   |str b'=>
    simp only[gD,Option.some.injEq]at h;subst h;obtain⟨x,rfl,hx⟩:=Rel.str_inv hv;obtain⟨y,rfl,hy⟩:=Rel.str_inv hu;rw[run_equalIn_string w n t x y ht,ByteArray.toList_eq,ByteArray.toList_eq,hx,hy]
   |_=>simp[gD]at h
  |_=>simp[gD]at h
theorem xT{t:TypeId}{n:Nat}(h:bE P t=some n):P.cellsOf t=n:=by
 unfold bE at h;unfold Program.cellsOf;rw[h];rfl
theorem pR{g:Bool}{off sz:Nat}{e:TypeId}{xs:List Value}(hg:aggT P e=some g)(hs:bE P e=some sz)(hl:off+sz<=xs.length)(h1:g=false->sz=1) :
  (Go.part e xs.toArray off).run P w=.ok (vL g ((xs.drop off).take sz)) w:=by
 rw[vJ hg hs (by simpa using hl) h1];rfl
theorem aCT:∀(k:Nat) (t:TypeId) (ks:List CK),aAY P k t=some ks->∃g,aggT P t=some g/\bE P t=some ks.length/\(g=false->ks.length=1)/\
  ∀(n:Nat),k<=n->∀(cs ds:List V) (xs ys:List Value) (b:Bool),RelL w A B cs xs->RelL w A B ds ys->aZ ks cs ds=some b->(Op.equalIn n t (vL g xs) (vL g ys)).run P w=.ok b w:=by
 intro k
 induction k with
 |zero=>intro t ks h;cases h
 |succ k ih=>
  intro t ks h
  have scalar : ∀ (c : CK), ks = [c] → bE P t = some 1 → aggT P t = some false → c.fits P t →
      ∃g,aggT P t=some g/\bE P t=some ks.length/\(g=false->ks.length=1)/\
      ∀(n:Nat),k+1<=n->∀(cs ds:List V) (xs ys:List Value) (b:Bool),RelL w A B cs xs->RelL w A B ds ys->aZ ks cs ds=some b->(Op.equalIn n t (vL g xs) (vL g ys)).run P w=.ok b w:=by
   intro c hks hs hg ht;subst hks;refine⟨false,hg,hs,fun _=>rfl,fun n hn cs ds xs ys b hc hd he=>?_⟩;obtain⟨m,rfl⟩:∃m,n=m+1:=⟨n-1,by omega⟩;obtain⟨l1,l2⟩:=gZ he
   match cs,ds,hc,hd,l1,l2 with
   |[v],[u],.cons _ c1 _ _ h1 .nil,.cons _ c2 _ _ h2 .nil,_,_=>
    simp only[aZ]at he;split at he
    .rename_i a b' h3 h4;cases h4;cases he;simp only[vL,Bool.false_eq_true,if_false,List.headD_cons,Bool.and_true];exact aCS h1 h2 h3 m ht
    .cases he
  unfold aAY at h;split at h
  .rename_i hu;split at h
   .rename_i hs;cases h;exact scalar .b rfl hs (by simp[aggT,hu]) hu
   .cases h
  .rename_i q hu;split at h
   .rename_i hs;cases h;exact scalar .i rfl hs (by simp[aggT,hu]) ⟨q,hu⟩
   .cases h
  .rename_i hu;split at h
   .rename_i hs;cases h;exact scalar .s rfl hs (by simp[aggT,hu]) hu
   .cases h
  .rename_i fs hu;split at h
   .rename_i ks' hfs;split at h
    .rename_i hc;cases h;refine⟨true,by simp[aggT,hu],hc.2,by simp,fun n hn cs ds xs ys b h1 h2 he=>?_⟩;obtain⟨m,rfl⟩:∃m,n=m+1:=⟨n-1,by omega⟩;have hfo:P.fieldsOf t=fs:=by simp[Program.fieldsOf,hu]
     simp only[vL,if_true];rw[run_equalIn_struct w m t _ _ (by rw[hfo];exact hu) hc.1,hfo];have key:∀(r:List Field) (off:Nat) (ls:List CK) (b:Bool),xM P (aAY P k) r off=some ls->aZ ls (cs.drop off) (ds.drop off)=some b->(Op.eqFields m xs.toArray ys.toArray r).run P w=.ok b w:=by
      intro r
      induction r with
      |nil=>
       intro off ls b hf he;simp only[xM]at hf;cases hf;have:b=true:=by
        cases hh:cs.drop off<;>cases hh2:ds.drop off<;>simp[hh,hh2,aZ]at he;exact he
       subst this;simp[Op.eqFields]
      |cons f r ihr=>
       intro off ls b hf he;simp only[xM]at hf;split at hf
       .rename_i k1 k2 e1 e2;split at hf
        .rename_i hcc;cases hf;obtain⟨hnm,hoff,hlen⟩:=hcc;have hpos:=hlen.2;obtain⟨b1,b2,he1,he2,rfl⟩:=lL he;obtain⟨g,hg,hs,hg1,hrun⟩:=ih f.type k1 e1;obtain⟨l1,l2⟩:=gZ he1;have hl1:off+k1.length<=cs.length:=by
          rw[List.length_take,List.length_drop]at l1;omega
         have hl2:off+k1.length<=ds.length:=by
          rw[List.length_take,List.length_drop]at l2;omega
         have hx:=h1.length;have hy:=h2.length;have p1:=pR (P:=P) (w:=w) hg hs (xs:=xs) (off:=off) (by omega) hg1;have p2:=pR (P:=P) (w:=w) hg hs (xs:=ys) (off:=off) (by omega) hg1;have p3:=hrun m (by omega) _ _ _ _ b1 ((h1.drop off).take k1.length) ((h2.drop off).take k1.length) he1;simp only[Op.eqFields,hnm,ne_eq,not_false_eq_true,if_true,Sem.run_bind,hoff,p1,p2,p3,Result.andThen_ok];cases b1 with
         |false=>simp
         |true=>
          have hcl:P.cellsOf f.type=k1.length:=hlen.1.symm;have:=ihr (off+P.cellsOf f.type) k2 b2 e2 (by rw[hcl];simpa[List.drop_drop]using he2);simpa using this
        .cases hf
       .cases hf
     exact key fs.toList 0 ks b hfs (by simpa using he)
    .cases h
   .cases h
  .rename_i n' e hu;split at h
   .rename_i ks' hke;split at h
    .rename_i hc;cases h;obtain⟨hse,hst,hpos⟩:=hc;obtain⟨g,hg,hs,hg1,hrun⟩:=ih e ks' hke;have hlen:(List.replicate n' ks').flatten.length=n'*ks'.length:=by simp
     refine⟨true,by simp[aggT,hu],by rw[hlen];exact hst,by simp,fun n hn cs ds xs ys b h1 h2 he=>?_⟩;obtain⟨m,rfl⟩:∃m,n=m+1:=⟨n-1,by omega⟩;obtain⟨i,hi⟩:∃i,P.info? e=some i:=by
      unfold bE at hse;cases hq:P.info? e with
      |none=>rw[hq]at hse;cases hse
      |some i=>exact⟨i,rfl⟩
     simp only[vL,if_true];rw[run_equalIn_array w m _ _ hu hi,xT hse,List.range_eq_range'];have hx:=h1.length;have hy:=h2.length;have key:∀(q j:Nat) (b:Bool),aZ (List.replicate q ks').flatten (cs.drop (j*ks'.length)) (ds.drop (j*ks'.length))=some b->(Op.eqItems m e ks'.length xs.toArray ys.toArray (List.range' j q)).run P w=.ok b w:=by
      intro q
      induction q with
      |zero=>
       intro j b he;have:b=true:=by
        cases hh:cs.drop (j*ks'.length)<;>cases hh2:ds.drop (j*ks'.length)<;>simp[hh,hh2,aZ]at he;exact he
       subst this;simp[Op.eqItems]
      |succ q ihq=>
       intro j b he;rw[List.replicate_succ,List.flatten_cons]at he;obtain⟨b1,b2,he1,he2,rfl⟩:=lL he;obtain⟨l1,l2⟩:=gZ he1;have hl1:j*ks'.length+ks'.length<=cs.length:=by
        rw[List.length_take,List.length_drop]at l1;omega
       have hl2:j*ks'.length+ks'.length<=ds.length:=by
        rw[List.length_take,List.length_drop]at l2;omega
       have p1:=pR (P:=P) (w:=w) hg hs (xs:=xs) (off:=j*ks'.length) (by omega) hg1;have p2:=pR (P:=P) (w:=w) hg hs (xs:=ys) (off:=j*ks'.length) (by omega) hg1;have p3:=hrun m (by omega) _ _ _ _ b1 ((h1.drop (j*ks'.length)).take ks'.length) ((h2.drop (j*ks'.length)).take ks'.length) he1;rw[List.range'_succ];simp only[Op.eqItems,Sem.run_bind,p1,p2,p3,Result.andThen_ok];cases b1 with
       |false=>simp
       |true=>
        have:=ihq (j+1) b2 (by rw[Nat.add_mul,Nat.one_mul];simpa[List.drop_drop]using he2);simpa using this
     exact key n' 0 b (by simpa using he)
    .cases h
   .cases h
  .cases h
end scal
end Go.VM
namespace Go.VM
open Go.RowKit
variable{Ω:World->Prop}
theorem aHL(xs:List Value):∀(cells:Array Value) (off k:Nat),off+k+xs.length<=cells.size->
  ((xs.zipIdx k).foldl (fun cs (x:Value×Nat)=>cs.setIfInBounds (off+x.2) x.1) cells).toList=cells.toList.take (off+k)++xs++cells.toList.drop (off+k+xs.length):=by
 induction xs with
 |nil=>intro cells off k h;simp
 |cons x xs ih=>
  intro cells off k h;simp only[List.length_cons]at h;rw[List.zipIdx_cons,List.foldl_cons,ih _ off (k+1) (by simp;omega)];simp only[Array.toList_setIfInBounds,List.length_cons];have hlt:off+k<cells.toList.length:=by simp;omega
  rw[show off+(k+1)=(off+k)+1 from by omega];have e1:(cells.toList.set (off+k) x).take (off+k+1)=cells.toList.take (off+k)++[x]:=by
   rw[List.take_add_one,List.take_set];simp[List.getElem?_set];rw[if_pos (by simpa using hlt)];simp;rw[List.set_eq_of_length_le];simp;omega
  have e2:(cells.toList.set (off+k) x).drop (off+k+1+xs.length)=cells.toList.drop (off+k+(xs.length+1)):=by
   rw[List.drop_set_of_lt (by omega)];congr 1;omega
  rw[e1,e2];simp
theorem aCU(v:Value)(cells:Array Value)(off:Nat)(h:off+v.cells.size<=cells.size) :
  (v.cells.zipIdx.foldl (fun cs (x:Value×Nat)=>cs.setIfInBounds (off+x.2) x.1) cells).toList=cells.toList.take off++v.cells.toList++cells.toList.drop (off+v.cells.toList.length):=by
 have:=aHL v.cells.toList cells off 0 (by simpa using h);rw[<-Array.foldl_toList];simpa[Array.toList_zipIdx]using this
inductive PartsOk(place:Nat->Option (Nat×Nat)):List (Nat×Operand)->List (Nat×Nat×Opd)->Prop
 |nil:PartsOk place [] []
 |cons (i:Nat) (x:Operand) (off sz:Nat) (y:Opd) (r:List (Nat×Operand)) (s:List (Nat×Nat×Opd)):place i=some (off,sz)->aJ x=some y->PartsOk place r s->PartsOk place ((i,x)::r) ((off,sz,y)::s)
section
variable{P:Program}{D M:Nat->Prop}{G:Gh}{σ:St}{a:Act}{w:World}{o:Oper}{t0:Nat->Nat}{clk d:Nat}{bx:BX}
theorem kV{v:V}{sz off len:Nat}(h:fits v sz off len=true):v.ok=true/\v.cells.length=sz/\off+sz<=len:=by
 unfold fits at h;simp only[Bool.and_eq_true,beq_iff_eq,decide_eq_true_eq]at h;exact⟨h.1.1,h.1.2,h.2⟩
theorem vM(h:SR Ω D M G σ a.tmps w){place:Nat->Option (Nat×Nat)}{ps:List (Nat×Operand)}{qs:List (Nat×Nat×Opd)}(hp:PartsOk place ps qs) :
  ∀{zs cs:List V} {xs:Array Value},fill (get σ.env) zs qs=some cs->RelL w (At G σ.tips σ.lk w) G.bxB zs xs.toList->
   ∃ys:Array Value,Instr.fill place xs (ps.map fun(i,x)=>(i,a.eval x))=some ys/\RelL w (At G σ.tips σ.lk w) G.bxB cs ys.toList:=by
 induction hp with
 |nil=>intro zs cs xs hf hr;simp only[fill]at hf;cases hf;exact⟨xs,rfl,hr⟩
 |cons i x off sz y r s h1 h2 h3 ih=>
  intro zs cs xs hf hr;simp only[fill]at hf;split at hf
  .rename_i hfit;obtain⟨k1,k2,k3⟩:=kV hfit;have hrel:=h.opd_ok h2 k1;have hc:=hrel.cells (V.ok_known k1).1 (V.ok_known k1).2;have hcl:=hc.length;have hsz:(a.eval x).cells.size=sz:=by rw[<-k2,hcl];simp
   have hxl:xs.size=zs.length:=by rw[hr.length];simp
   have hspl:=hr.splice hc off;have hq:=aCU (a.eval x) xs off (by omega);rw[<-hq]at hspl;obtain⟨ys,h4,h5⟩:=ih hf hspl;refine⟨ys,?_,h5⟩;simp only[List.map_cons,Instr.fill,h1];rw[if_neg (by simp[hsz];omega)];exact h4
  .cases hf
theorem xU{fs:Array Field}:∀{ps:List (Nat×Operand)} {qs:List (Nat×Nat×Opd)},tU P fs ps=some qs->PartsOk (fun i=>(fs[i]?).bind fun f=>(bE P f.type).map fun sz=>(f.offset,sz)) ps qs
 |[],qs,h=>by cases h;exact .nil
 |(i,x)::r,qs,h=>by
  simp only[tU]at h;split at h
  .rename_i f y ys e1 e2 e3;cases hs:bE P f.type with
   |none=>rw[hs]at h;cases h
   |some sz=>
    rw[hs]at h;cases h;exact .cons _ _ _ _ _ _ _ (by simp[e1,hs]) e2 (xU e3)
  .cases h
theorem qN{z:Nat}:∀{ps:List (Nat×Operand)} {qs:List (Nat×Nat×Opd)},jJ z ps=some qs->PartsOk (fun i=>some (i*z,z)) ps qs
 |[],qs,h=>by cases h;exact .nil
 |(i,x)::r,qs,h=>by
  simp only[jJ]at h;split at h
  .rename_i y ys e1 e2;cases h;exact .cons _ _ _ _ _ _ _ rfl e1 (qN e2)
  .cases h
theorem fW{t:TypeId}{zs:List V}(h:fC P t=some zs):∃i z,P.info? t=some i/\i.zero=some z/\z.cells.size=i.size/\0<i.size/\ofCells z.cells.toList=some zs:=by
 unfold fC at h;split at h
 .rename_i i hi;split at h
  .rename_i z hz;split at h
   .rename_i hc;exact⟨i,z,hi,hz,hc.1,hc.2,h⟩
   .cases h
  .cases h
 .cases h
theorem aA9{fs:List Field}(h:(fs.all fun f=>(P.info? f.type).isSome)=true):∃ps,fs.mapM (fun f=>(P.info? f.type).map fun i=>(f.offset,i.size))=some ps/\∀(i:Nat),ps[i]?=(fs[i]?).bind fun f=>(bE P f.type).map fun sz=>(f.offset,sz):=by
 induction fs with
 |nil=>exact⟨[],rfl,fun i=>by simp⟩
 |cons f r ih=>
  simp only[List.all_cons,Bool.and_eq_true]at h;obtain⟨ps,h1,h2⟩:=ih h.2;obtain⟨i,hi⟩:=Option.isSome_iff_exists.1 h.1;refine⟨(f.offset,i.size)::ps,?_,fun j=>?_⟩
  .simp[List.mapM_cons,hi,h1]
  .cases j with
   |zero=>simp[bE,hi]
   |succ j=>simpa using h2 j
theorem xV(h:SR Ω D M G σ a.tmps w){t:TypeId}{parts:Array (Nat×Operand)}{zs:List V}{qs:List (Nat×Nat×Opd)}{v:V}(ho:o.op=.build t parts)(hz:fC P t=some zs)
  (hq:(∃fs,P.underlying t=some (.struct fs)/\(fs.toList.all fun f=>(P.info? f.type).isSome)=true/\tU P fs parts.toList=some qs)\/(∃n e z,P.underlying t=some (.array n e)/\bE P e=some z/\jJ z parts.toList=some qs))
  (hv:aB (get σ.env) t0 clk bx d (.build zs qs)=some v):Ans P G σ a o w v:=by
 obtain⟨it,z,hi,hzz,hzs,hpos,hof⟩:=fW hz;simp only[aB]at hv;cases hf:fill (get σ.env) zs qs with
 |none=>rw[hf]at hv;cases hv
 |some cs=>
  rw[hf]at hv;cases hv;have hzr:RelL w (At G σ.tips σ.lk w) G.bxB zs z.cells.toList:=dQ hof;have fin:∀ys:Array Value,P.built t ((parts.map fun(i,x)=>(i,a.eval x)).toList)=some ys->RelL w (At G σ.tips σ.lk w) G.bxB cs ys.toList->Ans P G σ a o w (.agg cs):=by
   intro ys hb hr;refine⟨.agg ys,?_,.agg _ _ hr⟩;unfold aY execOp;simp only[ho,Sem.run_bind,run_build w t _ ys hb,Result.andThen_ok];rfl
  rcases hq with⟨fs,hu,hall,hps⟩|⟨n,e,sz,hu,hs,hps⟩
  .obtain⟨ys,h1,h2⟩:=vM h (xU hps) hf hzr;obtain⟨ps,h3,h4⟩:=aA9 hall;refine fin ys ?_ h2;unfold Program.built;simp only[hi,hu,hzz,h3];have hpl:(fun x:Nat=>ps.toArray[x]?)=fun i=>(fs[i]?).bind fun f=>(bE P f.type).map fun sz=>(f.offset,sz):=by
    funext i
    rw[List.getElem?_toArray,h4 i,Array.getElem?_toList]
   rw[hpl,Array.toList_map];exact h1
  .obtain⟨ys,h1,h2⟩:=vM h (qN hps) hf hzr;refine fin ys ?_ h2;unfold bE at hs;cases hie:P.info? e with
   |none=>rw[hie]at hs;cases hs
   |some ie=>
    rw[hie]at hs;cases hs;unfold Program.built;simp only[hi,hu,hzz,hie];rw[Array.toList_map];exact h1
theorem aFg(h:SR Ω D M G σ a.tmps w){op:UnOp}{t:TypeId}{x:Operand}{y:Opd}{v:V}(ho:o.op=.unOp op t x)(hy:aJ x=some y)(hv:unV op (ev (get σ.env) y)=some v):Ans P G σ a o w v:=by
 unfold unV at hv;split at hv
 .rename_i k n e1;cases hv;refine⟨_,?_,.int _ _⟩;unfold aY execOp;simp[ho,h.opd_int hy e1,Op.unary,Op.intArith]
 .rename_i k n e1;cases hv;refine⟨_,?_,.int _ _⟩;unfold aY execOp;simp[ho,h.opd_int hy e1,unary_xor,intBits_xor]
 .rename_i b e1;cases hv;refine⟨_,?_,.bool _⟩;unfold aY execOp;simp[ho,h.opd_bool hy e1,Op.unary]
 .cases hv
theorem nX{op:BinOp}{t yt:TypeId}{x y:Operand}{c:Value}(ho:o.op=.binOp op t x y yt)(hg:(eqGuard op t x y (a.eval x) (a.eval y)).run P w=.ok () w)(hr:(Go.binOp op t (a.eval x) (a.eval y)).run P w=.ok c w):aY P a o w c:=by
 unfold aY execOp;simp only[ho,Sem.run_bind,hg,hr,Result.andThen_ok];rfl
theorem aHM(h:SR Ω D M G σ a.tmps w){op:BinOp}{t yt:TypeId}{x y:Operand}{x' y':Opd}{v:V}(ho:o.op=.binOp op t x y yt)(hx:aJ x=some x')(hy:aJ y=some y')(hv:aGn op (ev (get σ.env) x') (ev (get σ.env) y')=some v):Ans P G σ a o w v:=by
 unfold aGn at hv;split at hv
 .rename_i k m k' n e1 e2;have hg:(eqGuard op t x y (a.eval x) (a.eval y)).run P w=.ok () w:=by rw[h.opd_int hx e1,h.opd_int hy e2];exact aA7
  have main:∀{c:Value},(Go.binOp op t (.int k m) (.int k' n)).run P w=.ok c w/\Rel w (At G σ.tips σ.lk w) G.bxB v c/\v.far->Ans P G σ a o w v:=fun⟨q1,q2,q3⟩=>
   ⟨_,nX ho hg (by rw[h.opd_int hx e1,h.opd_int hy e2];exact q1),VR.of_rel q3 q2⟩
  split at hv
  .obtain⟨c,hc⟩:=qM (P:=P) (w:=w) (t:=t) (k':=k') (A:=At G σ.tips σ.lk w) (B:=G.bxB) (.inl rfl) hv;exact main hc
  .obtain⟨c,hc⟩:=qM (P:=P) (w:=w) (t:=t) (k':=k') (A:=At G σ.tips σ.lk w) (B:=G.bxB) (.inr rfl) hv;exact main hc
  .split at hv
   .rename_i hk;subst hk;obtain⟨c,hc⟩:=aDf (P:=P) (w:=w) (t:=t) (A:=At G σ.tips σ.lk w) (B:=G.bxB) hv;exact main hc
   .cases hv
 .rename_i s u e1 e2;obtain⟨p,h1,rfl⟩:=h.opd_str hx e1;obtain⟨q,h2,rfl⟩:=h.opd_str hy e2;obtain⟨c,q1,q2,q3⟩:=aDg (P:=P) (w:=w) (t:=t) (A:=At G σ.tips σ.lk w) (B:=G.bxB) hv;exact⟨c,nX ho (by rw[h1,h2];exact aA8) (by rw[h1,h2];exact q1),VR.of_rel q3 q2⟩
 .cases hv
end
end Go.VM
namespace Go.VM
open Go.RowKit
variable{Ω:World->Prop}
section
variable{P:Program}{D M:Nat->Prop}{G:Gh}{σ:St}{a:Act}{w:World}{o:Oper}{t0:Nat->Nat}{clk d:Nat}{bx:BX}
theorem aDh(n:Nat){t e:TypeId}(hu:P.underlying t=some (.slice e))(b:Option Addr)(l c:Nat):(Op.equalIn (n+1) t (.slice none 0 0) (.slice b l c)).run P w=.ok b.isNone w:=by simp[Op.equalIn,run_underlying hu]
theorem aHN(n:Nat){t e:TypeId}(hu:P.underlying t=some (.slice e))(b:Addr)(l c:Nat):(Op.equalIn (n+1) t (.slice (some b) l c) (.slice none 0 0)).run P w=.ok false w:=by simp[Op.equalIn,run_underlying hu]
theorem aIM(n:Nat){t e:TypeId}(hu:P.underlying t=some (.pointer e))(b:Option Addr):(Op.equalIn (n+1) t (.pointer none) (.pointer b)).run P w=.ok b.isNone w:=by simp[Op.equalIn,run_underlying hu]
theorem aIN(n:Nat){t e:TypeId}(hu:P.underlying t=some (.pointer e))(b:Option Addr):(Op.equalIn (n+1) t (.pointer b) (.pointer none)).run P w=.ok b.isNone w:=by cases b<;>simp[Op.equalIn,run_underlying hu]
theorem aIO(n:Nat){t:TypeId}{p1 p2:Array TypeId}{p3:Bool}(hu:P.underlying t=some (.func p1 p2 p3)):(Op.equalIn (n+1) t .nilFunc .nilFunc).run P w=.ok true w:=by simp[Op.equalIn,run_underlying hu]
theorem aIP(n:Nat){t:TypeId}{p1 p2:Array TypeId}{p3:Bool}(hu:P.underlying t=some (.func p1 p2 p3))(f:Fn)(x y:Array Value):(Op.equalIn (n+1) t .nilFunc (.func f x y)).run P w=.ok false w:=by simp[Op.equalIn,run_underlying hu]
theorem aIQ(n:Nat){t:TypeId}{p1 p2:Array TypeId}{p3:Bool}(hu:P.underlying t=some (.func p1 p2 p3))(f:Fn)(x y:Array Value):(Op.equalIn (n+1) t (.func f x y) .nilFunc).run P w=.ok false w:=by simp[Op.equalIn,run_underlying hu]
theorem aIR(n:Nat){t:TypeId}{ms:Array (String×TypeId)}(hu:P.underlying t=some (.interface ms)):(Op.equalIn (n+1) t .nilIface .nilIface).run P w=.ok true w:=by simp[Op.equalIn,run_underlying hu]
theorem aIS(n:Nat){t:TypeId}{ms:Array (String×TypeId)}(hu:P.underlying t=some (.interface ms))(u:TypeId)(x:Value):(Op.equalIn (n+1) t .nilIface (.iface u x)).run P w=.ok false w:=by simp[Op.equalIn,run_underlying hu]
theorem aIT(n:Nat){t:TypeId}{ms:Array (String×TypeId)}(hu:P.underlying t=some (.interface ms))(u:TypeId)(x:Value):(Op.equalIn (n+1) t (.iface u x) .nilIface).run P w=.ok false w:=by simp[Op.equalIn,run_underlying hu]
theorem xW{op:BinOp}{t:TypeId}{x y:Operand}(hcon:(mJ x||mJ y)=true):(eqGuard op t x y .nilIface .nilIface).run P w=.ok () w:=by
 unfold eqGuard;cases op<;>cases x<;>cases y<;>first|rfl|(simp[mJ]at hcon)
theorem cV{neq:Bool}{t yt:TypeId}{x y:Operand}{c e:Value}{b:Bool}(ho:o.op=.binOp (if neq then .neq else .eql) t x y yt)(hx:a.eval x=c)(hy:a.eval y=e)
  (hg:(eqGuard (if neq then .neq else .eql) t x y c e).run P w=.ok () w)
  (hb1:Go.binOp .eql t c e=(do pure (.bool (<-Op.equal t c e)))) (hb2:Go.binOp .neq t c e=(do pure (.bool (!(<-Op.equal t c e)))))
  (hr:(Op.equalIn 10000 t c e).run P w=.ok b w):aY P a o w (.bool (neq != b)):=by
 refine nX ho (by rw[hx,hy];exact hg) ?_;rw[hx,hy];have he:(Op.equal t c e).run P w=.ok b w:=hr;cases neq with
 |false=>simp only[Bool.false_eq_true,if_false,hb1,Sem.run_bind,he,Result.andThen_ok];cases b<;>rfl
 |true=>simp only[if_true,hb2,Sem.run_bind,he,Result.andThen_ok];cases b<;>rfl
set_option maxHeartbeats 1000000 in
theorem aGq(h:SR Ω D M G σ a.tmps w){neq:Bool}{t yt:TypeId}{x y:Operand}{x' y':Opd}{k:EK}{b:Bool}(ho:o.op=.binOp (if neq then .neq else .eql) t x y yt)(hx:aJ x=some x')(hy:aJ y=some y')(hk:eqT P t x y=some k)
  (hv:eqV k (ev (get σ.env) x') (ev (get σ.env) y')=some b):Ans P G σ a o w (.bool (neq != b)):=by
 have h1:=h.opd hx;have h2:=h.opd hy;refine⟨_,?_,.bool _⟩;unfold eqT at hk;split at hk
 ·
  rename_i hu;cases hk;unfold eqV at hv;split at hv<;>first|(cases hv;done)|skip
  all_goals (rename_i e0 e1 e2;first|(cases e0;done)|skip)
  rename_i p q;cases hv;rw[e1]at h1;rw[e2]at h2;exact cV ho (Rel.bool_inv h1) (Rel.bool_inv h2) (by unfold eqGuard;cases neq<;>rfl) rfl rfl (run_equalIn_bool w 9999 t _ _ hu)
 ·
  rename_i e hu;cases hk;unfold eqV at hv;split at hv<;>first|(cases hv;done)|skip
  all_goals (rename_i e0 e1 e2;first|(cases e0;done)|skip)
  .cases hv;rw[e1]at h1;rw[e2]at h2;exact cV ho (Rel.nils_inv h1) (Rel.nils_inv h2) (by unfold eqGuard;cases neq<;>rfl) rfl rfl (aDh 9999 hu _ _ _)
  .cases hv;rw[e1]at h1;rw[e2]at h2;obtain⟨q,cap,h3,_⟩:=h2.sl_val;exact cV ho (Rel.nils_inv h1) h3 (by unfold eqGuard;cases neq<;>rfl) rfl rfl (aDh 9999 hu _ _ _)
  .cases hv;rw[e1]at h1;rw[e2]at h2;obtain⟨q,cap,h3,_⟩:=h1.sl_val;exact cV ho h3 (Rel.nils_inv h2) (by unfold eqGuard;cases neq<;>rfl) rfl rfl (aHN 9999 hu _ _ _)
 ·
  rename_i e hu;cases hk;have ptr:∀(p q:Option Addr) (b:Bool),a.eval x=.pointer p->a.eval y=.pointer q->(p=none/\b=q.isNone\/q=none/\b=p.isNone)->aY P a o w (.bool (neq != b)):=by
   intro p q b hp hq hb;refine cV ho hp hq (by unfold eqGuard;cases neq<;>rfl) rfl rfl ?_;rcases hb with⟨rfl,rfl⟩|⟨rfl,rfl⟩
   .exact aIM 9999 hu _
   .exact aIN 9999 hu _
  have nilp:∀{c:Value},VR G (At G σ.tips σ.lk w) w (get σ.env) .nilp c->c=.pointer none:=fun hh=>by cases hh;rfl
  unfold eqV at hv;split at hv<;>first|(cases hv;done)|skip
  all_goals (rename_i e0 e1 e2;first|(cases e0;done)|skip)
  all_goals (cases hv;rw[e1]at h1;rw[e2]at h2)
  .exact ptr none none true (nilp h1) (nilp h2) (.inl ⟨rfl,rfl⟩)
  .obtain⟨blk,h3,_⟩:=Rel.bp_inv h2;exact ptr _ _ false (nilp h1) h3 (.inl ⟨rfl,rfl⟩)
  .obtain⟨blk,h3,_⟩:=Rel.bp_inv h1;exact ptr _ _ false h3 (nilp h2) (.inr ⟨rfl,rfl⟩)
  .obtain⟨q,h3⟩:=h2.ep_val;exact ptr _ _ false (nilp h1) h3 (.inl ⟨rfl,rfl⟩)
  .obtain⟨q,h3⟩:=h1.ep_val;exact ptr _ _ false h3 (nilp h2) (.inr ⟨rfl,rfl⟩)
  .exact ptr _ _ false (nilp h1) h2.1 (.inl ⟨rfl,rfl⟩)
  .exact ptr _ _ false h1.1 (nilp h2) (.inr ⟨rfl,rfl⟩)
 ·
  rename_i p1 p2 p3 hu;cases hk;have nilf:∀{c:Value},VR G (At G σ.tips σ.lk w) w (get σ.env) .nilf c->c=.nilFunc:=fun hh=>by cases hh;rfl
  unfold eqV at hv;split at hv<;>first|(cases hv;done)|skip
  all_goals (rename_i e0 e1 e2;first|(cases e0;done)|skip)
  all_goals (cases hv;rw[e1]at h1;rw[e2]at h2)
  .exact cV ho (nilf h1) (nilf h2) (by unfold eqGuard;cases neq<;>rfl) rfl rfl (aIO 9999 hu)
  .obtain⟨xs,ys,h3,_⟩:=Rel.fn_inv h2;exact cV ho (nilf h1) h3 (by unfold eqGuard;cases neq<;>rfl) rfl rfl (aIP 9999 hu _ _ _)
  .obtain⟨xs,ys,h3,_⟩:=Rel.fn_inv h1;exact cV ho h3 (nilf h2) (by unfold eqGuard;cases neq<;>rfl) rfl rfl (aIQ 9999 hu _ _ _)
 ·
  rename_i ms hu;split at hk
  .rename_i hcon;cases hk;have nili:∀{c:Value},VR G (At G σ.tips σ.lk w) w (get σ.env) .nili c->c=.nilIface:=fun hh=>by cases hh;rfl
   have ifa:∀{c:Value} {t v},VR G (At G σ.tips σ.lk w) w (get σ.env) (.iface t v) c->∃u,c=.iface t u:=fun hh=>by cases hh;exact⟨_,rfl⟩
   unfold eqV at hv;split at hv<;>first|(cases hv;done)|skip
   all_goals (rename_i e0 e1 e2;first|(cases e0;done)|skip)
   all_goals (cases hv;rw[e1]at h1;rw[e2]at h2)
   .exact cV ho (nili h1) (nili h2) (xW hcon) rfl rfl (aIR 9999 hu)
   .obtain⟨u,h3⟩:=ifa h2;exact cV ho (nili h1) h3 (by unfold eqGuard;cases neq<;>rfl) rfl rfl (aIS 9999 hu _ _)
   .obtain⟨u,h3⟩:=ifa h1;exact cV ho h3 (nili h2) (by unfold eqGuard;cases neq<;>rfl) rfl rfl (aIT 9999 hu _ _)
  .cases hk
 all_goals (first|(cases hk;done)|skip)
 all_goals
  split at hk
  .rename_i hgt;cases hfl:aAY P 20 t with
   |none=>rw[hfl]at hk;cases hk
   |some ks=>
    rw[hfl]at hk;cases hk;unfold eqV at hv;split at hv<;>first|(cases hv;done)|skip
    all_goals (rename_i e0 e1 e2;first|(cases e0;done)|skip)
    cases e0;rw[e1]at h1;rw[e2]at h2;obtain⟨xs,h3,h4⟩:=Rel.agg_inv h1;obtain⟨ys,h5,h6⟩:=Rel.agg_inv h2;obtain⟨g,hg,_,_,hrun⟩:=aCT (P:=P) (w:=w) (A:=At G σ.tips σ.lk w) (B:=G.bxB) 20 t ks hfl;have hgt':g=true:=by
     unfold aggT at hg
     simp_all
    subst hgt';have h7:=hrun 10000 (by omega) _ _ _ _ b h4 h6 hv;simp only[vL,if_true]at h7;have hx':xs.toList.toArray=xs:=by simp
    have hy':ys.toList.toArray=ys:=by simp
    rw[hx',hy']at h7;exact cV ho h3 h5 (run_eqGuard_agg _ _ _ _ _ _ _ hgt) rfl rfl h7
  .cases hk
theorem pS(h:SR Ω D M G σ a.tmps w):∀{xs:List Operand} {ys:List Opd},eE xs=some ys->(∀y∈ys,(ev (get σ.env) y).far)->RelL w (At G σ.tips σ.lk w) G.bxB (ys.map (ev (get σ.env))) (xs.map a.eval)
 |[],ys,hx,_=>by cases hx;exact .nil
 |x::r,ys,hx,hk=>by
  simp only[eE]at hx;split at hx
  .rename_i y s e1 e2;cases hx;exact .cons _ _ _ _ ((h.opd e1).rel (hk y (by simp))) (pS h e2 fun y' hy'=>hk y' (by simp[hy']))
  .cases hx
theorem aFh(h:SR Ω D M G σ a.tmps w){fn:Fn}{p q:Array Operand}{p' q':List Opd}{v:V}(ho:o.op=.makeFunc fn p q)(hp:eE p.toList=some p')(hq:eE q.toList=some q')(hv:aB (get σ.env) t0 clk bx d (.mkfn fn p' q')=some v):Ans P G σ a o w v:=by
 simp only[aB]at hv;split at hv
 .rename_i hc;cases hv;have hall:=hc.1;rw[List.all_eq_true]at hall;have f1:∀y∈p',(ev (get σ.env) y).far:=fun y hy=>V.far_of_ok1 (hall _ (by simp;exact .inl ⟨y,hy,rfl⟩))
  have f2:∀y∈q',(ev (get σ.env) y).far:=fun y hy=>V.far_of_ok1 (hall _ (by simp;exact .inr ⟨y,hy,rfl⟩))
  refine⟨.func fn (p.map a.eval) (q.map a.eval),?_,.fn _ _ _ _ _ ?_ ?_ hc.2.1 hc.2.2⟩
  .unfold aY execOp;simp[ho,Instr.makeFunc]
  .rw[Array.toList_map];exact pS h hp f1
  .rw[Array.toList_map];exact pS h hq f2
 .cases hv
theorem aAa(h:SR Ω D M G σ a.tmps w){t:TypeId}{x:Operand}{y:Opd}{td:TypeDesc}{v:V}(ho:o.op=.makeInterface t x)(hy:aJ x=some y)(hu:P.underlying t=some td)(hn:∀ms,td≠.interface ms)(hv:aB (get σ.env) t0 clk bx d (.mkiface t y)=some v):Ans P G σ a o w v:=by
 simp only[aB]at hv;split at hv
 .rename_i hc;cases hv;refine⟨.iface t (a.eval x),?_,.iface _ _ _ (h.opd_ok hy hc.1) hc.2⟩;unfold aY execOp;simp only[ho,Instr.makeInterface,Sem.run_bind,run_underlying hu,Result.andThen_ok];cases td<;>first|rfl|exact absurd rfl (hn _)
 .cases hv
theorem tW{mx:Bool}:∀{vs:List V} {cs:List Value} {x:V} {c:Value} {v:V} {A:Pl} {B:List Nat},dP mx x vs=some v->Rel w A B x c->RelL w A B vs cs->
  ∃e,(cs.foldlM (if mx then Builtin.max2 else Builtin.min2) c).run P w=.ok e w/\Rel w A B v e
 |[],cs,x,c,v,A,B,hm,hx,hl=>by
  cases hl;simp only[dP]at hm;cases hm;exact⟨c,by simp,hx⟩
 |u::r,cs,x,c,v,A,B,hm,hx,hl=>by
  cases hl with
  |cons _ c' _ cs h1 h2=>
   cases x with
   |int k n=>
    cases u with
    |int k' n'=>
     simp only[dP]at hm;split at hm
     .rename_i hk;subst hk;rw[Rel.int_inv hx,Rel.int_inv h1];obtain⟨e,h3,h4⟩:=tW hm (.int k _) h2;refine⟨e,?_,h4⟩;rw[List.foldlM_cons,Sem.run_bind];cases mx
      .simp only[Bool.false_eq_true,if_false]at h3 ⊢;simp only[Builtin.min2,Sem.run_pure,Result.andThen_ok];exact h3
      .simp only[if_true]at h3 ⊢;simp only[Builtin.max2,Sem.run_pure,Result.andThen_ok];exact h3
     .cases hm
    |_=>simp[dP]at hm
   |_=>simp[dP]at hm
theorem tX{mx:Bool}:∀{vs:List V} {x v:V},dP mx x vs=some v->(∀u,u∈vs->u.far)/\(vs=[]->v=x)/\(vs≠[]->x.far/\v.far)
 |[],x,v,hm=>by simp only[dP]at hm;cases hm;exact⟨by simp,by simp,by simp⟩
 |u::r,x,v,hm=>by
  cases x with
  |int k n=>
   cases u with
   |int k' n'=>
    simp only[dP]at hm;split at hm
    .obtain⟨h1,h2,h3⟩:=tX hm;refine⟨fun q hq=>?_,by simp,fun _=>⟨trivial,?_⟩⟩
     .rcases List.mem_cons.1 hq with rfl|hq
      .trivial
      .exact h1 q hq
     .by_cases hr:r=[]
      .rw[h2 hr];trivial
      .exact(h3 hr).2
    .cases hm
   |_=>simp[dP]at hm
  |_=>simp[dP]at hm
theorem tY(h:SR Ω D M G σ a.tmps w){mx:Bool}{args:Array Operand}{ts:Array TypeId}{x':Opd}{r':List Opd}{v:V}(ho:o.op=.call {callee:=.builtin (if mx then .max else .min),args:=args,argTypes:=ts})(hy:eE args.toList=some (x'::r'))
  (hv:aB (get σ.env) t0 clk bx d (.minmax mx x' r')=some v):Ans P G σ a o w v:=by
 have hv:dP mx (ev (get σ.env) x') (r'.map (ev (get σ.env)))=some v:=by
  simp only[aB]at hv;split at hv
  .cases hv
  .exact hv
 cases hal:args.toList with
 |nil=>rw[hal]at hy;cases hy
 |cons x r=>
  rw[hal]at hy;simp only[eE]at hy;split at hy
  .rename_i y s e1 e2;cases hy;obtain⟨f1,f2,f3⟩:=tX hv;have hl:=pS h e2 (fun y hy=>f1 _ (List.mem_map_of_mem hy));have hd1:=h.opd e1;have run_it:∀c,(List.foldlM (if mx then Builtin.max2 else Builtin.min2) (a.eval x) (r.map a.eval)).run P w=.ok c w->aY P a o w c:=by
    intro c hc;unfold aY execOp;cases mx
    .simp only[Bool.false_eq_true,if_false]at ho hc;simp[ho,resolve,invoke,builtin,Builtin.min_,hal,hc]
    .simp only[if_true]at ho hc;simp[ho,resolve,invoke,builtin,Builtin.max_,hal,hc]
   by_cases hr:r'.map (ev (get σ.env))=[]
   .rw[f2 hr];rw[hr]at hl;refine⟨a.eval x,run_it _ ?_,hd1⟩;cases hm:r.map a.eval with
    |nil=>simp
    |cons q qs=>rw[hm]at hl;cases hl
   .obtain⟨g1,g2⟩:=f3 hr;obtain⟨c,h3,h4⟩:=tW (P:=P) hv (hd1.rel g1) hl;exact⟨c,run_it c h3,VR.of_rel g2 h4⟩
  .cases hy
end
end Go.VM
