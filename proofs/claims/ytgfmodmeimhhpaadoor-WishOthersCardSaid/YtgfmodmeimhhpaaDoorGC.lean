/- The attributes that a deck gives, plainly. -/
import Derived.Test.YtgfmodmeimhhpaaDoorHDK
namespace Go.Proofs.YtgfmodmeimhhpaaDoor
open Go.VM
def portD(a:Int)(b:Bool):Bool×Int×Int:=if b=true then(true,2306139568115613695,IntKind.u64.wrap a)else(false,0,bits .or IntKind.u64 3221225984 (IntKind.u64.wrap (IntKind.i64.wrap (Int.tmod a 250+1))))
def pickD(asn:Int)(k:Int):Int:=[asn,101,102,201,202,203,301].getD k.toNat 0
def pathD(asn:Int):Nat->List Int->Dk->List Int×Dk
 |0,p,d=>(p,d)|k+1,p,d=>pathD asn k (p++[pickD asn (nx d 7).1]) (nx d 7).2
def optD(d:Dk)(b n:Int):Int×Dk:=if(nx d b).1=0 then nx (nx d b).2 n else(-1,(nx d b).2)
def preD(d:Dk)(asn:Int):Int×List Int×Dk:=
 let o:=nx d 3;let k:=nx o.2 4;let p:=pathD asn k.1.toNat [asn] k.2
 (o.1,p.1,p.2)
def swD(o:Int)(p:List Int)(m r:Int)(c:List (Int×Int))(g:List (Int×Int×Int))(asn:Int)(v6:Bool)(s:Int×Dk):Attrs×Dk:=
 let A:=fun(path:List Seg) next otc other=>((o,path,next,m,r,otc,c,g,other):Attrs)
 let P:=portD asn v6
 if s.1=0 then(A [(false,p)] P (1+(nx s.2 300).1) [],(nx s.2 300).2)
 else if s.1=1 then(A [(false,p.set 0 103)] P (-1) [],s.2)
 else if s.1=2 then(A [(false,p),(true,[7,9])] P (-1) [],s.2)
 else if s.1=3 then(A [(false,p++[99])] P (-1) [],s.2)
 else if s.1=4 then(A [(false,p)] (portD 104 v6) (-1) [],s.2)
 else if s.1=5 then(A [(false,p++[64512,701])] P (-1) [],s.2)
 else if s.1=6 then(A [] P (-1) [],s.2)
 else if s.1=7 then(A [(false,p)] P (-1) [(224,99,[1,(nx s.2 256).1])],(nx s.2 256).2)
 else(A [(false,p)] P (-1) [],s.2)
noncomputable def attrsD(d:Dk)(asn:Int)(v6:Bool):Attrs×Dk:=
 let a:=preD d asn;let m:=optD a.2.2 3 3;let r:=optD m.2 6 300;let c:=commD r.2;let g:=largeD c.2
 swD a.1 a.2.1 m.1 r.1 c.1 g.1 asn v6 (nx g.2 24)
noncomputable def gAttrs(x:Dk×Int×Bool):Option (Attrs×Dk):=if dkB x.1=true then some (attrsD x.1 x.2.1 x.2.2)else none
theorem pathD_facts(asn:Int):∀(k:Nat) (p:List Int) (d:Dk),DK d->(pathD asn k p d).1.length=p.length+k/\(pathD asn k p d).2.1=d.1/\DK (pathD asn k p d).2
 |0,p,d,h=>⟨rfl,rfl,h⟩|k+1,p,d,h=>by obtain⟨h1,h2,h3⟩:=pathD_facts asn k (p++[pickD asn (nx d 7).1]) (nx d 7).2 (nx_DK h 7);refine⟨?_,?_,h3⟩;show(pathD asn k (p++[pickD asn (nx d 7).1]) (nx d 7).2).1.length=_;rw[h1,List.length_append];simp;omega;show(pathD asn k (p++[pickD asn (nx d 7).1]) (nx d 7).2).2.1=_;rw[h2];exact nx_list _ _
theorem optD_facts{d:Dk}(h:DK d)(b n:Int):(optD d b n).2.1=d.1/\DK (optD d b n).2:=by unfold optD;split;exact⟨(nx_list _ _).trans (nx_list _ _),nx_DK (nx_DK h b) n⟩;exact⟨nx_list _ _,nx_DK h b⟩
end Go.Proofs.YtgfmodmeimhhpaaDoor
