/- Operations that may go in either order. -/
import Derived.Test.YtbpocjclcbjggaaGreatDoorMB
import Derived.Orders
import Derived.LoopN
import Derived.Scope
import Derived.Handed
import Derived.Carry
import Derived.ChangeSame
import Derived.ChangeShapes
import Derived.OpenShut
import Derived.Below
import Derived.Lib.Join
import Derived.Lib.Bytealg
import Derived.ShapedOpen
import Derived.Lib.IndexMore
import Derived.Lib.SplitLaws
import Derived.Lib.Replace
import Derived.Lib.Case
import Derived.Lib.ItoaNum
import Derived.Lib.AtoiAll
import Derived.Lib.LastIndexByte
import Derived.Lib.ConvBytes
import Derived.Lib.Strings
import Derived.Lib.LaidTab
import Derived.Lib.SlTrimSet
import Derived.Lib.BitFns
import Derived.Lib.AsciiSet
import Derived.WalkSmall
import Derived.Sort.Grow
import Derived.ChangeAgain
import Derived.HandedShaped
import Derived.Lib.ParseIntB
import Derived.Lib.SpaceU
import Derived.Lib.Space
import Derived.Shelf.Unicode.IsSpaceAny
import Derived.Laws.AppendOwn
namespace Go.VM
open Go.RowKit
def VOp.avs:VOp->List (List Nat)
 |.load (.e av) _ _ _|.toStr _ av|.append _ _ _ _ _ _ av|.call _ _ _ av|.callv _ _ _ av=>[av]
 |_=>[]
structure Agr(o:VOper)(e e':Nat->V):Prop where
 reads:∀s∈o.op.reads,ev e (.tmp s)=ev e' (.tmp s)
 roots:∀s∈o.op.roots,e s=e' s
 sroot:∀s,bB o.op=some s->e s=e' s
 guard:∀s w,o.guard=some (s,w)->e s=e' s
 dst:∀d,o.dst=some d->aN (e d)=aN (e' d)
 live:∀av∈o.op.avs,∀l:Lab,l.free e av=l.free e' av
theorem bV{e e':Nat->V}{x:Opd}(h:∀s∈x.slots,ev e (.tmp s)=ev e' (.tmp s)):ev e x=ev e' x:=by
 cases x with
 |tmp t=>exact h t (by simp[Opd.slots])
 |const c=>rfl
theorem rA{e e':Nat->V}{xs:List Opd}(h:∀s∈xs.flatMap Opd.slots,ev e (.tmp s)=ev e' (.tmp s)):xs.map (ev e)=xs.map (ev e'):=
 List.map_congr_left fun x hx=>bV fun s hs=>h s (List.mem_flatMap.2 ⟨x,hx,hs⟩)
theorem vW{e e':Nat->V}{ps:List (Nat×Nat×Opd)}(h:∀s∈ps.flatMap (fun p=>p.2.2.slots),ev e (.tmp s)=ev e' (.tmp s)):∀cs,fill e cs ps=fill e' cs ps:=by
 induction ps with
 |nil=>intro cs;rfl
 |cons p r ih=>
  intro cs;obtain⟨off,sz,x⟩:=p;have h1:ev e x=ev e' x:=bV fun s hs=>h s (List.mem_flatMap.2 ⟨_,List.mem_cons_self,hs⟩)
  simp only[fill,h1];rw[ih fun s hs=>h s (by rw[List.flatMap_cons];exact List.mem_append.2 (.inr hs))]
theorem yN{e e':Nat->V}{x:Option Opd}{n k:Nat}(h:∀s∈mK x,ev e (.tmp s)=ev e' (.tmp s)):mH x e n k=mH x e' n k:=by
 cases x with
 |none=>rfl
 |some o=>
  have h1:ev e o=ev e' o:=bV h;simp only[mH,h1]
theorem oC{e e':Nat->V}{lo hi:Option Opd}{n:Nat}(h1:∀s∈mK lo,ev e (.tmp s)=ev e' (.tmp s))(h2:∀s∈mK hi,ev e (.tmp s)=ev e' (.tmp s)):dV lo hi e n=dV lo hi e' n:=by
 simp only[dV,yN h2];split
 .rfl
 .rw[yN h1]
section
variable{e e':Nat->V}{t0:Nat->Nat}{clk d:Nat}{bx bx':BX}
theorem uG{o:VOper}(h:Agr o e e')(hb:o.op.looksB=true->bx=bx'):aB e t0 clk bx d o.op=aB e' t0 clk bx' d o.op:=by
 obtain⟨dst,op,guard⟩:=o;obtain⟨hr,hro,_,_,_,hl⟩:=h;simp only at hr hro hl hb ⊢;have two:∀{x y:Opd},(∀s∈x.slots++y.slots,ev e (.tmp s)=ev e' (.tmp s))->ev e x=ev e' x/\ev e y=ev e' y:=fun{x y} h=>
  ⟨bV fun s hs=>h s (List.mem_append.2 (.inl hs)),bV fun s hs=>h s (List.mem_append.2 (.inr hs))⟩
 cases op with
 |mv x=>simp only[aB,bV (x:=x) hr]
 |pick c a b=>
  have h1:ev e c=ev e' c:=bV fun s hs=>hr s (by simp[VOp.reads,hs])
  have h2:ev e a=ev e' a:=bV fun s hs=>hr s (by simp[VOp.reads,hs])
  have h3:ev e b=ev e' b:=bV fun s hs=>hr s (by simp[VOp.reads,hs])
  simp only[aB,h1,h2,h3]
 |allocR=>rfl
 |boxR sz x=>simp only[aB,bV (x:=x) hr]
 |allocB=>rfl
 |boxB=>rfl
 |build zs ps=>simp only[aB,vW (ps:=ps) hr]
 |bslice lky z n zs ps=>
  cases lky with
  |true=>rfl
  |false=>simp only[aB,vW (ps:=ps) hr]
 |load rt agg sz a=>
  cases rt with
  |r s=>
   have h2:e s=e' s:=hro s (by simp[VOp.roots]);simp only[aB,bV (x:=a) hr,h2]
  |b=>
   have h2:=hb rfl;simp only[aB,bV (x:=a) hr,h2]
  |e av=>
   have h2:∀l:Lab,l.free e av=l.free e' av:=hl av (by simp[VOp.avs]);simp only[aB,bV (x:=a) hr,h2]
 |store=>rfl
 |nilck x=>simp only[aB,bV (x:=x) hr]
 |bin op x y=>simp only[aB,(two hr).1,(two hr).2]
 |eq neq k x y=>simp only[aB,(two hr).1,(two hr).2]
 |unop op x=>simp only[aB,bV (x:=x) hr]
 |convI k x=>simp only[aB,bV (x:=x) hr]
 |convS x=>simp only[aB,bV (x:=x) hr]
 |toStr x av=>
  have h2:∀l:Lab,l.free e av=l.free e' av:=hl av (by simp[VOp.avs]);simp only[aB,bV (x:=x) hr,h2]
 |toBytes x=>simp only[aB,bV (x:=x) hr]
 |fieldA off x=>simp only[aB,bV (x:=x) hr]
 |field agg off sz x=>simp only[aB,bV (x:=x) hr]
 |idxS z x i=>simp only[aB,(two hr).1,(two hr).2]
 |idxA len z x i=>simp only[aB,(two hr).1,(two hr).2]
 |ixA agg len z x i=>simp only[aB,(two hr).1,(two hr).2]
 |ixS x i=>simp only[aB,(two hr).1,(two hr).2]
 |cutS x lo hi=>
  have h1:ev e x=ev e' x:=bV fun s hs=>hr s (by simp[VOp.reads,hs])
  have h2:∀n,dV lo hi e n=dV lo hi e' n:=fun n=>oC (fun s hs=>hr s (by simp[VOp.reads,hs])) (fun s hs=>hr s (by simp[VOp.reads,hs]))
  simp only[aB,h1,h2]
 |cut z x lo hi=>
  have h1:ev e x=ev e' x:=bV fun s hs=>hr s (by simp[VOp.reads,hs])
  have h2:∀n,dV lo hi e n=dV lo hi e' n:=fun n=>oC (fun s hs=>hr s (by simp[VOp.reads,hs])) (fun s hs=>hr s (by simp[VOp.reads,hs]))
  simp only[aB,h1,h2]
 |cutR s len z x lo hi=>
  have h1:ev e x=ev e' x:=bV fun s hs=>hr s (by simp[VOp.reads,hs])
  have h2:∀n,dV lo hi e n=dV lo hi e' n:=fun n=>oC (fun s hs=>hr s (by simp[VOp.reads,hs])) (fun s hs=>hr s (by simp[VOp.reads,hs]))
  have h3:e s=e' s:=hro s (by simp[VOp.roots]);simp only[aB,h1,h2,h3]
 |mkslice z bytes zs l c=>simp only[aB,(two hr).1,(two hr).2]
 |append=>rfl
 |len st x=>cases st<;>simp only[aB,bV (x:=x) hr]
 |lenC=>rfl
 |extract i x=>simp only[aB,bV (x:=x) hr]
 |arrptr n z x=>simp only[aB,bV (x:=x) hr]
 |call=>rfl
 |callv=>rfl
 |fail=>rfl
 |mkfn f a b=>
  have h1:a.map (ev e)=a.map (ev e'):=rA fun s hs=>hr s (List.mem_append.2 (.inl hs))
  have h2:b.map (ev e)=b.map (ev e'):=rA fun s hs=>hr s (List.mem_append.2 (.inr hs))
  simp only[aB,h1,h2]
 |mkiface t x=>simp only[aB,bV (x:=x) hr]
 |minmax mx x xs=>
  have h1:ev e x=ev e' x:=bV fun s hs=>hr s (List.mem_append.2 (.inl hs))
  have h2:xs.map (ev e)=xs.map (ev e'):=rA fun s hs=>hr s (List.mem_append.2 (.inr hs))
  simp only[aB,h1,h2]
end
def put(u:Option (Nat×V))(env:Env):Env:=
 match u with
 |some (s,v)=>set env s v
 |none=>env
def aD7(u:Option (Nat×V))(e:Nat->V):Nat->V:=
 match u with
 |some (s,v)=>upd e s v
 |none=>e
theorem fK(u:Option (Nat×V))(env:Env):get (put u env)=aD7 u (get env):=by
 cases u with
 |none=>rfl
 |some x=>exact bG _ _ _
def VOp.tame(op:VOp):Bool:=op.isP||op.mild||(bB op).isSome
structure Par(cf:cO)(sg:Nat->Sig)(t0:Nat->Nat)(σ:St)(o:VOper)(σ':St)(u:Option (Nat×V)):Prop where
 env:σ'.env=put u σ.env
 clk:σ'.clk=σ.clk
 slot:∀s v,u=some (s,v)->(o.dst=some s/\bB o.op=none)\/(bB o.op=some s)
 reg:o.op.makesR=false->bB o.op=none->∀s v,u=some (s,v)->aN (get σ.env s)=false/\aN v=false
 same:∀env2,Agr o (get σ.env) (get env2)->bH cf sg t0 {σ with env:=env2} o=some {σ' with env:=put u env2}
section
variable{cf:cO}{sg:Nat->Sig}{t0:Nat->Nat}{σ:St}
theorem yO{e e':Nat->V}{av:List Nat}(h:∀l:Lab,l.free e av=l.free e' av):∀v,tC e av v=tC e' av v:=by
 intro v;cases v with
 |sl l z n cs=>cases l<;>first|exact h _|rfl
 |_=>rfl
theorem lN{rs:List V}(h:∀v∈rs,aN v=false):aN (packed rs)=false:=by
 unfold packed;split
 .exact h _ (by simp)
 .rfl
def lI(cf:cO):Prop:=∀f vs bx r bx',cf f vs bx=some (r,bx')->∀v∈r.results,aN v=false
theorem pG(v:V)(g:Lab->Lab):aN (v.mapLab g)=aN v:=by cases v<;>rfl
theorem aDt(hcf:lI cf){d:Option Nat}{f:Nat}{vs:List V}{q:Bool}{av:List Nat}{σ':St}(h:mI cf sg σ d f vs q av=some σ') :
  ∃s v,d=some s/\σ'.env=set σ.env s v/\σ'.clk=σ.clk/\aN v=false/\∀env2,(∀l:Lab,l.free (get σ.env) av=l.free (get env2) av)->mI cf sg {σ with env:=env2} d f vs q av=some {σ' with env:=set env2 s v}:=by
 unfold mI at h ⊢;cases d with
 |none=>cases h
 |some d=>
  simp only at h ⊢;split at h
  .rename_i hc;cases hr:cf f (aI (sg f).cons 0 vs) σ.bx with
   |none=>rw[hr]at h;cases h
   |some x=>
    obtain⟨r,bx⟩:=x;rw[hr]at h;simp only at h;split at h
    .rename_i hg;cases h;refine⟨d,_,rfl,rfl,rfl,?_,fun env2 hl=>?_⟩
     .refine lN fun v hv=>?_
      obtain⟨u,hu,rfl⟩:=List.mem_map.1 hv;rw[pG];exact hcf _ _ _ _ _ hr u hu
     · rw [if_pos ⟨hc.1, by
         have:=hc.2.1;rw[List.all_eq_true]at this ⊢;exact fun v hv=>by rw[<-yO hl];exact this v hv,hc.2.2⟩]
       simp only[if_pos hg];rfl
    .cases h
  .cases h
theorem aDu(hcf:lI cf){d:Option Nat}{f:Nat}{vs:List V}{av:List Nat}{σ':St}(h:tD cf sg σ d f vs av=some σ') :
  ∃s v,d=some s/\σ'.env=set σ.env s v/\σ'.clk=σ.clk/\aN v=false/\∀env2,(∀l:Lab,l.free (get σ.env) av=l.free (get env2) av)->tD cf sg {σ with env:=env2} d f vs av=some {σ' with env:=set env2 s v}:=by
 unfold tD at h ⊢;cases d with
 |none=>cases h
 |some d=>
  simp only at h ⊢;split at h
  .rename_i hc;cases hr:cf f (aI (sg f).cons 0 vs) []with
   |none=>rw[hr]at h;cases h
   |some x=>
    obtain⟨r,bx⟩:=x;rw[hr]at h;simp only at h;split at h
    .rename_i hg;cases h;refine⟨d,_,rfl,rfl,rfl,lN fun v hv=>hcf _ _ _ _ _ hr v hv,fun env2 hl=>?_⟩
     rw [if_pos ⟨hc.1, by
         have:=hc.2.1;rw[List.all_eq_true]at this ⊢;exact fun v hv=>by rw[<-yO hl];exact this v hv,hc.2.2⟩]
     simp only[if_pos hg]
    .cases h
  .cases h
theorem uH(hcf:lI cf){d:Option Nat}{f:Nat}{vs:List V}{q:Bool}{av:List Nat}{σ':St}(h:eQ cf sg σ d f vs q av=some σ') :
  ∃s v,d=some s/\σ'.env=set σ.env s v/\σ'.clk=σ.clk/\aN v=false/\∀env2,(∀l:Lab,l.free (get σ.env) av=l.free (get env2) av)->eQ cf sg {σ with env:=env2} d f vs q av=some {σ' with env:=set env2 s v}:=by
 unfold eQ at h ⊢;split at h
 .rename_i hr;simp only[if_pos hr];exact aDu hcf h
 .rename_i hr;simp only[if_neg hr];exact aDt hcf h
theorem aC5{e e':Nat->V}{av:List Nat}{z:Nat}{v:V}(h:∀l:Lab,l.free e av=l.free e' av):jP e av z v=jP e' av z v:=by
 unfold jP;cases v<;>simp only[h]
theorem aAo{e e':Nat->V}{av:List Nat}{z:Nat}{zs:List V}{v:V}(h:∀l:Lab,l.free e av=l.free e' av):iS e av z zs v=iS e' av z zs v:=by
 cases zs with
 |nil=>exact aC5 h
 |cons=>rfl
theorem aAp{d bytes:Nat}{z:Nat}{s:V}{m:Nat}{news:List V}{σ':St}(h:append2 σ d bytes false z s m news=some σ') :
  ∃v,σ'.env=set σ.env d v/\σ'.clk=σ.clk/\aN v=false/\∀env2,append2 {σ with env:=env2} d bytes false z s m news=some {σ' with env:=set env2 d v}:=by
 unfold append2 at h ⊢;split at h
 .split at h
  .rename_i hc;split at h
   .rename_i hm;cases h;exact⟨_,rfl,rfl,rfl,fun env2=>by simp only[if_pos hc,if_pos hm]⟩
   .rename_i hm;cases h;exact⟨_,rfl,rfl,rfl,fun env2=>by simp only[if_pos hc,if_neg hm]⟩
  .cases h
 .split at h
  .rename_i hc;cases h;exact⟨_,rfl,rfl,rfl,fun env2=>by simp only[if_pos hc]⟩
  .cases h
 .split at h
  .rename_i hc;cases hc.1
  .cases h
 .cases h
theorem fE{agg:Bool}{off sz:Nat}{cs:List V}{v:V}(h:part agg off sz cs=some v):aN v=false:=by
 unfold part nU at h;split at h
 .split at h
  .cases h;rfl
  .split at h
   .split at h
    .rename_i hu;cases h;cases v<;>first|rfl|cases hu
    .cases h
   .cases h
 .cases h
end
end Go.VM
namespace Go.VM
open Go.RowKit
theorem oD{v:V}(h:v.ok=true):aN v=false:=by cases v<;>first|rfl|cases h
section
variable{e:Nat->V}{t0:Nat->Nat}{clk d:Nat}{bx:BX}
theorem lO{vo:VOp}{v:V}(h:aB e t0 clk bx d vo=some v)(hm:vo.makesR=false):aN v=false:=by
 cases vo with
 |mv x=>
  simp only[aB]at h;split at h
  .cases h
  .cases h
  .rename_i hn;cases h;cases hv:ev e x<;>first|rfl|exact absurd hv (hn _ _ _)
 |pick c a b=>
  simp only[aB]at h;split at h
  .rename_i t _;by_cases hk:(if t=true then ev e a else ev e b).ok=true
   .rw[if_pos hk]at h;cases h;exact oD hk
   .rw[if_neg hk]at h;cases h
  .cases h
 |allocR=>cases hm
 |boxR=>cases hm
 |build zs ps=>
  simp only[aB]at h;obtain⟨_,_,rfl⟩:=Option.map_eq_some_iff.1 h;rfl
 |bslice lky z n zs ps=>
  cases lky with
  |true=>cases h
  |false=>
   simp only[aB]at h;split at h
   .split at h
    .cases h;rfl
    .cases h
   .cases h
 |load rt agg sz a=>
  cases rt with
  |r s=>
   simp only[aB]at h;split at h
   .split at h
    .split at h
     .exact fE h
     .cases h
    .cases h
   .cases h
  |b=>
   simp only[aB]at h;split at h
   .split at h
    .exact fE h
    .cases h
   .cases h
  |e av=>
   simp only[aB]at h;split at h
   .split at h
    .exact fE h
    .cases h
   .cases h
 |bin op x y=>
  simp only[aB,aGn]at h;split at h
  .split at h
   .simp only[gC]at h;split at h
    .cases h
    .cases h;rfl
   .simp only[gC]at h;split at h
    .cases h
    .cases h;rfl
   .split at h
    .unfold vG at h;split at h
     all_goals first
      |(cases h;rfl)
      | (split at h
         .cases h
         .cases h;rfl)
      |cases h
    .cases h
  .unfold aCI at h;split at h
   all_goals first
    |(cases h;rfl)
    | (split at h
       .cases h;rfl
       .cases h)
    |cases h
  .cases h
 |eq neq k x y=>
  simp only[aB]at h;obtain⟨_,_,rfl⟩:=Option.map_eq_some_iff.1 h;rfl
 |unop op x=>
  simp only[aB]at h;unfold unV at h;split at h<;>cases h<;>rfl
 |minmax mx x xs=>
  simp only[aB]at h;split at h
  .cases h
  .rename_i hn;cases v<;>first|rfl|exact absurd h (hn _ _ _)
 |field agg off sz x=>
  simp only[aB]at h;split at h
  .exact fE h
  .cases h
 |ixA agg len z x i=>
  simp only[aB]at h;split at h
  .split at h
   .exact fE h
   .cases h
  .cases h
 |extract i x=>
  simp only[aB]at h;split at h
  .split at h
   .split at h
    .rename_i hk;cases h;exact oD hk
    .cases h
   .cases h
  .cases h
 |len st x=>
  cases st<;>simp only[aB]at h<;>split at h<;>first|(cases h;rfl)|cases h
 |ixS x i=>
  simp only[aB]at h;split at h
  .split at h
   .obtain⟨_,_,rfl⟩:=Option.map_eq_some_iff.1 h;rfl
   .cases h
  .cases h
 |toStr x av=>
  simp only[aB]at h;split at h
  .cases h;rfl
  .split at h
   .obtain⟨_,_,rfl⟩:=Option.map_eq_some_iff.1 h;rfl
   .cases h
  .cases h
 |_=>
  simp only[aB]at h
  repeat' first
   |(cases h;done)
   |(cases h;rfl)
   |split at h
end
section
variable{cf:cO}{sg:Nat->Sig}{t0:Nat->Nat}{σ:St}
theorem aDv(hcf:lI cf){o:VOper}(ht:o.op.tame=true){σ':St}(h:aU cf sg σ t0 o.dst o.op=some σ') :
  ∃u,σ'.env=put u σ.env/\σ'.clk=σ.clk/\(∀s v,u=some (s,v)->o.dst=some s\/bB o.op=some s)/\(∀s v,u=some (s,v)->o.op.makesR=false->bB o.op≠some s->aN v=false)/\
   (∀s v,u=some (s,v)->bB o.op=some s->∃c n cs cs',get σ.env s=.reg c n cs/\v=.reg c (n+1) cs')/\
   ∀env2,Agr o (get σ.env) (get env2)->aU cf sg {σ with env:=env2} t0 o.dst o.op=some {σ' with env:=put u env2}:=by
 by_cases hp:o.op.isP=true
 .obtain⟨d,v,hd,hv,rfl⟩:=cE hp h;have hsr:bB o.op=none:=by
   cases hop:o.op<;>first|rfl|(rw[hop]at hp;cases hp)
  refine⟨some (d,v),rfl,rfl,fun s v' e=>by cases e;exact .inl hd,fun s v' e hm _=>by cases e;exact lO hv hm,fun s v' _ e2=>(by rw[hsr]at e2;cases e2),fun env2 ha=>?_⟩;rw[jU hp];simp only[yH,hd];rw[<-uG ha (fun _=>rfl),hv];rfl
 .obtain⟨dst,op,guard⟩:=o;simp only at h ht hp ⊢;cases op with
  |store rt sz x y=>
   cases dst with
   |some d=>cases h
   |none=>
    simp only[aU]at h;cases rt with
    |r s=>
     cases e2:ev (get σ.env) x with
     |rp s' c off=>
      rw[e2]at h;simp only[storeAt]at h;split at h
      .rename_i c' n cs e3;split at h
       .rename_i hc;cases h;obtain⟨rfl,rfl,hf⟩:=hc;refine⟨some (s,.reg c (n+1) (splice cs off (ev (get σ.env) y).cells)),rfl,rfl,fun s' v e=>by cases e;exact .inr rfl,fun s' v e _ hn=>by cases e;exact absurd rfl hn,fun s' v e _=>by cases e;exact⟨c,n,cs,_,e3,rfl⟩,fun env2 ha=>?_⟩;have h1:ev (get σ.env) x=ev (get env2) x:=bV fun s hs=>ha.reads s (List.mem_append.2 (.inl hs))
        have h2:ev (get σ.env) y=ev (get env2) y:=bV fun s hs=>ha.reads s (List.mem_append.2 (.inr hs))
        have h3:=ha.sroot s rfl;simp only[aU,<-h1,<-h2,e2,storeAt,<-h3,e3];rw[if_pos ⟨trivial,trivial,hf⟩];rfl
       .cases h
      .cases h
     |_=>rw[e2]at h;cases h
    |b=>
     cases e2:ev (get σ.env) x with
     |bp b off=>
      rw[e2]at h;simp only[storeAt]at h;split at h
      .rename_i cs e3;split at h
       .rename_i hf;cases h;refine⟨none,rfl,rfl,fun s' v e=>(nomatch e),fun s' v e=>(nomatch e),fun s' v e=>(nomatch e),fun env2 ha=>?_⟩;have h1:ev (get σ.env) x=ev (get env2) x:=bV fun s hs=>ha.reads s (List.mem_append.2 (.inl hs))
        have h2:ev (get σ.env) y=ev (get env2) y:=bV fun s hs=>ha.reads s (List.mem_append.2 (.inr hs))
        simp only[aU,<-h1,<-h2,e2,storeAt,e3,if_pos hf];rfl
       .cases h
      .cases h
     |_=>rw[e2]at h;cases h
    |e av=>cases ht
  |call f args q av=>
   simp only[aU]at h;obtain⟨s,v,h1,h2,h3,h4,h5⟩:=uH hcf h;refine⟨some (s,v),h2,h3,fun s' v' e=>by cases e;exact .inl h1,fun s' v' e _ _=>by cases e;exact h4,fun s' v' _ e2=>(nomatch e2),fun env2 ha=>?_⟩;have h6:args.map (ev (get σ.env))=args.map (ev (get env2)):=rA ha.reads;simp only[aU,<-h6];exact h5 env2 (ha.live av (by simp[VOp.avs]))
  |callv x args q av=>
   simp only[aU]at h;split at h
   .rename_i f first cap e1
    obtain⟨s,v,h1,h2,h3,h4,h5⟩:=uH hcf h;refine⟨some (s,v),h2,h3,fun s' v' e=>by cases e;exact .inl h1,fun s' v' e _ _=>by cases e;exact h4,fun s' v' _ e2=>(nomatch e2),fun env2 ha=>?_⟩;have h6:args.map (ev (get σ.env))=args.map (ev (get env2)):=rA fun s hs=>ha.reads s (List.mem_append.2 (.inr hs))
    have h7:ev (get σ.env) x=ev (get env2) x:=bV fun s hs=>ha.reads s (List.mem_append.2 (.inl hs))
    simp only[aU,<-h6,<-h7,e1];exact h5 env2 (ha.live av (by simp[VOp.avs]))
   .cases h
  |allocB zs=>
   simp only[aU]at h;cases dst with
   |none=>cases h
   |some d=>
    cases h;exact⟨some (d,.bp σ.bx.length 0),rfl,rfl,fun s v e=>by cases e;exact .inl rfl,fun s v e _ _=>by cases e;rfl,fun s' v' _ e2=>(nomatch e2),fun env2 ha=>rfl⟩
  |boxB sz x=>
   simp only[aU]at h;cases dst with
   |none=>cases h
   |some d=>
    simp only at h;split at h
    .rename_i hf;cases h;refine⟨some (d,.bp σ.bx.length 0),rfl,rfl,fun s v e=>by cases e;exact .inl rfl,fun s v e _ _=>by cases e;rfl,fun s' v' _ e2=>(nomatch e2),fun env2 ha=>?_⟩;have h1:ev (get σ.env) x=ev (get env2) x:=bV ha.reads;simp only[aU,<-h1,if_pos hf];rfl
    .cases h
  |bslice lky z n zs ps=>
   cases lky with
   |false=>exact absurd rfl hp
   |true=>
    simp only[aU]at h;split at h
    .rename_i d cs hf;split at h
     .rename_i hc;cases h;refine⟨some (d,_),rfl,rfl,fun s v e=>by cases e;exact .inl rfl,fun s v e _ _=>by cases e;rfl,fun s' v' _ e2=>(nomatch e2),fun env2 ha=>?_⟩;have h1:=vW (e:=get σ.env) (e':=get env2) ha.reads ((List.replicate n zs).flatten);simp only[aU,<-h1,hf,if_pos hc];rfl
     .cases h
    .cases h
  |append z bytes cut zs s x av=>
   cases cut with
   |true=>cases ht
   |false=>
    simp only[aU]at h;split at h
    .rename_i d m news hsrc;split at h
     .rename_i hc;obtain⟨v,h1,h2,h3,h4⟩:=aAp h;refine⟨some (d,v),h1,h2,fun s v e=>by cases e;exact .inl rfl,fun s v e _ _=>by cases e;exact h3,fun s' v' _ e2=>(nomatch e2),fun env2 ha=>?_⟩;have k1:ev (get σ.env) s=ev (get env2) s:=bV fun s hs=>ha.reads s (List.mem_append.2 (.inl hs))
      have k2:ev (get σ.env) x=ev (get env2) x:=bV fun s hs=>ha.reads s (List.mem_append.2 (.inr hs))
      have k3:iS (get env2) av z zs (ev (get env2) x)=some (m,news):=by
       rw[<-k2,<-aAo (ha.live av (by simp[VOp.avs]))];exact hsrc
      simp only[aU,k3,if_pos hc,<-k1];exact h4 env2
     .cases h
    .cases h
  |_=>exact absurd rfl hp
theorem dS{e e':Nat->V}{g:Option (Nat×Bool)}(h:∀s w,g=some (s,w)->e s=e' s):fI e g=fI e' g:=by
 cases g with
 |none=>rfl
 |some x=>obtain⟨s,w⟩:=x;simp only[fI,h s w rfl]
theorem rB{e e':Nat->V}{d:Option Nat}(h:∀s,d=some s->aN (e s)=aN (e' s)):xL e d=xL e' d:=by
 cases d with
 |none=>rfl
 |some s=>simp only[xL,h s rfl]
theorem oE(hcf:lI cf){o:VOper}(ht:o.op.tame=true){σ':St}(h:bH cf sg t0 σ o=some σ') :
  ∃u,σ'.env=put u σ.env/\σ'.clk=σ.clk/\(∀s v,u=some (s,v)->o.dst=some s\/bB o.op=some s)/\(∀s v,u=some (s,v)->o.op.makesR=false->bB o.op≠some s->aN (get σ.env s)=false/\aN v=false)/\
   (∀s v,u=some (s,v)->o.dst≠some s->bB o.op=some s->∃c n cs cs',get σ.env s=.reg c n cs/\v=.reg c (n+1) cs')/\
   ∀env2,Agr o (get σ.env) (get env2)->bH cf sg t0 {σ with env:=env2} o=some {σ' with env:=put u env2}:=by
 unfold bH at h;split at h
 .rename_i hw;split at h
  .cases h
  .rename_i hr;obtain⟨u,h1,h2,h3,h4,h5,h6⟩:=aDv hcf ht h;refine⟨u,h1,h2,h3,fun s v e hm hs=>⟨?_,h4 s v e hm hs⟩,fun s v e _ hs=>h5 s v e hs,fun env2 ha=>?_⟩
   .have hd:=(h3 s v e).resolve_right hs;rw[hd,hm]at hr;simpa[xL]using hr
   .unfold bH;rw[<-dS ha.guard,hw];simp only;rw[<-rB ha.dst,if_neg hr];exact h6 env2 ha
 .rename_i hw;split at h
  .rename_i d hd;split at h
   .cases h
   .rename_i hr;cases h;refine⟨some (d,.tup []),rfl,rfl,fun s v e=>by cases e;exact .inl hd,fun s v e _ _=>by cases e;exact⟨by simpa using hr,rfl⟩,fun s v e hn _=>by cases e;exact absurd hd hn,fun env2 ha=>?_⟩;unfold bH;rw[<-dS ha.guard,hw];simp only[hd];rw[if_neg (by rw[<-ha.dst d hd];exact hr)];rfl
  .rename_i hd;cases h;refine⟨none,rfl,rfl,fun s v e=>(nomatch e),fun s v e=>(nomatch e),fun s v e=>(nomatch e),fun env2 ha=>?_⟩;unfold bH;rw[<-dS ha.guard,hw];simp only[hd];rfl
 .cases h
theorem rC(_:lI cf){o:VOper}(hp:o.op.isP=true){σ':St}(h:bH cf sg t0 σ o=some σ') :
  ∃u,σ'={σ with env:=put u σ.env}/\(∀s v,u=some (s,v)->o.dst=some s)/\(∀s v,u=some (s,v)->o.op.makesR=false->aN (get σ.env s)=false/\aN v=false)/\∀σ2:St,σ2.clk=σ.clk->(o.op.looksB=true->σ.bx=σ2.bx)->Agr o (get σ.env) (get σ2.env)->bH cf sg t0 σ2 o=some {σ2 with env:=put u σ2.env}:=by
 unfold bH at h;split at h
 .rename_i hw;split at h
  .cases h
  .rename_i hr;obtain⟨d,v,hd,hv,rfl⟩:=cE hp h;refine⟨some (d,v),rfl,fun s v' e=>by cases e;exact hd,fun s v' e hm=>by cases e;exact⟨by rw[hd,hm]at hr;simpa[xL]using hr,lO hv hm⟩,fun σ2 hc hb ha=>?_⟩;unfold bH;rw[<-dS ha.guard,hw];simp only;rw[<-rB ha.dst,if_neg hr,jU hp];simp only[yH,hd];rw[hc,<-uG ha hb,hv];rfl
 .rename_i hw;split at h
  .rename_i d hd;split at h
   .cases h
   .rename_i hr;cases h;refine⟨some (d,.tup []),rfl,fun s v e=>by cases e;exact hd,fun s v e _=>by cases e;exact⟨by simpa using hr,rfl⟩,fun σ2 hc hb ha=>?_⟩;unfold bH;rw[<-dS ha.guard,hw];simp only[hd];rw[if_neg (by rw[<-ha.dst d hd];exact hr)];rfl
  .rename_i hd;cases h;refine⟨none,rfl,fun s v e=>(nomatch e),fun s v e=>(nomatch e),fun σ2 hc hb ha=>?_⟩;unfold bH;rw[<-dS ha.guard,hw];simp only[hd];rfl
 .cases h
end
end Go.VM
namespace Go.VM
open Go.RowKit
structure StEq0(σ τ:St):Prop where
 clk:σ.clk=τ.clk
 tips:σ.tips=τ.tips
 lk:σ.lk=τ.lk
 bx:σ.bx=τ.bx
 env:get σ.env=get τ.env
structure StEq(σ τ:St):Prop where
 clk:σ.clk=τ.clk
 tips:σ.tips=τ.tips
 lk:∀n,σ.lk n=true->τ.lk n=true
 bx:σ.bx=τ.bx
 env:get σ.env=get τ.env
theorem StEq.refl(σ:St):StEq σ σ:=⟨rfl,rfl,fun _ h=>h,rfl,rfl⟩
theorem StEq.trans{σ τ υ:St}(h:StEq σ τ)(k:StEq τ υ):StEq σ υ:=⟨h.clk.trans k.clk,h.tips.trans k.tips,fun n hn=>k.lk n (h.lk n hn),h.bx.trans k.bx,h.env.trans k.env⟩
theorem StEq0.le{σ τ:St}(h:StEq0 σ τ):StEq σ τ:=⟨h.clk,h.tips,fun n hn=>by rw[<-h.lk];exact hn,h.bx,h.env⟩
def eF(cf:cO)(sg:Nat->Sig):Prop:=∀f vs bx r bx',cf f vs bx=some (r,bx')->(sg f).quiet=true->bx'.length=bx.length->bx'=bx
theorem Agr.symm{o:VOper}{e e':Nat->V}(h:Agr o e e'):Agr o e' e:=
 ⟨fun s hs=>(h.reads s hs).symm,fun s hs=>(h.roots s hs).symm,fun s hs=>(h.sroot s hs).symm,fun s w hs=>(h.guard s w hs).symm,fun d hd=>(h.dst d hd).symm,fun av ha l=>(h.live av ha l).symm⟩
theorem Agr.of_eq{o:VOper}{e e':Nat->V}(h:e=e'):Agr o e e':=by
 subst h;exact⟨fun _ _=>rfl,fun _ _=>rfl,fun _ _=>rfl,fun _ _ _=>rfl,fun _ _=>rfl,fun _ _ _=>rfl⟩
theorem yP{e:Nat->V}{s t:Nat}{v:V}(h:t≠s):ev (upd e s v) (.tmp t)=ev e (.tmp t):=by simp only[ev,aO _ _ h]
theorem aC6{op:VOp}{ds:List Nat}(h:op.calmFor ds=true):∀av∈op.avs,∀d∈ds,av.contains d=true:=by
 intro av hav d hd;cases op with
 |load rt agg sz a=>
  cases rt with
  |e av'=>
   simp only[VOp.avs,List.mem_singleton]at hav;subst hav;simp only[VOp.calmFor,List.all_eq_true]at h;exact h d hd
  |_=>simp[VOp.avs]at hav
 |toStr x av'=>
  simp only[VOp.avs,List.mem_singleton]at hav;subst hav;simp only[VOp.calmFor,List.all_eq_true]at h;exact h d hd
 |append z bytes cut zs s x av'=>
  simp only[VOp.avs,List.mem_singleton]at hav;subst hav;simp only[VOp.calmFor,List.all_eq_true]at h;exact h d hd
 |call f xs q av'=>
  simp only[VOp.avs,List.mem_singleton]at hav;subst hav;simp only[VOp.calmFor,List.all_eq_true]at h;exact h d hd
 |callv x xs q av'=>
  simp only[VOp.avs,List.mem_singleton]at hav;subst hav;simp only[VOp.calmFor,List.all_eq_true]at h;exact h d hd
 |_=>simp[VOp.avs]at hav
theorem aFs{op:VOp}(h:op.calm=true):op.avs=[]:=by
 cases op with
 |load rt agg sz a=>cases rt<;>first|rfl|cases h
 |toStr=>cases h
 |append=>cases h
 |call=>cases h
 |callv=>cases h
 |_=>rfl
theorem aFt{e:Nat->V}{s:Nat}{v:V}{av:List Nat}(h:(aN (e s)=false/\aN v=false)\/av.contains s=true)(l:Lab):l.free e av=l.free (upd e s v) av:=by
 cases l with
 |rv t c k=>
  by_cases hts:t=s
  .subst hts;rcases h with⟨h1,h2⟩|h
   · have g1 : (Lab.rv t c k).live e = false := by
       simp only[Lab.live];split
       .rename_i hr;rw[hr]at h1;cases h1
       .rfl
     have g2:(Lab.rv t c k).live (upd e t v)=false:=by
      simp only[Lab.live,bT];split
      .cases h2
      .rfl
     simp only[Lab.free,g1,g2]
   .simp only[Lab.free,h,Bool.not_true,Bool.and_false]
  .simp only[Lab.free,Lab.live,aO _ _ hts]
 |_=>rfl
theorem yQ{o:VOper}{e:Nat->V}{s:Nat}{v:V}(h1:s∉o.slots)(h2:bB o.op≠some s)(h3:(aN (e s)=false/\aN v=false)\/o.op.calmFor [s]=true):Agr o e (upd e s v):=by
 simp only[VOper.slots,List.mem_append,not_or]at h1;obtain⟨⟨⟨r1,r2⟩,r3⟩,r4⟩:=h1;refine⟨fun t ht=>(yP fun(q:t=s)=>r1 (q▸ht)).symm,fun t ht=>(aO _ _ fun(q:t=s)=>r2 (q▸ht)).symm,fun t ht=>(aO _ _ fun(q:t=s)=>h2 (q▸ht)).symm,fun t w ht=>(aO _ _ fun e=>r4 (by rw[ht];simp[e])).symm,fun t ht=>by rw[aO _ _ fun e=>r3 (by rw[ht];simp[e])],fun av hav l=>aFt ?_ l⟩;rcases h3 with h3|h3
 .exact .inl h3
 .exact .inr (aC6 h3 av hav s (by simp))
theorem aDw{o:VOper}{e:Nat->V}{s c n:Nat}{cs cs':List V}(he:e s=.reg c n cs)(h1:s∉o.op.roots)(h2:bB o.op≠some s)(h3:∀w,o.guard≠some (s,w))(h4:o.op.calm=true):Agr o e (upd e s (.reg c (n+1) cs')):=by
 refine⟨fun t ht=>?_,fun t ht=>(aO _ _ fun(q:t=s)=>h1 (q▸ht)).symm,fun t ht=>(aO _ _ fun(q:t=s)=>h2 (q▸ht)).symm,fun t w ht=>(aO _ _ fun(q:t=s)=>h3 w (q▸ht)).symm,fun t ht=>?_,fun av hav l=>by rw[aFs h4]at hav;cases hav⟩
 .by_cases hts:t=s
  .subst hts;simp only[ev,he,bT]
  .exact(yP hts).symm
 .by_cases hts:t=s
  .subst hts;simp only[he,bT];rfl
  .rw[aO _ _ hts]
structure Apart(x y:VOper):Prop where
 p:x.op.isP=true
 t:y.op.tame=true
 xy:∀d,x.dst=some d->d∉y.slots
 yx:∀d,y.dst=some d->d∉x.slots
 bx:x.op.looksB=true->y.op.leavesB=true
 root:∀s,bB y.op=some s->x.op.calm=true/\s∉x.op.roots/\x.dst≠some s/\∀w,x.guard≠some (s,w)
 mx:x.op.makesR=true->y.op.calmFor x.dst.toList=true
 my:y.op.makesR=true->x.op.calmFor y.dst.toList=true
theorem mX{op:VOp}(h:op.isP=true):bB op=none:=by
 cases op<;>first|rfl|cases h
theorem tH{op:VOp}(h:op.mild=true):bB op=none:=by
 cases op with
 |store rt sz a x=>cases rt<;>first|rfl|cases h
 |_=>rfl
theorem yR{op:VOp}(h:op.calm=true)(ds:List Nat):op.calmFor ds=true:=by
 cases op with
 |load rt agg sz a=>cases rt<;>first|rfl|cases h
 |toStr=>cases h
 |append=>cases h
 |call=>cases h
 |callv=>cases h
 |_=>rfl
theorem jL{x y:VOper}(ha:apart x y=true)(hb:vH x y=true)(hx:(!x.op.makesR||y.op.calmFor x.dst.toList)=true)(hy:(!y.op.makesR||x.op.calmFor y.dst.toList)=true):Apart x y:=by
 simp only[apart,Bool.and_eq_true,List.all_eq_true]at ha;simp only[vH,Bool.and_eq_true,Bool.or_eq_true]at hb;obtain⟨⟨b1,b2⟩,b3⟩:=hb;simp only[Bool.or_eq_true,Bool.not_eq_true']at hx hy;refine⟨b1,?_,fun d hd=>?_,fun d hd=>?_,fun h=>?_,fun s hs=>?_,fun h=>?_,fun h=>?_⟩
 .simp only[VOp.tame,Bool.or_eq_true];rcases b3 with(h|h)|h
  .exact .inl (.inl h)
  .exact .inl (.inr h)
  .refine .inr ?_;split at h
   .rename_i hs;rw[hs];rfl
   .cases h
 .have:=ha.1 d (by rw[hd];simp);simpa using this
 .have:=ha.2 d (by rw[hd];simp);simpa using this
 .rcases b2 with h2|h2
  .rw[h]at h2;cases h2
  .exact h2
 .rcases b3 with(h|h)|h
  .rw[mX h]at hs;cases hs
  .rw[tH h]at hs;cases hs
  .rw[hs]at h;simp only[Bool.and_eq_true,Bool.not_eq_true']at h;obtain⟨h1,h2⟩:=h;have h2':s∉x.op.roots++x.dst.toList++(x.guard.map (·.1)).toList:=by simpa using h2
   simp only[List.mem_append,not_or]at h2';obtain⟨⟨q1,q2⟩,q3⟩:=h2';exact⟨h1,q1,fun e=>q2 (by rw[e];simp),fun w e=>q3 (by rw[e];simp)⟩
 .rcases hx with h2|h2
  .rw[h]at h2;cases h2
  .exact h2
 .rcases hy with h2|h2
  .rw[h]at h2;cases h2
  .exact h2
theorem aC7{x y:VOper}(h:apart x y=true):apart y x=true:=by
 simp only[apart,Bool.and_eq_true]at *;exact⟨h.2,h.1⟩
theorem tI{x y:VOper}(h:aCK x y=true):Apart x y\/Apart y x\/(apart x y=true/\appBs x y=true):=by
 simp only[aCK,Bool.and_eq_true,Bool.or_eq_true]at h;rcases h with⟨⟨⟨h1,h2⟩,h3⟩,h4⟩|h
 .rcases h2 with h2|h2
  .exact .inl (jL h1 h2 (by simpa using h3) (by simpa using h4))
  .exact .inr (.inl (jL (aC7 h1) h2 (by simpa using h4) (by simpa using h3)))
 .exact .inr (.inr h)
section
variable{cf:cO}{sg:Nat->Sig}{t0:Nat->Nat}{σ:St}
theorem aC8{d bytes:Nat}{cut:Bool}{z:Nat}{s:V}{m:Nat}{news:List V}{σ':St}(h:append2 σ d bytes cut z s m news=some σ'):σ'.bx=σ.bx:=by
 unfold append2 at h;split at h
 .split at h
  .split at h<;>cases h<;>rfl
  .cases h
 .split at h
  .cases h;rfl
  .cases h
 .split at h
  .cases h;rfl
  .cases h
 .cases h
theorem aFu(hq:eF cf sg){d:Option Nat}{f:Nat}{vs:List V}{av:List Nat}{σ':St}(h:mI cf sg σ d f vs true av=some σ'):σ'.bx=σ.bx:=by
 unfold mI at h;cases d with
 |none=>cases h
 |some d=>
  simp only at h;split at h
  .rename_i hc;cases hr:cf f (aI (sg f).cons 0 vs) σ.bx with
   |none=>rw[hr]at h;cases h
   |some x=>
    obtain⟨r,bx⟩:=x;rw[hr]at h;simp only at h;split at h
    .rename_i hg;cases h;exact hq _ _ _ _ _ hr (hc.2.2.2.2 trivial) (hg.2.2.2 trivial)
    .cases h
  .cases h
theorem yS(hq:eF cf sg){d:Option Nat}{f:Nat}{vs:List V}{av:List Nat}{σ':St}(h:eQ cf sg σ d f vs true av=some σ'):σ'.bx=σ.bx:=by
 unfold eQ at h;split at h
 .unfold tD at h;cases d with
  |none=>cases h
  |some d=>
   simp only at h;split at h
   .split at h
    .cases h
    .split at h
     .cases h;exact rfl
     .cases h
   .cases h
 .exact aFu hq h
theorem rD(hq:eF cf sg){o:VOper}(hl:o.op.leavesB=true){σ':St}(h:bH cf sg t0 σ o=some σ'):σ'.bx=σ.bx:=by
 unfold bH at h;split at h
 .split at h
  .cases h
  .obtain⟨dst,op,guard⟩:=o;simp only at h hl;by_cases hp:op.isP=true
   .obtain⟨d,v,_,_,rfl⟩:=cE hp h;rfl
   .cases op with
    |store rt sz a x=>
     cases dst with
     |some d=>cases h
     |none=>
      simp only[aU]at h;cases rt with
      |b=>cases hl
      |r s=>
       cases e2:ev (get σ.env) a with
       |rp s' c off=>
        rw[e2]at h;simp only[storeAt]at h;split at h
        .split at h
         .cases h;rfl
         .cases h
        .cases h
       |_=>rw[e2]at h;cases h
      |e av=>
       cases e2:ev (get σ.env) a with
       |ep l cs off=>
        rw[e2]at h;cases l with
        |own nm k=>
         simp only[storeAt]at h;split at h
         .cases h;rfl
         .cases h
        |_=>cases h
       |_=>rw[e2]at h;cases h
    |call f args q av=>
     simp only[aU]at h;cases q with
     |true=>exact yS hq h
     |false=>cases hl
    |callv x args q av=>
     simp only[aU]at h;split at h
     .cases q with
      |true=>exact yS hq h
      |false=>cases hl
     .cases h
    |allocB=>cases hl
    |boxB=>cases hl
    |bslice lky z n zs ps=>
     cases lky with
     |false=>exact absurd rfl hp
     |true=>
      simp only[aU]at h;split at h
      .split at h
       .cases h;rfl
       .cases h
      .cases h
    |append z bytes cut zs s x av=>
     simp only[aU]at h;split at h
     .split at h
      .exact aC8 h
      .cases h
     .cases h
    |_=>exact absurd rfl hp
 .split at h
  .split at h
   .cases h
   .cases h;rfl
  .cases h;rfl
 .cases h
theorem aIV{x y:VOper}(ha:Apart x y){e:Nat->V}{u:Option (Nat×V)}(h3:∀s v,u=some (s,v)->y.dst=some s\/bB y.op=some s)(h4:∀s v,u=some (s,v)->y.op.makesR=false->bB y.op≠some s->aN (e s)=false/\aN v=false)
  (h5:∀s v,u=some (s,v)->y.dst≠some s->bB y.op=some s->∃c n cs cs',e s=.reg c n cs/\v=.reg c (n+1) cs'):Agr x e (aD7 u e):=by
 have hsx:=mX ha.p;cases u with
 |none=>exact Agr.of_eq rfl
 |some sv=>
  obtain⟨s,v⟩:=sv;show Agr x e (upd e s v);by_cases hd:y.dst=some s
  .refine yQ (ha.yx s hd) (by rw[hsx];simp) ?_;by_cases hr:bB y.op=some s
   .exact .inr (yR (ha.root s hr).1 _)
   .by_cases hm:y.op.makesR=true
    .have:=ha.my hm;rw[hd]at this;exact .inr this
    .exact .inl (h4 s v rfl (by simpa using hm) hr)
  .have hr:=(h3 s v rfl).resolve_left hd;obtain⟨c,n,cs,cs',e1,e2⟩:=h5 s v rfl hd hr;obtain⟨r1,r2,r3,r4⟩:=ha.root s hr;rw[e2];exact aDw e1 r2 (by rw[hsx];simp) r4 r1
theorem aIW{x y:VOper}(ha:Apart x y){e:Nat->V}{u:Option (Nat×V)}(h3:∀s v,u=some (s,v)->x.dst=some s)(h4:∀s v,u=some (s,v)->x.op.makesR=false->aN (e s)=false/\aN v=false):Agr y e (aD7 u e):=by
 cases u with
 |none=>exact Agr.of_eq rfl
 |some sv=>
  obtain⟨s,v⟩:=sv;show Agr y e (upd e s v);have hd:x.dst=some s:=h3 s v rfl;refine yQ (ha.xy s hd) (fun hr=>(ha.root s hr).2.2.1 hd) ?_;by_cases hm:x.op.makesR=true
  .have:=ha.mx hm;rw[hd]at this;exact .inr this
  .exact .inl (h4 s v rfl (by simpa using hm))
theorem rE{x y:VOper}(ha:Apart x y){s t:Nat}(hx:x.dst=some s)(hy:y.dst=some t\/bB y.op=some t):s≠t:=by
 rintro rfl;rcases hy with hy|hy
 .exact ha.xy s hx (by simp[VOper.slots,hy])
 .exact(ha.root s hy).2.2.1 hx
theorem yT{e:Nat->V}{u w:Option (Nat×V)}(h:∀s v t z,u=some (s,v)->w=some (t,z)->s≠t):aD7 u (aD7 w e)=aD7 w (aD7 u e):=by
 cases u with
 |none=>rfl
 |some x=>
  cases w with
  |none=>rfl
  |some y=>
   have:=h x.1 x.2 y.1 y.2 rfl rfl
   funext t
   simp only[aD7,upd];by_cases h1:t=x.1
   .subst h1;simp[this]
   .simp[h1]
theorem aBk{e:Nat->V}{u:Option (Nat×V)}{t:Nat}(h:∀s v,u=some (s,v)->s≠t):aD7 u e t=e t:=by
 cases u with
 |none=>rfl
 |some x=>exact aO _ _ fun e=>h x.1 x.2 rfl e.symm
theorem aHS(hcf:lI cf)(hq:eF cf sg){x y:VOper}(ha:Apart x y){σ1 σ2:St}(h1:bH cf sg t0 σ x=some σ1)(h2:bH cf sg t0 σ1 y=some σ2) :
  ∃σ3 σ4,bH cf sg t0 σ y=some σ3/\bH cf sg t0 σ3 x=some σ4/\StEq σ4 σ2:=by
 obtain⟨u,hu,a3,a4,hx2⟩:=rC hcf ha.p h1;obtain⟨v,b1,b2,b3,b4,b5,b6⟩:=oE hcf ha.t h2;have ne:∀s z t q,u=some (s,z)->v=some (t,q)->s≠t:=fun s z t q e1 e2=>rE ha (a3 s z e1) (b3 t q e2)
 have e1:get σ1.env=aD7 u (get σ.env):=by rw[hu];exact fK _ _
 have agy:Agr y (get σ.env) (get σ1.env):=by rw[e1];exact aIW ha a3 a4
 have hy:=b6 σ.env agy.symm;have hσ:({σ1 with env:=σ.env}:St)=σ:=by rw[hu]
 rw[hσ]at hy;have back:∀s z,v=some (s,z)->get σ1.env s=get σ.env s:=fun s z e=>by rw[e1];exact aBk fun t q e2=>ne t q s z e2 e
 have agx:Agr x (get σ.env) (aD7 v (get σ.env)):=aIV ha b3 (fun s z e hm hr=>by rw[<-back s z e];exact b4 s z e hm hr) (fun s z e hd hr=>by rw[<-back s z e];exact b5 s z e hd hr);have hstep:=hx2 {σ2 with env:=put v σ.env} (by show σ2.clk=_;rw[b2,hu]) (fun hl=>by
  show σ.bx=σ2.bx;rw[rD hq (ha.bx hl) h2,hu]) (by show Agr x _ (get (put v σ.env));rw[fK];exact agx)
 refine⟨_,_,hy,hstep,rfl,rfl,fun _ h=>h,rfl,?_⟩;show get (put u (put v σ.env))=get σ2.env;rw[fK,fK,b1,fK,e1];exact yT ne
theorem aHT(hcf:lI cf)(hq:eF cf sg){x y:VOper}(ha:Apart x y){σ1 σ2:St}(h1:bH cf sg t0 σ y=some σ1)(h2:bH cf sg t0 σ1 x=some σ2) :
  ∃σ3 σ4,bH cf sg t0 σ x=some σ3/\bH cf sg t0 σ3 y=some σ4/\StEq σ4 σ2:=by
 obtain⟨v,b1,b2,b3,b4,b5,b6⟩:=oE hcf ha.t h1;obtain⟨u,hu,a3,a4,hx2⟩:=rC hcf ha.p h2;have ne:∀s z t q,u=some (s,z)->v=some (t,q)->s≠t:=fun s z t q e1 e2=>rE ha (a3 s z e1) (b3 t q e2)
 have e1:get σ1.env=aD7 v (get σ.env):=by rw[b1];exact fK _ _
 have agx:Agr x (get σ.env) (get σ1.env):=by rw[e1];exact aIV ha b3 b4 b5
 have hx:=hx2 σ b2.symm (fun hl=>rD hq (ha.bx hl) h1) agx.symm;have back:∀s z,u=some (s,z)->get σ1.env s=get σ.env s:=fun s z e=>by rw[e1];exact aBk fun t q e2=>(ne s z t q e e2).symm
 have agy:Agr y (get σ.env) (get (put u σ.env)):=by rw[fK];exact aIW ha a3 fun s z e hm=>by rw[<-back s z e];exact a4 s z e hm
 have hy:=b6 (put u σ.env) agy;refine⟨_,_,hx,hy,?_⟩;rw[hu];refine⟨rfl,rfl,fun _ h=>h,rfl,?_⟩;show get (put v (put u σ.env))=get (put u σ1.env);rw[fK,fK,fK,e1];exact(yT ne).symm
theorem bs_act{lky:Bool}(hk:lky=true){dst:Option Nat}{g:Option (Nat×Bool)}{z n:Nat}{zs:List V}{ps:List (Nat×Nat×Opd)}{σ1:St}(h:bH cf sg t0 σ ⟨dst,.bslice lky z n zs ps,g⟩=some σ1) :
  ∃(u:Option (Nat×V)) (N:List Nat),(∀s v,u=some (s,v)->dst=some s/\aN (get σ.env s)=false/\aN v=false)/\σ1={σ with env:=put u σ.env,lk:=fB σ.lk true N}/\
   ∀τ:St,Agr ⟨dst,.bslice lky z n zs ps,g⟩ (get σ.env) (get τ.env)->bH cf sg t0 τ ⟨dst,.bslice lky z n zs ps,g⟩=some {τ with env:=put u τ.env,lk:=fB τ.lk true N}:=by
 subst hk;unfold bH at h;split at h
 .rename_i hw;split at h
  .cases h
  .rename_i hr;simp only[aU]at h;split at h
   .rename_i d cs hf;split at h
    .rename_i hc;cases h;refine⟨some (d,.sl (.own (aQ d 0) (t0 (aQ d 0))) z n (cs.map V.bare)),aC cs,fun s v e=>?_,rfl,fun τ ha=>?_⟩
     .cases e;exact⟨rfl,by simpa[xL,VOp.makesR]using hr,rfl⟩
     .unfold bH;rw[<-dS ha.guard,hw];simp only;rw[<-rB ha.dst,if_neg hr];have hf2:=vW (ps:=ps) (fun s hs=>ha.reads s hs) ((List.replicate n zs).flatten);simp only[aU];rw[<-hf2,hf];simp only;rw[if_pos hc];rfl
    .cases h
   .cases h
 .rename_i hw;split at h
  .rename_i d hd;split at h
   .cases h
   .rename_i hr;cases h;subst hd;refine⟨some (d,.tup []),[],fun s v e=>?_,rfl,fun τ ha=>?_⟩
    .cases e;exact⟨rfl,by simpa using hr,rfl⟩
    .unfold bH;rw[<-dS ha.guard,hw];simp only;rw[if_neg (by rw[<-ha.dst d rfl];exact hr)];rfl
  .rename_i hd;cases h;subst hd;refine⟨none,[],fun s v e=>(nomatch e),rfl,fun τ ha=>?_⟩;unfold bH;rw[<-dS ha.guard,hw];rfl
 .cases h
theorem app_act{dst:Option Nat}{g:Option (Nat×Bool)}{z bytes:Nat}{zs:List V}{s x:Opd}{av:List Nat}{σ1:St}(h:bH cf sg t0 σ ⟨dst,.append z bytes false zs s x av,g⟩=some σ1) :
  ∃(u:Option (Nat×V)) (T:Nat->Nat) (L:(Nat->Bool)->Nat->Bool),(∀s v,u=some (s,v)->dst=some s/\aN (get σ.env s)=false/\aN v=false)/\(∀l N m,L (fB l true N) m=true->fB (L l) true N m=true)/\σ1={σ with env:=put u σ.env,tips:=T,lk:=L σ.lk}/\
   ∀τ:St,τ.tips=σ.tips->Agr ⟨dst,.append z bytes false zs s x av,g⟩ (get σ.env) (get τ.env)->bH cf sg t0 τ ⟨dst,.append z bytes false zs s x av,g⟩=some {τ with env:=put u τ.env,tips:=T,lk:=L τ.lk}:=by
 unfold bH at h;split at h
 .rename_i hw;split at h
  .cases h
  .rename_i hr;simp only[aU]at h;split at h
   .rename_i d m news hsrc;split at h
    .rename_i hc;have hreg:aN (get σ.env d)=false:=by simpa[xL,VOp.makesR]using hr
     have go:∀τ:St,Agr ⟨some d,.append z bytes false zs s x av,g⟩ (get σ.env) (get τ.env)->ev (get τ.env) s=ev (get σ.env) s/\bH cf sg t0 τ ⟨some d,.append z bytes false zs s x av,g⟩=append2 τ d bytes false z (ev (get σ.env) s) m news:=fun τ ha=>by
      have hs:ev (get σ.env) s=ev (get τ.env) s:=bV fun t ht=>ha.reads t (List.mem_append_left _ ht)
      have hx:ev (get σ.env) x=ev (get τ.env) x:=bV fun t ht=>ha.reads t (List.mem_append_right _ ht)
      refine⟨hs.symm,?_⟩;unfold bH;rw[<-dS ha.guard,hw];simp only;rw[<-rB ha.dst,if_neg hr];simp only[aU];rw[<-hx,<-aAo (ha.live av (by simp[VOp.avs])),hsrc,<-hs];simp only;rw[if_pos hc]
     unfold append2 at h;split at h
     .rename_i hsv;split at h
      .rename_i hc2;split at h
       .rename_i hm;cases h;refine⟨some (d,.nils),σ.tips,id,fun s v e=>by cases e;exact⟨rfl,hreg,rfl⟩,fun _ _ _ h=>h,rfl,fun τ ht ha=>?_⟩;rw[(go τ ha).2,hsv];simp only[append2,if_pos hc2,if_pos hm];rw[<-ht];rfl
       .rename_i hm;cases h;refine⟨some (d,.sl (.own (aQ d 0) (σ.tips (aQ d 0)+1)) z m news),upd σ.tips (aQ d 0) (σ.tips (aQ d 0)+1),fun l=>upd l (aQ d 0) false,fun s v e=>by cases e;exact⟨rfl,hreg,rfl⟩,fun l N k hk=>?_,rfl,fun τ ht ha=>?_⟩
        .by_cases e:k=aQ d 0
         .subst e;have hk':upd (fB l true N) (aQ d 0) false (aQ d 0)=true:=hk;rw[bT]at hk';cases hk'
         .have hk':upd (fB l true N) (aQ d 0) false k=true:=hk;rw[aO _ _ e,dK]at hk';show fB (upd l (aQ d 0) false) true N k=true;rw[dK,aO _ _ e];exact hk'
        .rw[(go τ ha).2,hsv];simp only[append2,if_pos hc2,if_neg hm];rw[ht];rfl
      .cases h
     .rename_i nm k z' n cs hsv;split at h
      .rename_i hc2;cases h;refine⟨some (d,.sl (.own nm (k+1)) z (n+m) (cs++news)),upd σ.tips nm (k+1),id,fun s v e=>by cases e;exact⟨rfl,hreg,rfl⟩,fun _ _ _ h=>h,rfl,fun τ ht ha=>?_⟩;rw[(go τ ha).2,hsv];simp only[append2];rw[ht,if_pos hc2];rfl
      .cases h
     .rw[if_neg (by rintro⟨h1,_⟩;cases h1)]at h;cases h
     .cases h
    .cases h
   .cases h
 .rename_i hw;split at h
  .rename_i d hd;split at h
   .cases h
   .rename_i hr;cases h;subst hd;refine⟨some (d,.tup []),σ.tips,id,fun s v e=>?_,fun _ _ _ h=>h,rfl,fun τ ht ha=>?_⟩
    .cases e;exact⟨rfl,by simpa using hr,rfl⟩
    .unfold bH;rw[<-dS ha.guard,hw];simp only;rw[if_neg (by rw[<-ha.dst d rfl];exact hr),<-ht];rfl
  .rename_i hd;cases h;subst hd;refine⟨none,σ.tips,id,fun s v e=>(nomatch e),fun _ _ _ h=>h,rfl,fun τ ht ha=>?_⟩;unfold bH;rw[<-dS ha.guard,hw,<-ht];rfl
 .cases h
theorem agr_put{o:VOper}{e:Nat->V}{u:Option (Nat×V)}(hs:bB o.op=none)(h:∀s v,u=some (s,v)->s∉o.slots/\aN (e s)=false/\aN v=false):Agr o e (aD7 u e):=by
 cases u with
 |none=>exact Agr.of_eq rfl
 |some sv=>
  obtain⟨s,v⟩:=sv;obtain⟨h1,h2,h3⟩:=h s v rfl;exact yQ h1 (by rw[hs];simp) (.inl ⟨h2,h3⟩)
theorem swap_ab{x y:VOper}(h:apart x y=true)(hab:appBs x y=true){σ1 σ2:St}(h1:bH cf sg t0 σ x=some σ1)(h2:bH cf sg t0 σ1 y=some σ2) :
  ∃σ3 σ4,bH cf sg t0 σ y=some σ3/\bH cf sg t0 σ3 x=some σ4/\StEq σ4 σ2:=by
 obtain⟨dx,opx,gx⟩:=x;obtain⟨dy,opy,gy⟩:=y;simp only[apart,Bool.and_eq_true,List.all_eq_true,Bool.not_eq_true',List.contains_eq_mem,decide_eq_false_iff_not,Option.mem_toList]at h;have hab':∃z b zs s xx av z' n zs' ps,opx=.append z b false zs s xx av/\opy=.bslice true z' n zs' ps:=by
  unfold appBs at hab;split at hab
  .rename_i e1 e2;exact⟨_,_,_,_,_,_,_,_,_,_,e1,e2⟩
  .cases hab
 obtain⟨z,b,zs,s,xx,av,z',n,zs',ps,rfl,rfl⟩:=hab'
 .obtain⟨u,T,L,u1,u2,u3,u4⟩:=app_act h1;obtain⟨v,N,v1,v2,v3⟩:=bs_act rfl h2;subst u3;simp only at v1 v2 v3;have ne:∀s a t q,v=some (s,a)->u=some (t,q)->s≠t:=fun s a t q e1 e2 e=>by
   have h3:=(v1 s a e1).1;have h4:=(u1 t q e2).1;subst e;exact h.1 _ h4 (by simp[VOper.slots,h3])
  have gu:get (put u σ.env)=aD7 u (get σ.env):=fK _ _;have ag1:Agr ⟨dy,.bslice true z' n zs' ps,gy⟩ (get σ.env) (get (put u σ.env)):=by
   rw[gu];exact agr_put rfl fun s a e=>⟨fun hm=>h.1 s (u1 s a e).1 hm,(u1 s a e).2⟩
  have ag2:Agr ⟨dx,.append z b false zs s xx av,gx⟩ (get σ.env) (get (put v σ.env)):=by
   rw[fK];refine agr_put rfl fun s a e=>⟨fun hm=>h.2 s (v1 s a e).1 hm,?_,(v1 s a e).2.2⟩
   have:=(v1 s a e).2.1;rw[gu,aBk fun t q e2 e3=>ne s a t q e e2 e3.symm]at this;exact this
  have k1:=v3 σ ag1.symm;have k2:=u4 {σ with env:=put v σ.env,lk:=fB σ.lk true N} rfl ag2;refine⟨_,_,k1,k2,?_⟩;subst v2;refine⟨rfl,rfl,fun m hm=>u2 σ.lk N m hm,rfl,?_⟩;show get (put u (put v σ.env))=get (put v (put u σ.env));rw[fK,fK,fK,fK];exact(yT ne).symm
theorem aC9(hcf:lI cf)(hq:eF cf sg){x y:VOper}(h:aCK x y=true){σ1 σ2:St}(h1:bH cf sg t0 σ x=some σ1)(h2:bH cf sg t0 σ1 y=some σ2) :
  ∃σ3 σ4,bH cf sg t0 σ y=some σ3/\bH cf sg t0 σ3 x=some σ4/\StEq σ4 σ2:=by
 rcases tI h with ha|ha|⟨ha,hb⟩
 .exact aHS hcf hq ha h1 h2
 .exact aHT hcf hq ha h1 h2
 .exact swap_ab ha hb h1 h2
theorem stepOp_steq0(hcf:lI cf){o:VOper}{σ τ σ':St}(he:StEq0 σ τ)(h:bH cf sg t0 σ o=some σ'):∃τ',bH cf sg t0 τ o=some τ'/\StEq0 σ' τ':=by
 obtain⟨c1,e1,t1,l1,b1⟩:=σ;obtain⟨c2,e2,t2,l2,b2⟩:=τ;obtain⟨h1,h2,h3,h4,h5⟩:=he;simp only at h1 h2 h3 h4 h5;subst h1 h2 h3 h4;have ag:Agr o (get e1) (get e2):=Agr.of_eq h5;by_cases ht:o.op.tame=true
 .obtain⟨u,a1,a2,_,_,_,a6⟩:=oE hcf ht h;refine⟨_,a6 e2 ag,rfl,rfl,rfl,rfl,?_⟩;show get σ'.env=get (put u e2);rw[a1,fK,fK,h5]
 .unfold bH at h ⊢;rw[<-dS ag.guard];split at h
  .rename_i hw;rw[hw];simp only at h ⊢;rw[<-rB ag.dst];split at h
   .cases h
   .rename_i hr;rw[if_neg hr];obtain⟨dst,op,guard⟩:=o;simp only at h ht ⊢;cases op with
    |store rt sz a x=>
     cases dst with
     |some d=>cases h
     |none=>
      simp only[aU]at h ⊢;rw[<-h5];cases rt with
      |r s=>exact absurd rfl ht
      |b=>exact absurd rfl ht
      |e av=>
       cases e2':ev (get e1) a with
       |ep l cs off=>
        rw[e2']at h;cases l with
        |own nm k=>
         simp only[storeAt]at h ⊢;split at h
         .rename_i hc;cases h;rw[if_pos hc];refine⟨_,rfl,rfl,rfl,rfl,rfl,?_⟩
          funext s
          show get (bY _ _ _ e1) s=get (bY _ _ _ e2) s;rw[fX,fX,h5]
         .cases h
        |_=>cases h
       |_=>rw[e2']at h;cases h
    |append z bytes cut zs s x av=>
     simp only[aU]at h ⊢;rw[<-h5];split at h
     .rename_i d m news hsrc;split at h
      .rename_i hc;simp only[if_pos hc];unfold append2 at h ⊢;split at h
       .split at h
        .rename_i hc2;simp only[if_pos hc2];split at h
         .rename_i hm;cases h;simp only[if_pos hm];exact⟨_,rfl,rfl,rfl,rfl,rfl,by show get (set e1 _ _)=get (set e2 _ _);rw[bG,bG,h5]⟩
         .rename_i hm;cases h;simp only[if_neg hm];exact⟨_,rfl,rfl,rfl,rfl,rfl,by show get (set e1 _ _)=get (set e2 _ _);rw[bG,bG,h5]⟩
        .cases h
       .split at h
        .rename_i hc2;cases h;simp only[if_pos hc2];exact⟨_,rfl,rfl,rfl,rfl,rfl,by show get (set e1 _ _)=get (set e2 _ _);rw[bG,bG,h5]⟩
        .cases h
       .split at h
        .rename_i hc2;cases h;simp only[if_pos hc2];refine⟨_,rfl,rfl,rfl,rfl,rfl,?_⟩;show get (set (bY _ _ _ e1) _ _)=get (set (bY _ _ _ e2) _ _);rw[bG,bG];congr 1
         funext s
         rw[fX,fX,h5]
        .cases h
       .cases h
      .cases h
     .cases h
    |bslice lky z n zs ps=>cases lky<;>exact absurd rfl ht
    |_=>exact absurd rfl ht
  .rename_i hw;rw[hw];simp only at h ⊢;split at h
   .rename_i d hd;rw[<-h5];split at h
    .cases h
    .rename_i hr;cases h;rw[if_neg hr];exact⟨_,rfl,rfl,rfl,rfl,rfl,by show get (set e1 _ _)=get (set e2 _ _);rw[bG,bG,h5]⟩
   .rename_i hd;cases h;exact⟨_,rfl,rfl,rfl,rfl,rfl,h5⟩
  .cases h
theorem updL_false{lk:Nat->Bool}{ns:List Nat}{m:Nat}:fB lk false ns m=true↔m∉ns/\lk m=true:=by
 induction ns with
 |nil=>simp[fB]
 |cons n r ih=>
  simp only[fB,upd];split
  .rename_i h;simp[h]
  .rename_i h;rw[ih];simp[h]
theorem callAt_lk{d:Option Nat}{f:Nat}{vs:List V}{q:Bool}{av:List Nat}{σ':St}{l:Nat->Bool}(hl:∀n,l n=true->σ.lk n=true)(h:eQ cf sg σ d f vs q av=some σ'):∃l',eQ cf sg {σ with lk:=l} d f vs q av=some {σ' with lk:=l'}/\∀n,l' n=true->σ'.lk n=true:=by
 unfold eQ at h ⊢;split at h
 .rename_i hc;rw[if_pos hc];unfold tD at h ⊢;cases d with
  |none=>cases h
  |some d=>
   simp only at h ⊢;split at h
   .rename_i hc2;rw[if_pos hc2];split at h
    .cases h
    .rename_i r bx hr;split at h
     .rename_i hp;cases h;simp only[hr,if_pos hp];exact⟨l,rfl,hl⟩
     .cases h
   .cases h
 .rename_i hc;rw[if_neg hc];unfold mI at h ⊢;cases d with
  |none=>cases h
  |some d=>
   simp only at h ⊢;split at h
   .rename_i hc2;rw[if_pos hc2];split at h
    .cases h
    .rename_i r bx hr;split at h
     .rename_i hp;cases h;simp only[hr,if_pos hp];refine⟨(aT {σ with lk:=l} (aD (sg f).cons 0 vs) vs d r bx).lk,rfl,fun n hn=>?_⟩;simp only[aT]at hn ⊢;rw[dK,updL_false]at hn ⊢;refine hn.imp_right fun⟨h1,h2⟩=>⟨h1,?_⟩
      split at h2
      .rename_i ht;rw[if_pos ht];exact hl n h2
      .rename_i ht;rw[if_neg ht];rw[dK]at h2 ⊢;exact h2.imp_right (hl n)
     .cases h
   .cases h
theorem step1_lk{d:Option Nat}{op:VOp}{σ':St}{l:Nat->Bool}(hl:∀n,l n=true->σ.lk n=true)(h:aU cf sg σ t0 d op=some σ'):∃l',aU cf sg {σ with lk:=l} t0 d op=some {σ' with lk:=l'}/\∀n,l' n=true->σ'.lk n=true:=by
 have up:∀ns n,fB l true ns n=true->fB σ.lk true ns n=true:=fun ns n h=>by rw[dK]at h ⊢;exact h.imp_right (hl n)
 have no:∀n,σ.lk n=false->l n=false:=fun n h=>by
  cases hh:l n with
  |false=>rfl
  |true=>rw[hl n hh]at h;cases h
 cases op with
 |store rt sz a x=>
  cases d with
  |some d=>cases h
  |none=>
   simp only[aU]at h ⊢;unfold storeAt at h ⊢;split at h
   .split at h
    .split at h
     .rename_i hg hc;cases h;simp only[hg,if_pos hc];exact⟨l,rfl,hl⟩
     .cases h
    .cases h
   .split at h
    .split at h
     .rename_i hg hc;cases h;simp only[hg,if_pos hc];exact⟨_,rfl,up _⟩
     .cases h
    .cases h
   .split at h
    .rename_i hc;cases h;simp only[if_pos (show _/\l _=false/\_ from⟨hc.1,no _ hc.2.1,hc.2.2⟩)];exact⟨_,rfl,up _⟩
    .cases h
   .cases h
 |call f args q av=>
  simp only[aU]at h ⊢;exact callAt_lk hl h
 |callv x args q av=>
  simp only[aU]at h ⊢;split at h
  .rename_i hx;exact callAt_lk hl h
  .cases h
 |allocB zs=>
  simp only[aU]at h ⊢;split at h
  .cases h;exact⟨l,rfl,hl⟩
  .cases h
 |boxB sz x=>
  simp only[aU]at h ⊢;split at h
  .split at h
   .rename_i hc;cases h;simp only[if_pos hc];exact⟨_,rfl,up _⟩
   .cases h
  .cases h
 |append z bytes cut zs s x av=>
  simp only[aU]at h ⊢;split at h
  .rename_i d m news hsrc;split at h
   .rename_i hc;simp only[if_pos hc];unfold append2 at h ⊢;split at h
    .split at h
     .rename_i hc2;simp only[if_pos hc2];split at h
      .rename_i hm;cases h;simp only[if_pos hm];exact⟨l,rfl,hl⟩
      .rename_i hm;cases h;simp only[if_neg hm];refine⟨_,rfl,fun n hn=>?_⟩;simp only[upd]at hn ⊢;split at hn
       .cases hn
       .rename_i hne;rw[if_neg hne];exact hl n hn
     .cases h
    .split at h
     .rename_i hc2;cases h;simp only[if_pos hc2];exact⟨l,rfl,hl⟩
     .cases h
    .split at h
     .rename_i hc2;cases h;simp only[if_pos (show _/\_/\_/\l _=false/\_ from⟨hc2.1,hc2.2.1,hc2.2.2.1,no _ hc2.2.2.2.1,hc2.2.2.2.2⟩)];exact⟨l,rfl,hl⟩
     .cases h
    .cases h
   .cases h
  .cases h
 |bslice lky z n zs ps=>
  cases lky with
  |false=>
   simp only[aU]at h ⊢;split at h
   .split at h
    .rename_i hv;cases h;simp only[hv];exact⟨l,rfl,hl⟩
    .cases h
   .cases h
  |true=>
   simp only[aU]at h ⊢;split at h
   .split at h
    .rename_i hc;cases h;simp only[if_pos hc];exact⟨_,rfl,up _⟩
    .cases h
   .cases h
 |_=>
  simp only[aU]at h ⊢;split at h
  .split at h
   .rename_i hv;cases h;simp only[hv];exact⟨l,rfl,hl⟩
   .cases h
  .cases h
theorem stepOp_lk{o:VOper}{σ':St}{l:Nat->Bool}(hl:∀n,l n=true->σ.lk n=true)(h:bH cf sg t0 σ o=some σ'):∃l',bH cf sg t0 {σ with lk:=l} o=some {σ' with lk:=l'}/\∀n,l' n=true->σ'.lk n=true:=by
 unfold bH at h ⊢;split at h
 .rename_i hw;simp only[hw];split at h
  .cases h
  .rename_i hr;rw[if_neg hr];exact step1_lk hl h
 .rename_i hw;simp only[hw];split at h
  .split at h
   .cases h
   .rename_i hr;cases h;rw[if_neg hr];exact⟨l,rfl,hl⟩
  .cases h;exact⟨l,rfl,hl⟩
 .cases h
theorem aAq(hcf:lI cf){o:VOper}{σ τ σ':St}(he:StEq τ σ)(h:bH cf sg t0 σ o=some σ'):∃τ',bH cf sg t0 τ o=some τ'/\StEq τ' σ':=by
 obtain⟨υ,k1,k2⟩:=stepOp_steq0 hcf (τ:={τ with lk:=σ.lk}) ⟨he.clk.symm,he.tips.symm,rfl,he.bx.symm,he.env.symm⟩ h;obtain⟨l',k3,k4⟩:=stepOp_lk (σ:={τ with lk:=σ.lk}) (l:=τ.lk) he.lk k1;exact⟨_,k3,k2.clk.symm,k2.tips.symm,fun n hn=>by rw[k2.lk];exact k4 n hn,k2.bx.symm,k2.env.symm⟩
theorem aAr(hcf:lI cf){os:List VOper}{σ τ σ':St}(he:StEq τ σ)(h:eD cf sg t0 σ os=some σ'):∃τ',eD cf sg t0 τ os=some τ'/\StEq τ' σ':=by
 induction os generalizing σ τ with
 |nil=>cases h;exact⟨τ,rfl,he⟩
 |cons o r ih=>
  simp only[eD]at h;split at h
  .rename_i σ1 h1;obtain⟨τ1,k1,k2⟩:=aAq hcf he h1;obtain⟨τ',k3,k4⟩:=ih k2 h;exact⟨τ',by simp only[eD,k1];exact k3,k4⟩
  .cases h
theorem aGr(hcf:lI cf)(hq:eF cf sg){o:VOper}{post:List VOper}:∀{ahead:List VOper} {σ τ:St},(∀p∈ahead,aCK p o=true)->eD cf sg t0 σ (ahead++o::post)=some τ->∃τ',eD cf sg t0 σ (o::(ahead++post))=some τ'/\StEq τ' τ
 |[],σ,τ,_,h=>⟨τ,h,StEq.refl τ⟩
 |p::r,σ,τ,hl,h=>by
  simp only[List.cons_append,eD]at h;split at h
  .rename_i σ1 h1;obtain⟨τ1,h2,h3⟩:=aGr hcf hq (fun q hq'=>hl q (List.mem_cons_of_mem _ hq')) h;simp only[eD]at h2;split at h2
   .rename_i σ2 h4;obtain⟨σ3,σ4,k1,k2,k3⟩:=aC9 hcf hq (hl p List.mem_cons_self) h1 h4;obtain⟨τ2,k4,k5⟩:=aAr hcf k3 h2;exact⟨τ2,by simp only[eD,k1,List.cons_append,k2];exact k4,k5.trans h3⟩
   .cases h2
  .cases h
end
end Go.VM
namespace Go.VM
open Go.RowKit
variable{Ω:World->Prop}
abbrev SRc(Ω:World->Prop)(G:Gh)(σ:St)(tm:Array Value)(w:World):Prop:=SR Ω (fun _=>True) (fun _=>False) G σ tm w
section
variable{D M:Nat->Prop}{G:Gh}{σ:St}{tm:Array Value}{w:World}
theorem SR.rest(h:SR Ω D M G σ tm w):SRc Ω G σ tm w:=
 ⟨h.slots,h.boxes,h.ok,h.shared,fun b s c hb=>(h.clkD b s c hb).imp id fun⟨h1,_⟩=>⟨h1,trivial⟩,fun _ hm=>hm.elim⟩
theorem SR.retires{ns:List Nat}(hns:∀nm∈ns,64<=nm)(h:SRc Ω G σ tm w):∃G',SRc Ω G' {σ with tips:=bump σ.tips ns,lk:=fB σ.lk false ns} tm w/\Fr G w G' w/\∀nm∈ns,∀b,G'.Z b≠.fam nm:=by
 induction ns with
 |nil=>exact⟨G,h,Fr.refl G w,fun nm hnm=>by cases hnm⟩
 |cons nm r ih=>
  obtain⟨G1,h1,h2,h3⟩:=ih fun m hm=>hns m (List.mem_cons_of_mem _ hm)
  have hnm:=hns nm List.mem_cons_self;obtain⟨k1,k2⟩:=h1.retire (nm:=nm) (T':=bump σ.tips (nm::r)) (lk':=fB σ.lk false (nm::r)) (fun m hm=>aO _ _ hm) (by show bump σ.tips r nm<upd _ _ _ nm;rw[bT];omega)
   (fun m hm hl=>by show upd _ _ _ m=true;rw[aO _ _ hm];exact hl) (fun m hm=>by
    rw[lW,if_neg fun hmem=>by have:=hns m hmem;omega];exact h.shared m hm)
  refine⟨G1.retire nm,k1,h2.trans h.ok k2,fun m hm b hb=>?_⟩;rcases List.mem_cons.1 hm with rfl|hm
  .exact yB b hb
  .exact h3 m hm b (dR (by simp) hb).1
theorem aDx{vs:List VOper}:∀nm∈cB vs,64<=nm:=by
 induction vs with
 |nil=>intro nm h;cases h
 |cons o r ih=>
  intro nm h;unfold cB at h;split at h
  .rcases List.mem_cons.1 h with rfl|h
   .unfold aQ;omega
   .exact ih nm h
  .rcases List.mem_cons.1 h with rfl|h
   .unfold aQ;omega
   .exact ih nm h
  .rcases List.mem_cons.1 h with rfl|h
   .unfold aQ;omega
   .exact ih nm h
  .exact ih nm h
theorem aDy{vs:List VOper}{v:VOper}(hv:v∈vs)(hr:v.op.rowed=true){d:Nat}(hd:v.dst=some d):aQ d 0∈cB vs:=by
 induction vs with
 |nil=>cases hv
 |cons o r ih=>
  have tail:aQ d 0∈cB r->aQ d 0∈cB (o::r):=fun h=>by
   unfold cB;split
   .exact List.mem_cons_of_mem _ h
   .exact List.mem_cons_of_mem _ h
   .exact List.mem_cons_of_mem _ h
   .exact h
  rcases List.mem_cons.1 hv with rfl|hv
  .obtain⟨dst,op,g⟩:=v;simp only at hr hd;subst hd;cases op with
   |bslice=>exact List.mem_cons_self
   |mkslice=>exact List.mem_cons_self
   |toBytes=>exact List.mem_cons_self
   |_=>cases hr
  .exact tail (ih hv)
theorem SR.begin{vs:List VOper}(h:SRc Ω G σ tm w):∃G',SR Ω (fun _=>False) (fun d=>aQ d 0∈cB vs) G' {σ with clk:=σ.clk+1,tips:=bump σ.tips (cB vs),lk:=fB σ.lk false (cB vs)} tm w/\Fr G w G' w:=by
 obtain⟨G',h1,h2,h3⟩:=h.retires (aDx (vs:=vs));refine⟨G',⟨h1.slots,h1.boxes,h1.ok,h1.shared,fun b s c hb=>.inl ?_,fun d hm _ b hb=>h3 _ hm b hb⟩,h2⟩;rcases h1.clkD b s c hb with h4|⟨h4,_⟩
 .exact Nat.lt_succ_of_lt h4
 .exact h4▸Nat.lt_succ_self _
theorem aBl(e:Env)(n s:Nat):get (e.take n) s=get e s\/get (e.take n) s=.undef:=by
 induction e generalizing n with
 |nil=>simp[get]
 |cons x r ih=>
  obtain⟨a,v⟩:=x;cases n with
  |zero=>exact .inr rfl
  |succ n=>
   simp only[List.take_succ_cons,get];split
   .exact .inl rfl
   .exact ih n
theorem SR.steq{τ:St}(h:SR Ω D M G σ tm w)(he:StEq σ τ):SR Ω D M G τ tm w:=by
 have h:=h.leak he.lk;obtain⟨c1,e1,t1,l1,b1⟩:=σ;obtain⟨c2,e2,t2,l2,b2⟩:=τ;obtain⟨h1,h2,h3,h4,h5⟩:=he;simp only at h1 h2 h3 h4 h5 h;subst h1 h2 h4;refine⟨fun s=>?_,h.boxes,h.ok,h.shared,h.clkD,h.newD⟩;show fN G _ w (get e2) s (get e2 s) _;rw[<-h5];exact h.slots s
theorem SR.drop(h:SRc Ω G σ tm w)(n:Nat):SRc Ω G {σ with env:=σ.env.take n} tm w:=by
 refine⟨fun s=>?_,h.boxes,h.ok,h.shared,h.clkD,h.newD⟩;show fN G (At G σ.tips σ.lk w) w (get (σ.env.take n)) s (get (σ.env.take n) s) _;have hg:Goes G G (At G σ.tips σ.lk w) (At G σ.tips σ.lk w) w w (get σ.env) (get (σ.env.take n)):=by
  refine⟨tZ,fun b s c hb=>⟨hb,rfl,Nat.le_refl _⟩,fun s c v cs he=>.inl ⟨cs,?_,fun _=>rfl⟩⟩;rcases aBl σ.env n s with h1|h1
  .rw[<-h1];exact he
  .rw[he]at h1;cases h1
 rcases aBl σ.env n s with h1|h1
 .rw[h1];refine fN.goes h.ok hg (h.slots s) fun k m cs hv=>?_
  have hs:=h.slots s;rw[hv]at hs;exact hs
 .rw[h1];exact Rel.undef _
end
section
variable{cf:cO}{sg:Nat->Sig}{t0:Nat->Nat}{σ σ':St}
theorem yU{d bytes:Nat}{cut:Bool}{z:Nat}{s:V}{m:Nat}{news:List V}(h:append2 σ d bytes cut z s m news=some σ')(nm:Nat):σ.tips nm<=σ'.tips nm:=by
 have up:∀a k,k=σ.tips a->σ.tips nm<=upd σ.tips a (k+1) nm:=fun a k hk=>by
  by_cases e:nm=a
  .subst e;rw[bT];omega
  .rw[aO _ _ e];exact Nat.le_refl _
 unfold append2 at h;split at h
 .split at h
  .split at h<;>cases h
   .exact Nat.le_refl _
   .exact up _ _ rfl
  .cases h
 .split at h
  .rename_i hc;cases h;exact up _ _ hc.2.1
  .cases h
 .split at h
  .rename_i hc;cases h;exact up _ _ hc.2.2.1
  .cases h
 .cases h
theorem aCa{d:Option Nat}{f:Nat}{vs:List V}{q:Bool}{av:List Nat}(h:mI cf sg σ d f vs q av=some σ')(nm:Nat):σ.tips nm<=σ'.tips nm:=by
 unfold mI at h;cases d with
 |none=>cases h
 |some d=>
  simp only at h;split at h
  .cases hr:cf f (aI (sg f).cons 0 vs) σ.bx with
   |none=>rw[hr]at h;cases h
   |some x=>
    obtain⟨r,bx⟩:=x;rw[hr]at h;simp only at h;split at h
    .cases h;exact Nat.le_trans lX lX
    .cases h
  .cases h
theorem rF{d:Option Nat}{f:Nat}{vs:List V}{q:Bool}{av:List Nat}(h:eQ cf sg σ d f vs q av=some σ')(nm:Nat):σ.tips nm<=σ'.tips nm:=by
 unfold eQ at h;split at h
 .unfold tD at h;cases d with
  |none=>cases h
  |some d=>
   simp only at h;split at h
   .split at h
    .cases h
    .split at h
     .cases h;exact Nat.le_refl _
     .cases h
   .cases h
 .exact aCa h nm
theorem aAs{o:VOper}(h:bH cf sg t0 σ o=some σ')(nm:Nat):σ.tips nm<=σ'.tips nm:=by
 unfold bH at h;split at h
 .split at h
  .cases h
  .obtain⟨dst,op,guard⟩:=o;simp only at h;by_cases hp:op.isP=true
   .obtain⟨d,v,_,_,rfl⟩:=cE hp h;exact Nat.le_refl _
   .cases op with
    |store rt sz a x=>
     cases dst with
     |some d=>cases h
     |none=>
      simp only[aU,storeAt]at h;split at h
      .split at h
       .split at h
        .cases h;exact Nat.le_refl _
        .cases h
       .cases h
      .split at h
       .split at h
        .cases h;exact Nat.le_refl _
        .cases h
       .cases h
      .split at h
       .cases h;exact Nat.le_refl _
       .cases h
      .cases h
    |call f args q av=>simp only[aU]at h;exact rF h nm
    |callv x args q av=>
     simp only[aU]at h;split at h
     .exact rF h nm
     .cases h
    |allocB zs=>
     simp only[aU]at h;split at h
     .cases h;exact Nat.le_refl _
     .cases h
    |boxB sz x=>
     simp only[aU]at h;split at h
     .split at h
      .cases h;exact Nat.le_refl _
      .cases h
     .cases h
    |bslice lky z n zs ps=>
     cases lky with
     |false=>exact absurd rfl hp
     |true=>
      simp only[aU]at h;split at h
      .split at h
       .cases h;exact Nat.le_refl _
       .cases h
      .cases h
    |append z bytes cut zs s x av=>
     simp only[aU]at h;split at h
     .split at h
      .exact yU h nm
      .cases h
     .cases h
    |_=>exact absurd rfl hp
 .split at h
  .split at h
   .cases h
   .cases h;exact Nat.le_refl _
  .cases h;exact Nat.le_refl _
 .cases h
end
section
variable{P:Program}{D M:Nat->Prop}{G:Gh}{σ:St}{a:Act}{w:World}{t0:Nat->Nat}{hh:Hints}{cf:cO}{sg:Nat->Sig}{ops:Array Oper}
theorem rG{N:Nat}{o:Oper}{v:VOper}(h:gE P hh N ops o=some v):v.dst=o.dst/\(∀d,o.dst=some d->d<N)/\v.op=kT P hh o.dst o.op/\
  ((o.guard=none/\v.guard=none)\/∃j want s,o.guard=some (j,want)/\(ops[j]?).bind (·.dst)=some s/\s<N/\v.guard=some (s,want)):=by
 unfold gE at h;split at h
 .rename_i hd;have hdd:∀d,o.dst=some d->d<N:=fun d e=>by
   rw[e]at hd;simpa using hd
  split at h
  .rename_i hg;cases h;exact⟨rfl,hdd,rfl,.inl ⟨hg,rfl⟩⟩
  .rename_i j want hg;split at h
   .rename_i s hs;split at h
    .rename_i hsn;cases h;exact⟨rfl,hdd,rfl,.inr ⟨j,want,s,hg,hs,hsn,rfl⟩⟩
    .cases h
   .cases h
 .cases h
theorem aDz(hcf:jZ Ω P cf)(h:SR Ω D M G σ a.tmps w){i N:Nat}{o:Oper}{v:VOper}(ho:ops[i]?=some o)(hN:N<=a.tmps.size)(hc:gE P hh N ops o=some v){σ':St}(hs:bH cf sg t0 σ v=some σ')
  (hD:∀d,v.dst=some d->¬D d) (hM:∀d,v.dst=some d->v.op.rowed=true->M d) (ht:∀nm,t0 nm<=σ.tips nm) {K:Act->World->Prop} {Q:Exit->Act->World->Prop}
  (hK:∀a' w',aJq Ω (fun s=>D s\/v.dst=some s) M G σ' a w a' w'->K a' w'):wpOp P ops Q i K a w:=by
 obtain⟨c1,c2',c3,c4⟩:=rG hc;have c2:∀d,o.dst=some d->d<a.tmps.size:=fun d hd=>Nat.lt_of_lt_of_le (c2' d hd) hN
 unfold wpOp;rw[ho];simp only;have hw:∀b,fI (get σ.env) v.guard=some b->Region.wanted o (yielded ops a.tmps)=b:=fun b hb=>by
  rcases c4 with⟨g1,g2⟩|⟨j,want,s,g1,g2,g3,g4⟩
  .rw[g2]at hb;cases hb;simp only[Region.wanted,g1]
  .rw[g4]at hb;simp only[Region.wanted,g1,yielded,g2,Option.bind_some];have hsl:=h.slots s;simp only[fI]at hb;have hget:a.tmps[s]?=some (a.tmps.getD s Go.undef):=by
    have g5:s<a.tmps.size:=Nat.lt_of_lt_of_le g3 hN;rw[Array.getElem?_eq_getElem g5];simp[Array.getD,g5]
   split at hb
   .rename_i b' e1;rw[e1]at hsl;have:=Rel.bool_inv hsl;rw[hget,this];cases hb;cases b'<;>cases want<;>rfl
   .rename_i e1;rw[e1]at hsl;obtain⟨xs,h1,h2⟩:=Rel.tup_inv hsl;rw[hget,h1];cases hb;rfl
   .cases hb
 unfold bH at hs;split at hs
 .rename_i hg;rw[hw true hg,if_pos rfl];split at hs
  .cases hs
  .rw[c1]at hs hD hM hK;unfold kT at c3;split at c3
   .rw[c3]at hs;obtain⟨d,u,_,hu,_⟩:=cE (vo:=.fail) rfl hs;cases hu
   cases hop:aE P hh o.dst o.op with
   |none=>
    rw[c3,hop]at hs;obtain⟨d,u,_,hu,_⟩:=cE (vo:=.fail) rfl hs;cases hu
   |some vo=>
    rw[hop,Option.getD_some]at c3;rw[c3]at hs hM;exact .inl (aJa hcf h hop hs c2 hD hM ht hK)
 .rename_i hg;rw[hw false hg,if_neg (by simp)];split at hs
  .rename_i d hd;split at hs
   .cases hs
   .cases hs;rw[c1]at hd;refine hK _ _ ⟨G,?_,Fr.refl G w,mV _ _ _⟩;rw[cG a hd];refine(h.put (v:=.tup []) (c:=Go.undef) (c2 d hd) (Rel.tup [] #[] .nil)).mono fun s hs=>?_
    rw[c1];exact(fD hd s).1 hs
  .rename_i hd;cases hs;rw[c1]at hd;refine hK _ _ ⟨G,?_,Fr.refl G w,mV _ _ _⟩;rw[hd];exact h.mono fun s hs=>.inl hs
 .cases hs
theorem dO{N:Nat}:∀{l:List Oper} {vs:List VOper},cQ P hh N ops l=some vs->vs.length=l.length/\∀(i:Nat) (o:Oper),l[i]?=some o->∃v,vs[i]?=some v/\gE P hh N ops o=some v
 |[],vs,h=>by cases h;exact⟨rfl,fun i o h=>by simp at h⟩
 |o::r,vs,h=>by
  simp only[cQ]at h;split at h
  .rename_i v vs' h1 h2;cases h;obtain⟨k1,k2⟩:=dO h2;refine⟨by simp[k1],fun i o' ho=>?_⟩;cases i with
   |zero=>simp at ho;subst ho;exact⟨v,rfl,h1⟩
   |succ i=>simp at ho;obtain⟨v',q1,q2⟩:=k2 i o' ho;exact⟨v',by simpa using q1,q2⟩
  .cases h
structure Mid(Ω:World->Prop)(P:Program)(hh:Hints)(ops:Array Oper)(cf:cO)(sg:Nat->Sig)(t0:Nat->Nat)(vs:List VOper)(D M:Nat->Prop)(G:Gh)(σ τ:St)(rem:List Nat)(a:Act)(w:World):Prop where
 run:∃τ',eD cf sg t0 σ (rem.filterMap fun i=>vs[i]?)=some τ'/\StEq τ' τ
 sr:SR Ω D M G σ a.tmps w
 tips:∀nm,t0 nm<=σ.tips nm
 lt:∀i∈rem,i<ops.size
 fresh:∀i∈rem,∀v,vs[i]?=some v->∀d,v.dst=some d->¬D d
 made:∀i∈rem,∀v,vs[i]?=some v->∀d,v.dst=some d->v.op.rowed=true->M d
 nodup:rem.Nodup
theorem aCb{vs:List VOper}(h:(mL vs).Nodup){i j:Nat}{x y:VOper}{d:Nat}(hi:vs[i]?=some x)(hj:vs[j]?=some y)(hx:x.dst=some d)(hy:y.dst=some d):i=j:=by
 induction vs generalizing i j with
 |nil=>simp at hi
 |cons v r ih=>
  have hcons:mL (v::r)=v.dst.toList++mL r:=by simp[mL]
  rw[hcons]at h;obtain⟨h1,h2,h3⟩:=List.nodup_append.1 h;have mem:∀{k:Nat} {z:VOper},r[k]?=some z->z.dst=some d->d∈mL r:=fun{k z} hk hz=>List.mem_flatMap.2 ⟨z,List.mem_of_getElem? hk,by rw[hz];simp⟩
  cases i with
  |zero=>
   simp at hi;subst hi;cases j with
   |zero=>rfl
   |succ j=>
    simp at hj;exact absurd rfl (h3 d (by rw[hx];simp) d (mem hj hy))
  |succ i=>
   simp at hi;cases j with
   |zero=>
    simp at hj;subst hj;exact absurd rfl (h3 d (by rw[hy];simp) d (mem hi hx))
   |succ j=>
    simp at hj;rw[ih h2 hi hj]
theorem Mid.step(hcf:jZ Ω P cf){vs:List VOper}{N:Nat}(hN:N<=a.tmps.size)(hcomp:cQ P hh N ops ops.toList=some vs)(hnd:(mL vs).Nodup){τ:St}{i:Nat}{rem:List Nat}(h:Mid Ω P hh ops cf sg t0 vs D M G σ τ (i::rem) a w)
  {K:Act->World->Prop} {Q:Exit->Act->World->Prop}
  (hK:∀D' G' σ' a' w',Mid Ω P hh ops cf sg t0 vs D' M G' σ' τ rem a' w'->Fr G w G' w'->a'.tmps.size=a.tmps.size->a'.defers=a.defers->K a' w'):wpOp P ops Q i K a w:=by
 have hi:=h.lt i List.mem_cons_self;have ho:ops[i]?=some ops[i]:=Array.getElem?_eq_getElem hi;obtain⟨k1,k2⟩:=dO hcomp;obtain⟨v,hv,hcv⟩:=k2 i ops[i] (by rw[Array.getElem?_toList];exact ho);obtain⟨τ',hrun,heq⟩:=h.run;simp only[List.filterMap_cons,hv,eD]at hrun;split at hrun
 .rename_i σ1 h1;refine aDz hcf h.sr ho hN hcv h1 (h.fresh i List.mem_cons_self v hv) (h.made i List.mem_cons_self v hv) h.tips fun a' w' ⟨G',q1,q2,q3,q4⟩=>?_
  refine hK _ G' σ1 a' w' ⟨⟨τ',hrun,heq⟩,q1,fun nm=>Nat.le_trans (h.tips nm) (aAs h1 nm),fun j hj=>h.lt j (List.mem_cons_of_mem _ hj),fun j hj u hu d hd hdd=>?_,fun j hj=>h.made j (List.mem_cons_of_mem _ hj),(List.nodup_cons.1 h.nodup).2⟩ q2 q3 q4;rcases hdd with hdd|hdd
  .exact h.fresh j (List.mem_cons_of_mem _ hj) u hu d hd hdd
  .have:=aCb hnd hv hu hdd hd;subst this;exact(List.nodup_cons.1 h.nodup).1 hj
 .cases hrun
theorem aEA(hcf:jZ Ω P cf){vs:List VOper}{N S:Nat}(hN:N<=S)(hcomp:cQ P hh N ops ops.toList=some vs)(hnd:(mL vs).Nodup){τ:St}{Q:Exit->Act->World->Prop}{a0:Act}{w0:World}{G0:Gh}(hok:GOk Ω G0 w0)
  (hQ:∀D' G' σ' a' w',SR Ω D' M G' σ' a'.tmps w'->StEq σ' τ->Fr G0 w0 G' w'->a'.tmps.size=S->a'.defers=a0.defers->Q .normal a' w') :
  ∀(rem:List Nat) {D:Nat->Prop} {G:Gh} {σ:St} {a:Act} {w:World},Mid Ω P hh ops cf sg t0 vs D M G σ τ rem a w->Fr G0 w0 G w->a.tmps.size=S->a.defers=a0.defers->wpOps P ops Q rem a w:=by
 intro rem
 induction rem with
 |nil=>
  intro D G σ a w h hf hs hd;obtain⟨τ',hrun,heq⟩:=h.run;cases hrun;exact hQ D G σ a w h.sr heq hf hs hd
 |cons i rem ih=>
  intro D G σ a w h hf hs hd;rw[wpOps_cons];refine h.step hcf (by rw[hs];exact hN) hcomp hnd fun D' G' σ' a' w' q1 q2 q3 q4=>ih q1 (hf.trans hok q2) (by rw[q3,hs]) (by rw[q4,hd])
end
end Go.VM
namespace Go.VM
open Go.RowKit
variable{Ω:World->Prop}
def iG(listed:Array Bool)(n:Nat):List Nat:=(List.range n).filter fun i=>!listed.getD i true
theorem aEB{listed:Array Bool}{n i:Nat}(h:i∈iG listed n)(hs:listed.size=n):∃ahead post,iG listed n=ahead++i::post/\iG (listed.setIfInBounds i true) n=ahead++post/\∀j∈ahead,j<i:=by
 obtain⟨ahead,post,hsplit⟩:=List.append_of_mem h;have hp:(iG listed n).Pairwise (·<·):=List.Pairwise.filter _ List.pairwise_lt_range;rw[hsplit]at hp;obtain⟨p1,p2,p3⟩:=List.pairwise_append.1 hp;have hlt:∀j∈ahead,j<i:=fun j hj=>p3 j hj i List.mem_cons_self
 have hgt:∀j∈post,i<j:=fun j hj=>(List.pairwise_cons.1 p2).1 j hj
 refine⟨ahead,post,hsplit,?_,hlt⟩;have hi:i<n:=List.mem_range.1 (List.mem_filter.1 h).1;have e1:iG (listed.setIfInBounds i true) n=(iG listed n).filter (· != i):=by
  unfold iG;rw[List.filter_filter];refine List.filter_congr fun j hj=>?_
  have hjn:=List.mem_range.1 hj;by_cases e:j=i
  .subst e;simp[Array.getD,hs,hi]
  · have : (listed.setIfInBounds i true).getD j true = listed.getD j true := by
      simp only[Array.getD_eq_getD_getElem?,Array.getElem?_setIfInBounds_ne (Ne.symm e)]
    rw[this];simp[e]
 rw[e1,hsplit,List.filter_append,List.filter_cons];simp only[bne_self_eq_false,Bool.false_eq_true,if_false];rw[List.filter_eq_self.2 fun j hj=>by have:=hlt j hj;simp;omega,List.filter_eq_self.2 fun j hj=>by have:=hgt j hj;simp;omega]
theorem aFv{acc:List Nat}{es:List Edge}{j:Nat}(h:(iF acc es).testBit j=true):∃e∈es,Region.binds .any e=true/\(j=e.on\/(acc.getD e.on 0).testBit j=true):=by
 induction es with
 |nil=>simp[iF]at h
 |cons e r ih=>
  simp only[iF,Nat.testBit_or,Bool.or_eq_true]at h;rcases h with h|h
  .split at h
   .rename_i hb;simp only[Nat.testBit_or,Bool.or_eq_true]at h;rcases h with h|h
    .refine⟨e,List.mem_cons_self,hb,.inl ?_⟩;rw[Nat.testBit_two_pow]at h;simpa using Eq.symm (by simpa using h)
    .exact⟨e,List.mem_cons_self,hb,.inr h⟩
   .simp at h
  .obtain⟨e',h1,h2⟩:=ih h;exact⟨e',List.mem_cons_of_mem _ h1,h2⟩
theorem yV:∀{os:List Oper} {acc:List Nat} {i:Nat} {o:Oper},os[i]?=some o->∃pre,(lU os acc)[acc.length+i]?=some (iF pre o.after.toList)/\pre=(lU os acc).take (acc.length+i)/\(lU os acc).take acc.length=acc
 |[],acc,i,o,h=>by simp at h
 |p::r,acc,i,o,h=>by
  have hacc:∀(os:List Oper) (acc:List Nat),(lU os acc).take acc.length=acc:=by
   intro os
   induction os with
   |nil=>intro acc;simp[lU]
   |cons p r ih=>
    intro acc;have:=ih (acc++[iF acc p.after.toList]);simp only[lU];have h2:=congrArg (List.take acc.length) this;rw[List.take_take,List.length_append]at h2;simpa using h2
  cases i with
  |zero=>
   simp at h;subst h;refine⟨acc,?_,by rw[Nat.add_zero,hacc],hacc _ _⟩;have h1:=hacc r (acc++[iF acc p.after.toList]);have h2:((lU r (acc++[iF acc p.after.toList])).take (acc++[iF acc p.after.toList]).length)[acc.length]?=some (iF acc p.after.toList):=by rw[h1];simp
   rw[List.getElem?_take_of_lt (by simp)]at h2;simpa[lU]using h2
  |succ i=>
   simp at h;obtain⟨pre,h1,h2,h3⟩:=yV (acc:=acc++[iF acc p.after.toList]) h;have e1:(acc++[iF acc p.after.toList]).length+i=acc.length+(i+1):=by simp;omega
   rw[e1]at h1 h2;exact⟨pre,h1,h2,hacc _ _⟩
theorem aEC{os:List Oper}{i j:Nat}{o:Oper}(ho:os[i]?=some o)(h:((lU os []).getD i 0).testBit j=true):∃e∈o.after.toList,Region.binds .any e=true/\(j=e.on\/(e.on<i/\((lU os []).getD e.on 0).testBit j=true)):=by
 obtain⟨pre,h1,h2,_⟩:=yV (acc:=[]) ho;simp only[List.length_nil,Nat.zero_add]at h1 h2;rw[List.getD_eq_getElem?_getD,h1,Option.getD_some]at h;obtain⟨e,k1,k2,k3⟩:=aFv h;refine⟨e,k1,k2,k3.imp id fun k3=>?_⟩;rw[h2,List.getD_eq_getElem?_getD,List.getElem?_take]at k3;split at k3
 .rename_i hlt;exact⟨hlt,by rw[List.getD_eq_getElem?_getD];exact k3⟩
 .simp at k3
theorem aBm:∀{os:List Oper} {k i:Nat} {o:Oper},qK os k=true->os[i]?=some o->∀e∈o.after.toList,Region.binds .any e=true->e.on<k+i
 |[],k,i,o,_,h=>by simp at h
 |p::r,k,i,o,he,h=>by
  simp only[qK,Bool.and_eq_true,List.all_eq_true]at he;intro e hee hb;cases i with
  |zero=>
   simp at h;subst h;have:=he.1 e hee;simpa[hb]using this
  |succ i=>
   simp at h;have:=aBm he.2 h e hee hb;omega
section
variable{P:Program}{D M:Nat->Prop}{G:Gh}{σ:St}{a:Act}{w:World}{t0:Nat->Nat}{hh:Hints}{cf:cO}{sg:Nat->Sig}{ops:Array Oper}
theorem yW{listed:Array Bool}{i:Nat}(h:i∈Region.ready .any ops listed):i<ops.size/\listed.getD i true=false/\∀o,ops[i]?=some o->∀e∈o.after.toList,Region.binds .any e=true->listed.getD e.on false=true:=by
 unfold Region.ready at h;obtain⟨h1,h2⟩:=List.mem_filter.1 h;simp only[Bool.and_eq_true,Bool.not_eq_true']at h2;refine⟨List.mem_range.1 h1,h2.1,fun o ho e he hb=>?_⟩;have h3:=h2.2;rw[ho]at h3;simp only[Option.map_some,Option.getD_some,Array.all_eq_true']at h3;have:=h3 e (by simpa using he);simpa[hb]using this
theorem oF{listed:Array Bool}{n i:Nat}(hs:listed.size=n)(hi:i<n):listed.getD i true=listed.getD i false:=by
 simp[Array.getD,hs,hi]
theorem aED(hcf:jZ Ω P cf)(hnr:lI cf)(hq:eF cf sg){vs:List VOper}{N S:Nat}(hN:N<=S)(hcomp:cQ P hh N ops ops.toList=some vs)(hnd:(mL vs).Nodup)(hloose:vI (lU ops.toList []) vs=true)(hedge:qK ops.toList 0=true)
  {τ:St} {Q:Exit->Act->World->Prop} {a0:Act} {w0:World} {G0:Gh} (hok:GOk Ω G0 w0)
  (hQ:∀D' G' σ' a' w',SR Ω D' M G' σ' a'.tmps w'->StEq σ' τ->Fr G0 w0 G' w'->a'.tmps.size=S->a'.defers=a0.defers->Q .normal a' w') :
  ∀(fuel:Nat) {listed:Array Bool} {D:Nat->Prop} {G:Gh} {σ:St} {a:Act} {w:World},listed.size=ops.size->(iG listed ops.size).length=fuel->
   (∀k,k<ops.size->listed.getD k true=true->∀j,((lU ops.toList []).getD k 0).testBit j=true->listed.getD j false=true)->
   Mid Ω P hh ops cf sg t0 vs D M G σ τ (iG listed ops.size) a w->Fr G0 w0 G w->a.tmps.size=S->a.defers=a0.defers->wpAny P .any ops Q fuel listed a w:=by
 intro fuel
 induction fuel with
 |zero=>
  intro listed D G σ a w hs hf hcl h hfr hn hd;have hrem:iG listed ops.size=[]:=List.eq_nil_of_length_eq_zero hf;refine⟨?_,?_⟩
  .rw[List.eq_nil_iff_forall_not_mem];intro i hi;obtain⟨h1,h2,_⟩:=yW hi;have:i∈iG listed ops.size:=List.mem_filter.2 ⟨List.mem_range.2 h1,by simp[h2]⟩;rw[hrem]at this;cases this
  .rw[hrem]at h;obtain⟨τ',hrun,heq⟩:=h.run;cases hrun;exact hQ D G σ a w h.sr heq hfr hn hd
 |succ fuel ih=>
  intro listed D G σ a w hs hf hcl h hfr hn hd;refine⟨fun hr=>?_,fun i hi=>?_⟩
  ·
   exfalso;cases hrem:iG listed ops.size with
   |nil=>rw[hrem]at hf;cases hf
   |cons i r=>
    have hi:i∈iG listed ops.size:=by rw[hrem];exact List.mem_cons_self
    obtain⟨h1,h2⟩:=List.mem_filter.1 hi;have hin:=List.mem_range.1 h1;have:i∈Region.ready .any ops listed:=by
     unfold Region.ready;refine List.mem_filter.2 ⟨h1,?_⟩;simp only[Bool.and_eq_true];refine⟨h2,?_⟩;rw[Array.getElem?_eq_getElem hin];simp only[Option.map_some,Option.getD_some,Array.all_eq_true'];intro e he;by_cases hb:Region.binds .any e=true
     .have hlt:=aBm hedge (i:=i) (o:=ops[i]) (by rw[Array.getElem?_toList];exact Array.getElem?_eq_getElem hin) e (by simpa using he) hb;rw[Nat.zero_add]at hlt;have hnr':e.on∉iG listed ops.size:=fun hm=>by
       rw[hrem]at hm;have hp:(iG listed ops.size).Pairwise (·<·):=List.Pairwise.filter _ List.pairwise_lt_range;rw[hrem]at hp;rcases List.mem_cons.1 hm with h3|h3
       .omega
       .have:=(List.pairwise_cons.1 hp).1 _ h3;omega
      have:listed.getD e.on true=true:=by
       cases hh:listed.getD e.on true with
       |true=>rfl
       |false=>exact absurd (List.mem_filter.2 ⟨List.mem_range.2 (by omega),by simp[hh]⟩) hnr'
      rw[<-oF hs (by omega),this];simp
     .simp[hb]
    rw[hr]at this;cases this
  .obtain⟨h1,h2,h3⟩:=yW hi;have hmem:i∈iG listed ops.size:=List.mem_filter.2 ⟨List.mem_range.2 h1,by simp[h2]⟩;obtain⟨ahead,post,e1,e2,e3⟩:=aEB hmem hs;have ho:ops.toList[i]?=some ops[i]:=by rw[Array.getElem?_toList];exact Array.getElem?_eq_getElem h1
   obtain⟨c1,c2⟩:=dO hcomp;obtain⟨v,hv,_⟩:=c2 i _ ho;have hpre:∀j,((lU ops.toList []).getD i 0).testBit j=true->listed.getD j false=true:=fun j hj=>by
    obtain⟨e,k1,k2,k3⟩:=aEC ho hj;have hl:=h3 ops[i] (Array.getElem?_eq_getElem h1) e k1 k2;rcases k3 with k3|⟨k3,k4⟩
    .rw[k3];exact hl
    .exact hcl e.on (by omega) (by rw[oF hs (by omega)];exact hl) j k4
   have hl:∀p∈ahead.filterMap (fun i=>vs[i]?),aCK p v=true:=fun p hp=>by
    obtain⟨j,hj,hjp⟩:=List.mem_filterMap.1 hp;have hji:=e3 j hj;have hlen:i<vs.length:=by rw[c1];simpa using h1
    unfold vI at hloose;rw[List.all_eq_true]at hloose;have q1:=hloose i (List.mem_range.2 hlen);rw[List.all_eq_true]at q1;have q2:=q1 j (List.mem_range.2 hji);rw[hjp,hv]at q2;simp only[Bool.or_eq_true]at q2;rcases q2 with q2|q2
    .exfalso;have hlj:=hpre j q2;have hjm:j∈iG listed ops.size:=by rw[e1];exact List.mem_append.2 (.inl hj)
     have hjn:=(List.mem_filter.1 hjm).2;rw[oF hs (by omega),hlj]at hjn;cases hjn
    .exact q2
   obtain⟨τ',hrun,heq⟩:=h.run;rw[e1,List.filterMap_append,List.filterMap_cons,hv]at hrun;obtain⟨τ2,hrun2,heq2⟩:=aGr hnr hq hl hrun;have hperm:∀j,j∈i::(ahead++post)->j∈iG listed ops.size:=fun j hj=>by
    rw[e1];rcases List.mem_cons.1 hj with rfl|hj
    .exact List.mem_append.2 (.inr List.mem_cons_self)
    .rcases List.mem_append.1 hj with hj|hj
     .exact List.mem_append.2 (.inl hj)
     .exact List.mem_append.2 (.inr (List.mem_cons_of_mem _ hj))
   have hnod:(i::(ahead++post)).Nodup:=by
    have:=h.nodup;rw[e1]at this;obtain⟨n1,n2,n3⟩:=List.nodup_append.1 this;obtain⟨n4,n5⟩:=List.nodup_cons.1 n2;refine List.nodup_cons.2 ⟨fun hm=>?_,List.nodup_append.2 ⟨n1,n5,fun x hx y hy=>n3 x hx y (List.mem_cons_of_mem _ hy)⟩⟩;rcases List.mem_append.1 hm with hm|hm
    .exact n3 i hm i List.mem_cons_self rfl
    .exact n4 hm
   have hmid:Mid Ω P hh ops cf sg t0 vs D M G σ τ (i::(ahead++post)) a w:=
    ⟨⟨τ2,by rw[List.filterMap_cons,hv,List.filterMap_append];exact hrun2,heq2.trans heq⟩,h.sr,h.tips,fun j hj=>h.lt j (hperm j hj),fun j hj=>h.fresh j (hperm j hj),fun j hj=>h.made j (hperm j hj),hnod⟩
   refine hmid.step hcf (by rw[hn];exact hN) hcomp hnd fun D' G' σ' a' w' q1 q2 q3 q4=>?_
   refine ih (by simpa using hs) ?_ (fun k hk hkl j hj=>?_) (by rw[e2];exact q1) (hfr.trans hok q2) (by rw[q3,hn]) (by rw[q4,hd])
   .rw[e2];rw[e1]at hf;simp only[List.length_append,List.length_cons]at hf ⊢;omega
   · have hset : ∀ j b, (listed.setIfInBounds i true).getD j b = if j = i then true else listed.getD j b := fun j b => by
       by_cases e:j=i
       .subst e;simp[Array.getD,hs,h1]
       .simp only[Array.getD_eq_getD_getElem?,Array.getElem?_setIfInBounds_ne (Ne.symm e),if_neg e]
     rw[hset];split
     .rfl
     .rw[hset]at hkl;split at hkl
      .rename_i e;subst e;exact hpre j hj
      .exact hcl k hk hkl j hj
def vX(Ω:World->Prop)(G:Gh)(σ':St)(a:Act)(w:World)(a':Act)(w':World):Prop:=
 ∃G',SRc Ω G' σ' a'.tmps w'/\Fr G w G' w'/\a'.tmps.size=a.tmps.size/\a'.defers=a.defers
theorem aCc(hcf:jZ Ω P cf)(hnr:lI cf)(hq:eF cf sg){vs:List VOper}{draw:Bool}{id N:Nat}(hN:N<=a.tmps.size)(hc:iT P hh N ops draw=some vs){τ:St}(hr:iD cf sg vs σ=some τ)(h:SRc Ω G σ a.tmps w)
  {Q:Exit->Act->World->Prop} (hQ:∀a' w',vX Ω G τ a w a' w'->Q .normal a' w'):(Code.region id ops draw).wp P Q a w:=by
 unfold iT at hc;cases hcomp:cQ P hh N ops ops.toList with
 |none=>rw[hcomp]at hc;cases hc
 |some vs'=>
  rw[hcomp]at hc;simp only at hc;split at hc
  .rename_i hcond;cases hc;obtain⟨hnd,hdraw⟩:=hcond;unfold iD at hr;split at hr
   .rename_i τ1 hrun;cases hr;obtain⟨c1,c2⟩:=dO hcomp;have key:∀w2,Calm w w2->∃G1,Fr G w G1 w2/\Mid Ω P hh ops cf sg (bump σ.tips (cB vs)) vs (fun _=>False) (fun d=>aQ d 0∈cB vs) G1 {σ with clk:=σ.clk+1,tips:=bump σ.tips (cB vs),lk:=fB σ.lk false (cB vs)} τ1 (List.range ops.size) a w2:=fun w2 hcalm=>by
     have h2:SRc Ω G σ a.tmps w2:=h.grow (G':=G) hcalm (fun _ _=>rfl) (fun _ _ _=>⟨rfl,rfl⟩) (fun _ _ _ _=>⟨rfl,rfl⟩) rfl
      ⟨fun b hb=>Nat.lt_of_lt_of_le (h.ok.lt b hb) hcalm.size,h.ok.famU,fun b nm hb=>by
       obtain⟨cur,e,k1,k2⟩:=h.ok.famC b nm hb;exact⟨cur,e,by rw[hcalm.block b (h.ok.lt b (by rw[hb];simp))];exact k1,k2⟩,h.ok.rgU,(h.ok.calm hcalm (fun _ _=>rfl) rfl).1,(h.ok.calm (G':=G) hcalm (fun _ _=>rfl) rfl).2⟩ h.clkD h.newD
     obtain⟨G1,k1,k2⟩:=SR.begin (vs:=vs) h2;have hfr:Fr G w G w2:=nY h.ok hcalm (fun _ _=>rfl) (fun _ _ _=>rfl) (fun _ _ hb=>hb);refine⟨G1,hfr.trans h.ok k2,⟨⟨τ1,?_,StEq.refl _⟩,k1,fun nm=>Nat.le_refl _,fun i hi=>List.mem_range.1 hi,fun _ _ _ _ _ _ hd=>hd,fun i _ v hv d hd hro=>aDy (List.mem_of_getElem? hv) hro hd,List.nodup_range⟩⟩;have:(List.range ops.size).filterMap (fun i=>vs[i]?)=vs:=by
      have hl:ops.size=vs.length:=by rw[c1];simp
      rw[hl];clear hcomp c2 hnd hdraw hrun c1 hl;apply List.ext_getElem?;intro i;have hgen:∀(vs:List VOper),(List.range vs.length).filterMap (fun i=>vs[i]?)=vs:=by
       intro vs
       induction vs with
       |nil=>rfl
       |cons x r ih=>
        rw[List.length_cons,List.range_succ_eq_map,List.filterMap_cons];simp only[List.getElem?_cons_zero,List.filterMap_map];congr 1
      rw[hgen]
     rw[this];exact hrun
    have fin:∀D' G' σ' a' w',SR Ω D' (fun d=>aQ d 0∈cB vs) G' σ' a'.tmps w'->StEq σ' τ1->Fr G w G' w'->a'.tmps.size=a.tmps.size->a'.defers=a.defers->Q .normal a' w':=fun D' G' σ' a' w' q1 q2 q3 q4 q5=>
     hQ a' w' ⟨G',((q1.steq q2).rest).drop _,q3,q4,q5⟩
    cases draw with
    |false=>
     obtain⟨G1,k1,k2⟩:=key w (Calm.refl w);exact wp_region (aEA hcf hN hcomp hnd (a0:=a) h.ok fin _ k2 k1 rfl rfl)
    |true=>
     obtain⟨l1,l2,l3⟩:=hdraw rfl;obtain⟨G1,k1,k2⟩:=key w.drew ((Calm.refl w).drew);have hrem:iG (Array.replicate ops.size false) ops.size=List.range ops.size:=by
      unfold iG;refine List.filter_eq_self.2 fun i hi=>?_
      have:=List.mem_range.1 hi;simp[Array.getD,this]
     rw[<-hrem]at k2;exact wp_region_any l3 (aED hcf hnr hq hN hcomp hnd l1 l2 (a0:=a) h.ok fin ops.size (by simp) (by rw[hrem,List.length_range]) (fun k hk hl=>by simp[Array.getD,hk]at hl) k2 k1 rfl rfl)
   .cases hr
  .cases hc
end
end Go.VM
namespace Go.VM
open Go.RowKit
variable{Ω:World->Prop}
def Ex.out:Ex->Exit
 |.nrm=>.normal
 |.exit id=>.exit id
 |.ret=>.ret
def aJE(Ω:World->Prop)(G:Gh)(τ:St)(e:Ex)(a:Act)(w:World):Exit->Act->World->Prop:=fun e' a' w'=>e'=e.out/\vX Ω G τ a w a' w'
section
variable{P:Program}{G:Gh}{σ:St}{a:Act}{w:World}{hh:Hints}{cf:cO}{sg:Nat->Sig}
theorem vX.self(h:SRc Ω G σ a.tmps w):vX Ω G σ a w a w:=⟨G,h,Fr.refl G w,rfl,rfl⟩
theorem aFw(hcf:jZ Ω P cf)(hnr:lI cf)(hq:eF cf sg){m N:Nat}:∀(c:Code) {v:VC},bF P hh N c=some v->∀{G:Gh} {σ:St} {e:Ex} {τ:St} {a:Act} {w:World},exec cf sg m v σ=some (e,τ)->SRc Ω G σ a.tmps w->N<=a.tmps.size->c.wp P (aJE Ω G τ e a w) a w:=by
 intro c
 induction c with
 |skip=>
  intro v hc G σ e τ a w hx h hN;cases hc;cases hx;exact wp_skip ⟨rfl,vX.self h⟩
 |label l=>
  intro v hc G σ e τ a w hx h hN;cases hc;cases hx;exact wp_label ⟨rfl,vX.self h⟩
 |region id ops draw=>
  intro v hc G σ e τ a w hx h hN;simp only[bF]at hc;obtain⟨vs,h1,rfl⟩:=Option.map_eq_some_iff.1 hc;simp only[exec]at hx;obtain⟨τ',h2,h3⟩:=Option.map_eq_some_iff.1 hx;cases h3;exact aCc hcf hnr hq hN h1 h2 h fun a' w' ht=>⟨rfl,ht⟩
 |seq x y ihx ihy=>
  intro v hc G σ e τ a w hx h hN;simp only[bF]at hc;split at hc
  .rename_i vx vy h1 h2;cases hc;simp only[exec]at hx;refine wp_seq ?_;cases hex:exec cf sg m vx σ with
   |none=>rw[hex]at hx;cases hx
   |some r=>
    obtain⟨e1,σ1⟩:=r;refine wp_mono (ihx h1 hex h hN) fun e' a' w' ⟨k1,G',k2,k3,k4,k5⟩=>?_
    rw[hex]at hx;cases e1 with
    |nrm=>
     subst k1;refine wp_mono (ihy h2 hx k2 (by rw[k4];exact hN)) fun e2 a2 w2 ⟨q1,G2,q2,q3,q4,q5⟩=>⟨q1,G2,q2,k3.trans h.ok q3,q4.trans k4,q5.trans k5⟩
    |exit id=>cases hx;subst k1;exact⟨rfl,G',k2,k3,k4,k5⟩
    |ret=>cases hx;subst k1;exact⟨rfl,G',k2,k3,k4,k5⟩
  .cases hc
 |cond c x y ihx ihy=>
  intro v hc G σ e τ a w hx h hN;simp only[bF]at hc;split at hc
  .rename_i c' vx vy h0 h1 h2;cases hc;simp only[exec]at hx;split at hx
   .rename_i hb;exact wp_cond_true (h.opd_bool h0 hb) (ihx h1 hx h hN)
   .rename_i hb;exact wp_cond_false (h.opd_bool h0 hb) (ihy h2 hx h hN)
   .cases hx
  .cases hc
 |block id x ih=>
  intro v hc G σ e τ a w hx h hN;simp only[bF]at hc;obtain⟨vx,h1,rfl⟩:=Option.map_eq_some_iff.1 hc;simp only[exec]at hx;refine wp_block ?_;cases hex:exec cf sg m vx σ with
  |none=>rw[hex]at hx;cases hx
  |some r=>
   obtain⟨e1,σ1⟩:=r;refine wp_mono (ih h1 hex h hN) fun e' a' w' ⟨k1,k2⟩=>?_
   rw[hex]at hx;subst k1;cases e1 with
   |nrm=>cases hx;exact⟨rfl,k2⟩
   |exit id'=>
    simp only at hx;simp only[Ex.out,Exit.inBlock];split at hx
    .rename_i hi;cases hx;rw[if_pos hi];exact⟨rfl,k2⟩
    .rename_i hi;cases hx;rw[if_neg hi];exact⟨rfl,k2⟩
   |ret=>cases hx;exact⟨rfl,k2⟩
 |loop x ih=>
  intro v hc G σ e τ a w hx h hN;simp only[bF]at hc;obtain⟨vx,h1,rfl⟩:=Option.map_eq_some_iff.1 hc;simp only[exec]at hx;have key:∀(n:Nat) {G':Gh} {σ':St} {a':Act} {w':World},aF3 (exec cf sg m vx) n σ'=some (e,τ)->SRc Ω G' σ' a'.tmps w'->Fr G w G' w'->a'.tmps.size=a.tmps.size->a'.defers=a.defers->Code.rounds P x (aJE Ω G τ e a w) n a' w':=by
   intro n
   induction n with
   |zero=>intro G' σ' a' w' hi;cases hi
   |succ n ihn=>
    intro G' σ' a' w' hi hs hf k1 k2;rw[rounds_succ];simp only[aF3]at hi;cases hex:exec cf sg m vx σ' with
    |none=>rw[hex]at hi;cases hi
    |some r=>
     obtain⟨e1,σ1⟩:=r;rw[hex]at hi;refine wp_mono (ih h1 hex hs (by rw[k1];exact hN)) fun e2 a2 w2 ⟨q1,G2,q2,q3,q4,q5⟩=>?_
     subst q1;cases e1 with
     |nrm=>exact ihn hi q2 (hf.trans h.ok q3) (q4.trans k1) (q5.trans k2)
     |exit id=>cases hi;exact⟨rfl,G2,q2,hf.trans h.ok q3,q4.trans k1,q5.trans k2⟩
     |ret=>cases hi;exact⟨rfl,G2,q2,hf.trans h.ok q3,q4.trans k1,q5.trans k2⟩
  exact wp_loop_rounds m (key m hx h (Fr.refl G w) rfl rfl)
 |exit id=>
  intro v hc G σ e τ a w hx h hN;cases hc;cases hx;exact wp_exit ⟨rfl,vX.self h⟩
 |scope x ih=>
  intro v hc G σ e τ a w hx h hN;simp only[bF]at hc;obtain⟨vx,h1,rfl⟩:=Option.map_eq_some_iff.1 hc;simp only[exec]at hx;refine wp_scope_straight (wp_mono (ih h1 hx h hN) fun e' a' w' ⟨k1,k2⟩=>?_);subst k1;cases e<;>exact⟨rfl,k2⟩
 |ret=>
  intro v hc G σ e τ a w hx h hN;cases hc;cases hx;exact wp_ret ⟨rfl,vX.self h⟩
 |_=>
  intro v hc;cases hc
end
end Go.VM
namespace Go.VM
open Go.RowKit
variable{Ω:World->Prop}
theorem vY(i:Nat)(v:V):aN (number1 i v).1=aN v:=by
 unfold number1;split<;>rfl
theorem yX(i:Nat)(v:V):aN (gT i v).1=aN v:=by
 cases v with
 |agg=>rfl
 |_=>exact vY i _
theorem rH{vs:List V}(h:∀v∈vs,aN v=false):∀i,∀v∈bQ i vs,aN v=false:=by
 induction vs with
 |nil=>intro i v hv;cases hv
 |cons u r ih=>
  intro i v hv;simp only[bQ,List.mem_cons]at hv;rcases hv with rfl|hv
  .rw[yX];exact h u List.mem_cons_self
  .exact ih (fun x hx=>h x (List.mem_cons_of_mem _ hx)) _ v hv
theorem uI{e:Nat->V}{rs:List RV}{vs:List V}(h:dB e rs=some vs):∀v∈vs,v.ok=true:=by
 induction rs generalizing vs with
 |nil=>cases h;intro v hv;cases hv
 |cons r rs ih=>
  cases r with
  |tmp t=>
   simp only[dB]at h;split at h
   .rename_i hk;obtain⟨us,h1,rfl⟩:=Option.map_eq_some_iff.1 h;intro v hv;rcases List.mem_cons.1 hv with rfl|hv
    .exact hk
    .exact ih h1 v hv
   .cases h
  |cell agg sz t=>
   simp only[dB]at h;split at h
   .split at h
    .split at h
     .rename_i hk;obtain⟨us,h1,rfl⟩:=Option.map_eq_some_iff.1 h;intro v hv;rcases List.mem_cons.1 hv with rfl|hv
      .exact hk
      .exact ih h1 v hv
     .cases h
    .cases h
   .cases h
theorem tJ{vs:List V}(h:∀v∈vs,∀us,v≠.tup us):(packed vs).results=vs:=by
 unfold packed;split
 .rename_i v;have:=h v (by simp);cases v<;>first|rfl|exact absurd rfl (this _)
 .rfl
theorem aCd{v:V}{g:Lab->Lab}(h:∀us,v≠.tup us):∀us,v.mapLab g≠.tup us:=by
 cases v<;>first|exact absurd rfl (h _)|(intro us e;cases e)
theorem aCe{v:V}{i:Nat}(h:∀us,v≠.tup us):∀us,(gT i v).1≠.tup us:=by
 have one:∀us,(number1 i v).1≠.tup us:=by
  intro us;unfold number1;split
  .intro e;cases e
  .exact h us
 cases v with
 |agg=>intro us e;cases e
 |_=>exact one
theorem vZ{vs:List V}(h:∀v∈vs,∀us,v≠.tup us):∀i,∀v∈bQ i vs,∀us,v≠.tup us:=by
 induction vs with
 |nil=>intro i v hv;cases hv
 |cons u r ih=>
  intro i v hv;simp only[bQ,List.mem_cons]at hv;rcases hv with rfl|hv
  .exact aCe (h u List.mem_cons_self)
  .exact ih (fun x hx=>h x (List.mem_cons_of_mem _ hx)) _ v hv
theorem lP{T:Nat->Nat}{lk:Nat->Bool}{vs:List V}(h:∀v∈vs,v.ok=true):(packed (dJ T lk vs)).results=dJ T lk vs/\∀v∈dJ T lk vs,aN v=false:=by
 constructor
 .refine tJ (vZ (fun v hv=>?_) 0);obtain⟨u,hu,rfl⟩:=List.mem_map.1 hv;exact aCd (V.ok_known (h u hu)).2
 .refine rH (fun v hv=>?_) 0;obtain⟨u,hu,rfl⟩:=List.mem_map.1 hv;rw[pG];exact oD (h u hu)
theorem rI{vf:VF}{n:Nat}{x:Option (Ex×St)}{r:V}{bx':BX}(h:aF8 vf n x=some (r,bx')) :
  ∃e τ vs,x=some (e,τ)/\(e=.nrm\/e=.ret)/\dB (get τ.env) vf.res=some vs/\r=packed (dJ τ.tips τ.lk vs)/\bx'=dC n (dJ τ.tips τ.lk vs) τ.bx:=by
 unfold aF8 at h;split at h
 .rename_i τ;split at h
  .rename_i vs hv;cases h;exact⟨_,τ,vs,rfl,.inl rfl,hv,rfl,rfl⟩
  .cases h
 .rename_i τ;split at h
  .rename_i vs hv;cases h;exact⟨_,τ,vs,rfl,.inr rfl,hv,rfl,rfl⟩
  .cases h
 .cases h
structure PrimOk(Ω:World->Prop)(P:Program)(f:Nat)(cons:List Nat)(p:List V->Option V):Prop where
 reg:∀vs r,p vs=some r->∀v∈r.results,aN v=false
 call:∀vs r,p vs=some r->∀G w cs bx,Start Ω G w vs cs bx->Invokes P f cs.toArray w fun c w'=>∃rcs G' lk,c=vT rcs/\Ret Ω G w G' lk w' r.results rcs bx bx
structure PrimBOk(Ω:World->Prop)(P:Program)(f:Nat)(p:List V->BX->Option (V×BX)):Prop where
 reg:∀vs bx r bx',p vs bx=some (r,bx')->∀v∈r.results,aN v=false
 call:∀vs bx r bx',p vs bx=some (r,bx')->∀G w cs,Start Ω G w vs cs bx->Invokes P f cs.toArray w fun c w'=>∃rcs G' lk,c=vT rcs/\Ret Ω G w G' lk w' r.results rcs bx bx'
def rJ(Ω:World->Prop)(P:Program)(F:Nat->Option Entry):Prop:=∀f e,F f=some e->match e with
 |.code vf=>∃fn hh,P.funcs[f]?=some fn/\mM P hh vf.kept vf.cons fn=some vf
 |.prim cons p=>PrimOk Ω P f cons p
 |.primB p=>PrimBOk Ω P f p
theorem aCf{P:Program}{F:Nat->Option Entry}(hF:rJ Ω P F)(n:Nat):lI (call F n):=by
 intro f vs bx r bx' h;cases n with
 |zero=>cases h
 |succ n=>
  unfold call at h;split at h
  .obtain⟨e,τ,us,_,_,h1,rfl,_⟩:=rI h;obtain⟨k1,k2⟩:=lP (T:=τ.tips) (lk:=τ.lk) (uI h1);rw[k1];exact k2
  .rename_i cons p hf;obtain⟨v,h1,h2⟩:=Option.map_eq_some_iff.1 h;cases h2;exact(hF f _ hf).reg _ _ h1
  .rename_i p hf;exact(hF f _ hf).reg _ _ _ _ h
  .cases h
section
variable{cf:cO}{sg:Nat->Sig}{t0:Nat->Nat}
theorem yY(hq:eF cf sg){o:VOper}{σ σ':St}(hl:o.op.quiet=true)(h:bH cf sg t0 σ o=some σ'):∃ext,σ'.bx=σ.bx++ext:=by
 by_cases hb:o.op.leavesB=true
 .exact⟨[],by rw[rD hq hb h];simp⟩
 .unfold bH at h;split at h
  .split at h
   .cases h
   .obtain⟨dst,op,guard⟩:=o;simp only at h hl hb;cases op with
    |store rt sz a x=>cases rt<;>first|exact absurd rfl hb|cases hl
    |call f args q av=>exact absurd hl hb
    |callv x args q av=>exact absurd hl hb
    |allocB zs=>
     simp only[aU]at h;split at h
     .cases h;exact⟨_,rfl⟩
     .cases h
    |boxB sz x=>
     simp only[aU]at h;split at h
     .split at h
      .cases h;exact⟨_,rfl⟩
      .cases h
     .cases h
    |_=>exact absurd rfl hb
  .split at h
   .split at h
    .cases h
    .cases h;exact⟨[],by simp⟩
   .cases h;exact⟨[],by simp⟩
  .cases h
theorem yZ(hq:eF cf sg){os:List VOper}{σ σ':St}(hl:(os.all fun o=>o.op.quiet)=true)(h:eD cf sg t0 σ os=some σ'):∃ext,σ'.bx=σ.bx++ext:=by
 induction os generalizing σ with
 |nil=>cases h;exact⟨[],by simp⟩
 |cons o r ih=>
  simp only[List.all_cons,Bool.and_eq_true]at hl;simp only[eD]at h;split at h
  .rename_i σ1 h1;obtain⟨x1,e1⟩:=yY hq hl.1 h1;obtain⟨x2,e2⟩:=ih hl.2 h;exact⟨x1++x2,by rw[e2,e1,List.append_assoc]⟩
  .cases h
theorem dX(hq:eF cf sg){m:Nat}:∀{v:VC},v.quiet=true->∀{σ:St} {e:Ex} {τ:St},exec cf sg m v σ=some (e,τ)->∃ext,τ.bx=σ.bx++ext
 |.skip,_,σ,e,τ,h=>by cases h;exact⟨[],by simp⟩
 |.region ops,hl,σ,e,τ,h=>by
  simp only[exec]at h;obtain⟨τ',h2,h3⟩:=Option.map_eq_some_iff.1 h;cases h3;unfold iD at h2;split at h2
  .rename_i τ1 hr;cases h2;obtain⟨x,e⟩:=yZ hq hl hr;exact⟨x,e⟩
  .cases h2
 |.seq x y,hl,σ,e,τ,h=>by
  simp only[VC.quiet,Bool.and_eq_true]at hl;simp only[exec]at h;cases hex:exec cf sg m x σ with
  |none=>rw[hex]at h;cases h
  |some r=>
   obtain⟨e1,σ1⟩:=r;obtain⟨x1,q1⟩:=dX hq hl.1 hex;rw[hex]at h;cases e1 with
   |nrm=>
    obtain⟨x2,q2⟩:=dX hq hl.2 h;exact⟨x1++x2,by rw[q2,q1,List.append_assoc]⟩
   |exit id=>cases h;exact⟨x1,q1⟩
   |ret=>cases h;exact⟨x1,q1⟩
 |.cond c x y,hl,σ,e,τ,h=>by
  simp only[VC.quiet,Bool.and_eq_true]at hl;simp only[exec]at h;split at h
  .exact dX hq hl.1 h
  .exact dX hq hl.2 h
  .cases h
 |.block id x,hl,σ,e,τ,h=>by
  simp only[exec]at h;cases hex:exec cf sg m x σ with
  |none=>rw[hex]at h;cases h
  |some r=>
   obtain⟨e1,σ1⟩:=r;obtain⟨x1,q1⟩:=dX hq (v:=x) hl hex;rw[hex]at h;cases e1 with
   |nrm=>cases h;exact⟨x1,q1⟩
   |exit id'=>
    simp only at h;split at h<;>cases h<;>exact⟨x1,q1⟩
   |ret=>cases h;exact⟨x1,q1⟩
 |.loop x,hl,σ,e,τ,h=>by
  simp only[exec]at h;have key:∀(n:Nat) {σ:St},aF3 (exec cf sg m x) n σ=some (e,τ)->∃ext,τ.bx=σ.bx++ext:=by
   intro n
   induction n with
   |zero=>intro σ hi;cases hi
   |succ n ih=>
    intro σ hi;simp only[aF3]at hi;cases hex:exec cf sg m x σ with
    |none=>rw[hex]at hi;cases hi
    |some r=>
     obtain⟨e1,σ1⟩:=r;obtain⟨x1,q1⟩:=dX hq (v:=x) hl hex;rw[hex]at hi;cases e1 with
     |nrm=>
      obtain⟨x2,q2⟩:=ih hi;exact⟨x1++x2,by rw[q2,q1,List.append_assoc]⟩
     |exit id=>cases hi;exact⟨x1,q1⟩
     |ret=>cases hi;exact⟨x1,q1⟩
  exact key m h
 |.exit id,_,σ,e,τ,h=>by cases h;exact⟨[],by simp⟩
 |.scope x,hl,σ,e,τ,h=>by
  simp only[exec]at h;exact dX hq (v:=x) hl h
 |.ret,_,σ,e,τ,h=>by cases h;exact⟨[],by simp⟩
end
theorem iY{P:Program}{hh:Hints}{kept cons:List Nat}{fn:Func}{vf:VF}(h:mM P hh kept cons fn=some vf) :
  ∃c,fn.body=some c/\bF P hh fn.ntmps c=some vf.code/\dW P fn.ntmps fn.results.toList=some vf.res/\vf.quiet=vf.code.quiet/\vf.kept=kept/\vf.cons=cons/\(fn.name == "runtime.NumGoroutine")=false:=by
 unfold mM at h;split at h
 .cases h
 .rename_i c hb;split at h
  .rename_i code res h1 h2;split at h
   .rename_i hc;cases h;exact⟨c,hb,h1,h2,rfl,rfl,rfl,hc.2.2.2⟩
   .cases h
  .cases h
theorem quietOk_call{P:Program}{F:Nat->Option Entry}(hF:rJ Ω P F)(n:Nat):eF (call F n) (aAW F):=by
 induction n with
 |zero=>intro f vs bx r bx' h;cases h
 |succ n ih=>
  intro f vs bx r bx' h hq hlen;unfold call at h;split at h
  .rename_i vf hf;obtain⟨fn,hh,_,h2⟩:=hF f _ hf;obtain⟨c,_,_,_,h3,_⟩:=iY h2;have hq':vf.code.quiet=true:=by
    rw[<-h3];simpa[aAW,hf]using hq
   obtain⟨e,τ,us,hex,_,_,rfl,rfl⟩:=rI h;obtain⟨ext,hext⟩:=dX ih hq' hex;simp only[start]at hext;unfold dC at hlen ⊢;split at hlen
   .rename_i he;rw[if_pos he];rw[hext,List.length_append]at he;have:ext=[]:=List.eq_nil_of_length_eq_zero (by omega);rw[hext,this,List.append_nil]
   .rename_i he;rw[if_neg he];split at hlen
    .rename_i hb;rw[if_pos hb,hext,List.take_left]
    .exact absurd hlen he
  .obtain⟨v,_,h2⟩:=Option.map_eq_some_iff.1 h;cases h2;rfl
  .rename_i p hf;simp only[aAW,hf]at hq;cases hq
  .cases h
end Go.VM
namespace Go.VM
open Go.RowKit
variable{Ω:World->Prop}
theorem aEE(vf:VF)(args:List V)(s:Nat):get (qI vf args) s=args.getD s .undef\/get (qI vf args) s=.undef:=by
 unfold qI;generalize vf.kept=l
 induction l with
 |nil=>exact .inr rfl
 |cons k r ih=>
  simp only[List.map_cons,get];split
  .rename_i h;subst h;exact .inl rfl
  .exact ih
theorem SRc.start{G:Gh}{w:World}{vs:List V}{cs:List Value}{bx:BX}(h:Start Ω G w vs cs bx)(vf:VF)(n:Nat):SRc Ω G (start vf vs bx) (cs.toArray++Array.replicate n Go.undef) w:=by
 refine⟨fun s=>?_,h.boxes,h.ok,fun nm hnm=>by simp[VM.start,hnm],fun b s c hb=>absurd hb (h.norg b s c),fun _ hm=>hm.elim⟩;show fN G (A0 G w) w (get (qI vf vs)) s (get (qI vf vs) s) _;rcases aEE vf vs s with h1|h1
 .rw[h1,List.getD_eq_getElem?_getD];cases hv:vs[s]? with
  |none=>exact Rel.undef _
  |some v=>
   obtain⟨c,h2,h3⟩:=h.args.get hv;have hs:s<cs.length:=(List.getElem?_eq_some_iff.1 h2).1;have:(cs.toArray++Array.replicate n Go.undef).getD s Go.undef=c:=by
    rw[Array.getD_eq_getD_getElem?,Array.getElem?_append_left (by simpa using hs)];simp[h2]
   rw[this,Option.getD_some];have hvr:VR G (A0 G w) w (get (qI vf vs)) v c:=VR.of_rel (Rel.far (G:=G) (T:=fun _=>0) (lk:=fun nm=>decide (nm<64)) h3) h3;exact(fP hvr.not_reg).2 hvr
 .rw[h1];exact Rel.undef _
def pN(vs:List V):List Lab:=vs.flatMap V.labs
theorem aCg{v:V}(h:v.ok=true):v.names=v.labs.flatMap Lab.names:=by
 have one:∀{u:V},u.ok1=true->u.names=u.labs1.flatMap Lab.names:=fun{u} hu=>by
  cases u<;>first|(simp[V.names,V.labs1];done)|cases hu
 cases v with
 |agg cs=>
  simp only[V.names,V.labs];simp only[V.ok,List.all_eq_true]at h
  induction cs with
  |nil=>rfl
  |cons u r ih=>
   simp only[aC,List.flatMap_cons,List.flatMap_append];rw[one (h u List.mem_cons_self),ih fun x hx=>h x (List.mem_cons_of_mem _ hx)]
 |_=>exact one h
theorem aAt{vs:List V}(h:∀v∈vs,v.ok=true):aC vs=(pN vs).flatMap Lab.names:=by
 induction vs with
 |nil=>rfl
 |cons v r ih=>
  simp only[aC,pN,List.flatMap_cons,List.flatMap_append];rw[aCg (h v List.mem_cons_self),ih fun x hx=>h x (List.mem_cons_of_mem _ hx)];rfl
theorem aAu{L:List Lab}{nm:Nat}{l l':Lab}(h1:l∈L)(h2:l'∈L)(hne:l≠l')(hn:nm∈l.names)(hn':nm∈l'.names):2<=(L.flatMap Lab.names).count nm:=by
 have pos:∀{l:Lab} {L:List Lab},l∈L->nm∈l.names->1<=(L.flatMap Lab.names).count nm:=fun{l L} h hn=>List.count_pos_iff.2 (List.mem_flatMap.2 ⟨l,h,hn⟩)
 induction L with
 |nil=>cases h1
 |cons x r ih=>
  rw[List.flatMap_cons,List.count_append];rcases List.mem_cons.1 h1 with e1|k1
  .rcases List.mem_cons.1 h2 with e2|k2
   .exact absurd (e1.trans e2.symm) hne
   .have:=pos k2 hn';have h3:1<=x.names.count nm:=List.count_pos_iff.2 (e1▸hn);omega
  .rcases List.mem_cons.1 h2 with e2|k2
   .have:=pos k1 hn;have h3:1<=x.names.count nm:=List.count_pos_iff.2 (e2▸hn');omega
   .have:=ih k1 k2;omega
def dZ:V->List Nat
 |.sl (.own nm _) _ _ _=>[nm]
 |_=>[]
def owns:V->List Nat
 |.agg cs=>cs.flatMap dZ
 |v=>dZ v
theorem kA(v:V):(∃cs,v=.agg cs)\/((∀cs,v≠.agg cs)/\owns v=dZ v/\(∀i,gT i v=number1 i v)/\v.labs=v.labs1/\v.news=v.news1/\v.shared=v.shared1/\(∀g,v.mapLab g=v.mapLab1 g)):=by
 cases v<;>first|exact .inl ⟨_,rfl⟩|exact .inr ⟨(by intro cs e;cases e),rfl,fun _=>rfl,rfl,rfl,rfl,fun _=>rfl⟩
def aAv(ad:List Nat)(nm:Nat):Option Nat:=(List.range ad.length).find? fun i=>ad[i]?==some nm
theorem oG{ad:List Nat}{nm i:Nat}(h:aAv ad nm=some i):ad[i]?=some nm:=by
 have h1:=List.find?_some h;simpa using h1
theorem aCh{ad:List Nat}{nm:Nat}(h:aAv ad nm=none):nm∉ad:=fun hm=>by
 obtain⟨i,hi,he⟩:=List.getElem_of_mem hm;have:=List.find?_eq_none.1 h i (List.mem_range.2 hi);simp[List.getElem?_eq_getElem hi,he]at this
theorem aFx{ad:List Nat}{nm i:Nat}(hd:ad.Nodup)(h:ad[i]?=some nm):aAv ad nm=some i:=by
 cases hp:aAv ad nm with
 |none=>exact absurd (List.mem_of_getElem? h) (aCh hp)
 |some j=>
  have h2:=oG hp;obtain⟨hi,e1⟩:=List.getElem?_eq_some_iff.1 h;obtain⟨hj,e2⟩:=List.getElem?_eq_some_iff.1 h2;rw[(List.getElem?_inj hi hd).1 (h.trans h2.symm)]
def iP(ad:List Nat)(G:Gh)(n:Nat):Gh:=
 { Z := fun b => match G.Z b with
     |.fam nm=>if nm<64 then .fam nm else match aAv ad nm with
      |some i=>.fam (64+i)
      |none=>.st (G.ext nm)
     |.rg _ _=>.out
     |.bx i=>if i<n then .bx i else .out
     |z=>z
   rgB:=G.rgB,ver:=G.ver
   famB:=fun m=>if m<64 then G.famB m else G.famB (ad.getD (m-64) 0)
   ext:=fun m=>if m<64 then G.ext m else G.ext (ad.getD (m-64) 0)
   bxB:=G.bxB.take n,lo:=G.lo}
def oH(ad:List Nat)(lk:Nat->Bool)(m:Nat):Bool:=
 if m<64 then true else match ad[m-64]? with
  |some nm=>lk nm
  |none=>false
def AtM(ad:List Nat)(G:Gh)(n:Nat)(lk:Nat->Bool)(w:World):Pl
 |.own nm f,a,len,z,k,cap=>64<=nm/\(f=if lk nm then 1 else 0)/\Tip G w nm a z cap/\len=G.ext nm/\k*z=len
 |.arg i,a,len,z,k,cap=>i<64/\Tip G w i a z cap/\len=G.ext i/\k*z=len
 |.none,a,len,z,k,cap=>AtR (iP ad G n) (oH ad lk) w .none a len z k cap
 |_,_,_,_,_,_=>False
section
variable{D M:Nat->Prop}{G:Gh}{σ:St}{tm:Array Value}{w:World}{ad:List Nat}{n:Nat}
theorem oI{a:Addr}{len:Nat}(h:qJ G a len):qJ (iP ad G n) a len:=h.over fun k hk=>by simp only[iP,hk]
theorem kY{b nm:Nat}(h:G.Z b=.fam nm):(iP ad G n).Z b=if nm<64 then .fam nm else match aAv ad nm with
  |some i=>.fam (64+i)
  |none=>.st (G.ext nm):=by simp only[iP,h]
theorem wA{nm:Nat}{lk:Nat->Bool}{a:Addr}{len z k cap:Nat}(hr:Rd G nm a len)(hn:nm<64\/nm∉ad\/lk nm=true):AtR (iP ad G n) (oH ad lk) w .none a len z k cap:=by
 refine .inr ?_;rcases hr with hr|⟨h1,h2⟩
 .exact .inl (oI hr)
 .have hz:=kY (ad:=ad) (n:=n) h1;by_cases h64:nm<64
  .rw[if_pos h64]at hz;exact .inr ⟨nm,by simp[oH,h64],hz,by simp only[iP,if_pos h64];exact h2⟩
  .rw[if_neg h64]at hz;cases hp:aAv ad nm with
   |none=>rw[hp]at hz;exact .inl ⟨_,hz,h2⟩
   |some i=>
    rw[hp]at hz;have hi:=oG hp;refine .inr ⟨64+i,?_,hz,?_⟩
    .simp only[oH];rw[if_neg (by omega),Nat.add_sub_cancel_left,hi];rcases hn with hn|hn|hn
     .exact absurd hn h64
     .exact absurd (List.mem_of_getElem? hi) hn
     .exact hn
    .simp only[iP];rw[if_neg (by omega),Nat.add_sub_cancel_left,List.getD_eq_getElem?_getD,hi];exact h2
theorem aHU(_:SRc Ω G σ tm w){all:List Nat}{L:List Lab}(hall:all=L.flatMap Lab.names)(had:∀nm∈ad,64<=nm->Lab.own nm (σ.tips nm)∈L/\all.count nm=1){l:Lab}(hl:l∈L){a:Addr}{len z k cap:Nat}(ha:At G σ.tips σ.lk w l a len z k cap) :
  AtM ad G n σ.lk w (aM σ.tips σ.lk all l) a len z k cap:=by
 have other:∀nm,nm∈l.names->aM σ.tips σ.lk all l=.none->Rd G nm a len->AtM ad G n σ.lk w (aM σ.tips σ.lk all l) a len z k cap:=fun nm hn he hr=>by
  rw[he]
  change AtR (iP ad G n) (oH ad σ.lk) w .none a len z k cap
  refine wA hr ?_;by_cases h64:nm<64
  .exact .inl h64
  .refine .inr (.inl fun hm=>?_);obtain⟨q1,q2⟩:=had nm hm (by omega);have hne:l≠.own nm (σ.tips nm):=fun e=>by
    subst e;simp only[aM]at he;rw[if_pos ⟨trivial,q2⟩,if_neg h64]at he;cases he
   have:=aAu hl q1 hne hn (by simp[Lab.names]);rw[<-hall]at this;omega
 cases l with
 |none=>
  change AtR (iP ad G n) (oH ad σ.lk) w .none a len z k cap
  rcases ha with h0|ha|⟨nm,h1,h2,h3⟩
  .exact .inl h0
  .exact .inr (.inl (oI ha))
  .exact wA (.inr ⟨h2,h3⟩) (.inr (.inr h1))
 |own nm k'=>
  by_cases hc:k'=σ.tips nm/\all.count nm=1
  .obtain⟨h1,h2,h3⟩:=ha;obtain⟨t1,t2,t3⟩:=h3 hc.1;simp only[aM];rw[if_pos hc];split
   .rename_i h64;exact⟨h64,t1,t2,t3⟩
   .rename_i h64;exact⟨by omega,rfl,t1,t2,t3⟩
  .exact other nm (by simp[Lab.names]) (by simp only[aM];rw[if_neg hc]) ha.2.1
 |pre nm k'=>exact other nm (by simp[Lab.names]) rfl ha.2.1
 |view nm=>exact other nm (by simp[Lab.names]) rfl ha
 |rv=>exact ha.elim
 |arg=>exact ha.elim
theorem aHV(hd:ad.Nodup){nm j f:Nat}(hj:ad[j]?=some nm){a:Addr}{len z k cap:Nat}{lk:Nat->Bool}(h:AtM ad G n lk w (.own nm f) a len z k cap):AtR (iP ad G n) (oH ad lk) w (.own j f) a len z k cap:=by
 obtain⟨h64,_,⟨h1,h2,cur,e,h3,h4⟩,h5,h6⟩:=h;have hz:=kY (ad:=ad) (n:=n) h1;rw[if_neg (by omega),aFx hd hj]at hz;have hf:(iP ad G n).famB (64+j)=G.famB nm/\(iP ad G n).ext (64+j)=G.ext nm:=by
  simp only[iP];rw[if_neg (by omega),if_neg (by omega),Nat.add_sub_cancel_left,List.getD_eq_getElem?_getD,hj];exact⟨rfl,rfl⟩
 exact⟨⟨hz,by rw[hf.1];exact h2,cur,e,by rw[hf.1];exact h3,h4⟩,by rw[hf.2];exact h5,h6⟩
theorem aHW{i:Nat}{a:Addr}{len z k cap:Nat}{lk:Nat->Bool}(h:AtM ad G n lk w (.arg i) a len z k cap):AtR (iP ad G n) (oH ad lk) w (.arg i) a len z k cap:=by
 obtain⟨h64,⟨h1,h2,cur,e,h3,h4⟩,h5,h6⟩:=h;have hz:=kY (ad:=ad) (n:=n) h1;rw[if_pos h64]at hz;have hf:(iP ad G n).famB i=G.famB i/\(iP ad G n).ext i=G.ext i:=by
  simp only[iP];rw[if_pos h64,if_pos h64];exact⟨rfl,rfl⟩
 exact⟨⟨hz,by rw[hf.1];exact h2,cur,e,by rw[hf.1];exact h3,h4⟩,by rw[hf.2];exact h5,h6⟩
end
section
variable{w:World}{A A':Pl}{B:List Nat}{ad:List Nat}
def gH:V->Bool
 |.ep (.own _ _) _ _=>false
 |_=>true
def rK:V->Bool
 |.agg cs=>cs.all gH
 |v=>gH v
theorem gI(i:Nat)(v:V):(number1 i v).2=i+(dZ v).length:=by
 unfold number1 dZ;split
 .rfl
 .rename_i h;split
  .exact absurd rfl (h _ _ _ _ _)
  .rfl
theorem aAw(cs:List V):∀i,(bA i cs).2=i+(cs.flatMap dZ).length:=by
 induction cs with
 |nil=>intro i;rfl
 |cons u r ih=>
  intro i;simp only[bA,ih,gI,List.flatMap_cons,List.length_append];omega
theorem oJ(i:Nat)(v:V):(gT i v).2=i+(owns v).length:=by
 rcases kA v with⟨cs,rfl⟩|⟨_,h1,h2,_⟩
 .exact aAw cs i
 .rw[h1,h2];exact gI i v
variable(hown:∀nm j f a len z k cap,ad[j]?=some nm->A (.own nm f) a len z k cap->A' (.own j f) a len z k cap)(hrest:∀l a len z k cap,(∀nm f,l≠.own nm f)->A l a len z k cap->A' l a len z k cap)
include hown hrest
theorem aCi:jV w w A A' B B:=
 have _:=hown
 ⟨fun l a len z k cap hl h=>⟨hrest l a len z k cap (fun nm f e=>by subst e;simp[Lab.names]at hl) h,fun _ _=>rfl⟩,fun _ _ hb=>hb⟩
theorem rL{v:V}{c:Value}{i:Nat}(h:Rel w A B v c)(hs:v.single=true)(hep:gH v=true)(hi:∀nm∈dZ v,ad[i]?=some nm):Rel w A' B (number1 i v).1 c:=by
 have hk:=aCi (w:=w) (B:=B) hown hrest;have other:(∀l∈v.labs1,∀nm f,l≠.own nm f)->(number1 i v).1=v->Rel w A' B (number1 i v).1 c:=fun hl he=>by
  rw[he];have:=h.mapLab1 (g:=id) hk (fun l hll a len z k cap ha=>⟨hrest l a len z k cap (hl l hll) ha,fun _ _=>rfl⟩) hs;have e2:v.mapLab1 id=v:=by cases v<;>rfl
  rwa [e2]at this
 cases v with
 |sl l z n cs=>
  cases l with
  |own nm f=>
   obtain⟨a,cap,xs,rfl,p2,p3,p4,p5,p6,p7,p8,p9⟩:=Rel.sl_inv h;exact .sl _ _ _ _ a cap xs (hown nm i f _ _ _ _ _ (hi nm (by simp[dZ])) p2) p3 p4 p5 p6 p7 (p8.keepB hk p9) p9
  |_=>exact other (by simp[V.labs1]) rfl
 |ep l cs off=>
  cases l with
  |own nm f=>cases hep
  |_=>exact other (by simp[V.labs1]) rfl
 |_=>exact other (by simp[V.labs1]) rfl
theorem aAx{vs:List V}{cs:List Value}(h:RelL w A B vs cs)(hs:∀v∈vs,v.single=true)(hep:∀v∈vs,gH v=true):∀{i:Nat},(∀j nm,(vs.flatMap dZ)[j]?=some nm->ad[i+j]?=some nm)->RelL w A' B (bA i vs).1 cs:=by
 induction vs generalizing cs with
 |nil=>intro i _;cases h;exact .nil
 |cons v r ih=>
  intro i hi;cases h with
  |cons _ c _ cs h1 h2=>
   simp only[bA];have hlen:(dZ v).length<=1:=by
    unfold dZ;split<;>simp
   refine .cons _ _ _ _ (rL hown hrest h1 (hs v List.mem_cons_self) (hep v List.mem_cons_self) fun nm hnm=>?_) (ih h2 (fun u hu=>hs u (List.mem_cons_of_mem _ hu)) (fun u hu=>hep u (List.mem_cons_of_mem _ hu)) fun j nm hj=>?_)
   · have := hi 0 nm (by
       rw[List.flatMap_cons];have hp:0<(dZ v).length:=List.length_pos_of_mem hnm;rw[List.getElem?_append_left hp];cases ho:dZ v with
       |nil=>rw[ho]at hnm;cases hnm
       |cons x t=>
        rw[ho]at hnm hlen;cases t with
        |nil=>simp at hnm;subst hnm;rfl
        |cons=>simp at hlen)
     exact this
   .rw[gI,Nat.add_assoc];refine hi _ nm ?_;rw[List.flatMap_cons,List.getElem?_append_right (by omega),Nat.add_sub_cancel_left];exact hj
theorem wB{vs:List V}{cs:List Value}(h:RelL w A B vs cs)(hs:∀v∈vs,v.flat=true)(hep:∀v∈vs,rK v=true):∀{i:Nat},(∀j nm,(vs.flatMap owns)[j]?=some nm->ad[i+j]?=some nm)->RelL w A' B (bQ i vs) cs:=by
 induction vs generalizing cs with
 |nil=>intro i _;cases h;exact .nil
 |cons v r ih=>
  intro i hi;cases h with
  |cons _ c _ cs h1 h2=>
   simp only[bQ];refine .cons _ _ _ _ ?_ (ih h2 (fun u hu=>hs u (List.mem_cons_of_mem _ hu)) (fun u hu=>hep u (List.mem_cons_of_mem _ hu)) fun j nm hj=>?_)
   .have hv:=hs v List.mem_cons_self;have he:=hep v List.mem_cons_self;have hi':∀j nm,(owns v)[j]?=some nm->ad[i+j]?=some nm:=fun j nm hj=>hi j nm (by
     rw[List.flatMap_cons,List.getElem?_append_left (List.getElem?_eq_some_iff.1 hj).1];exact hj)
    rcases kA v with⟨ds,rfl⟩|⟨o0,o1,o2,o3,o4,o5,o6⟩
    .obtain⟨xs,rfl,h3⟩:=Rel.agg_inv h1;simp only[V.flat,List.all_eq_true]at hv;simp only[rK,List.all_eq_true]at he;exact .agg _ _ (aAx hown hrest h3 hv he hi')
    .rw[o2];have hsing:v.single=true:=by cases v<;>first|rfl|exact absurd rfl (o0 _)|cases hv
     refine rL hown hrest h1 hsing (by cases v<;>first|exact he|rfl) fun nm hnm=>?_
     rw[o1]at hi';have hlen:(dZ v).length<=1:=by
      unfold dZ;split<;>simp
     have:=hi' 0 nm (by
      cases ho:dZ v with
      |nil=>rw[ho]at hnm;cases hnm
      |cons x t=>
       rw[ho]at hnm hlen;cases t with
       |nil=>simp at hnm;subst hnm;rfl
       |cons=>simp at hlen)
     exact this
   .rw[oJ,Nat.add_assoc];refine hi _ nm ?_;rw[List.flatMap_cons,List.getElem?_append_right (by omega),Nat.add_sub_cancel_left];exact hj
end
end Go.VM
namespace Go.VM
open Go.RowKit
variable{Ω:World->Prop}
theorem aAy{bx:List (List V)}(h:bX bx=true):∀cs∈bx,bO cs=true:=by
 induction bx with
 |nil=>intro cs hc;cases hc
 |cons x r ih=>
  simp only[bX,Bool.and_eq_true]at h;intro cs hc;rcases List.mem_cons.1 hc with rfl|hc
  .exact h.1
  .exact ih h.2 cs hc
section
variable{P:Program}{D M:Nat->Prop}{G:Gh}{σ:St}{a:Act}{w:World}
def aCj(tm:Array Value):ResultVar->Sem Value
 |.tmp t=>pure (tm.getD t Go.undef)
 |.cell b t=>do loadVar t (<-asAddr (tm.getD b Go.undef))
theorem kB(h:SR Ω D M G σ a.tmps w){N:Nat}:∀{rs:List ResultVar} {vs:List RV} {us:List V},dW P N rs=some vs->dB (get σ.env) vs=some us->
  ∃cs,RelL w (At G σ.tips σ.lk w) G.bxB us cs/\(rs.mapM (aCj a.tmps)).run P w=.ok cs w
 |[],vs,us,hc,hr=>by cases hc;cases hr;exact⟨[],.nil,rfl⟩
 |.tmp t::r,vs,us,hc,hr=>by
  simp only[dW]at hc;split at hc
  .obtain⟨vs',h1,rfl⟩:=Option.map_eq_some_iff.1 hc;simp only[dB]at hr;split at hr
   .rename_i hk;obtain⟨us',h2,rfl⟩:=Option.map_eq_some_iff.1 hr;obtain⟨cs,k1,k2⟩:=kB h h1 h2;refine⟨a.tmps.getD t Go.undef::cs,.cons _ _ _ _ (h.opd_ok (x:=.tmp t) (y:=.tmp t) rfl hk) k1,?_⟩;have e1:(aCj a.tmps (.tmp t)).run P w=.ok (a.tmps.getD t Go.undef) w:=rfl;rw[List.mapM_cons,Sem.run_bind,e1,Result.andThen_ok,Sem.run_bind,k2,Result.andThen_ok];rfl
   .cases hr
  .cases hc
 |.cell b t::r,vs,us,hc,hr=>by
  simp only[dW]at hc;split at hc
  .rename_i g sz hg hs;split at hc
   .obtain⟨vs',h1,rfl⟩:=Option.map_eq_some_iff.1 hc;simp only[dB]at hr;split at hr
    .rename_i c n ds he;split at hr
     .rename_i v hp;split at hr
      .rename_i hk;obtain⟨us',h2,rfl⟩:=Option.map_eq_some_iff.1 hr;obtain⟨cs,k1,k2⟩:=kB h h1 h2;have hsl:=h.slots b;rw[he]at hsl;obtain⟨_,q2,_,xs,e,q3,q4⟩:=hsl;obtain⟨p1,p2,p3,p4⟩:=pQ hp q4;have hrun:=jK (P:=P) (a:=⟨G.rgB b c,0,none⟩) hg hs p2 p3 (cR q3);rw[fO]at hrun;refine⟨_,.cons _ _ _ _ p1 k1,?_⟩;have e1:(aCj a.tmps (.cell b t)).run P w=(loadVar t ⟨G.rgB b c,0,none⟩).run P w:=by
        simp only[aCj];rw[q2];simp[asAddr]
       rw[List.mapM_cons,Sem.run_bind,e1,hrun,Result.andThen_ok,Sem.run_bind,k2,Result.andThen_ok];rfl
      .cases hr
     .cases hr
    .cases hr
   .cases hc
  .cases hc
theorem aAz(h:SR Ω D M G σ a.tmps w){N:Nat}{fn:Func}{vs:List RV}{us:List V}(hc:dW P N fn.results.toList=some vs)(hr:dB (get σ.env) vs=some us) :
  ∃cs,RelL w (At G σ.tips σ.lk w) G.bxB us cs/\(results fn a.tmps).run P w=.ok (vT cs) w:=by
 obtain⟨cs,h1,h2⟩:=kB h hc hr;refine⟨cs,h1,?_⟩
 have e0 : results fn a.tmps = (do
     let vs <-fn.results.mapM (aCj a.tmps)
     pure (if h:vs.size=1 then vs[0]else .tuple vs)):=by
  unfold results;congr 2
 have e1:(fn.results.mapM (aCj a.tmps)).run P w=.ok cs.toArray w:=by
  rw[Array.mapM_eq_mapM_toList,<-bind_pure_comp,Sem.run_bind,h2,Result.andThen_ok];rfl
 rw[e0,Sem.run_bind,e1,Result.andThen_ok,Sem.run_pure];congr 1
 match cs with
 |[]=>rfl
 |[c]=>rfl
 |c::d::r=>
  rw[dif_neg (by simp)];rfl
end
section
variable{T:Nat->Nat}{lk:Nat->Bool}{all:List Nat}
theorem zB{v:V}{g:Lab->Lab}:(v.mapLab1 g).labs1=v.labs1.map g:=by cases v<;>rfl
theorem aBn{v:V}{g:Lab->Lab}:(v.mapLab g).labs=v.labs.map g:=by
 rcases kA v with⟨cs,rfl⟩|⟨o0,o1,o2,o3,o4,o5,o6⟩
 .simp only[V.mapLab,V.labs,List.flatMap_map,List.map_flatMap,zB]
 .have:(v.mapLab1 g).labs=(v.mapLab1 g).labs1:=by cases v<;>first|rfl|exact absurd rfl (o0 _)
  rw[o6,this,zB,o3]
theorem uJ{v:V}{nm:Nat}(h:nm∈dZ v):∃f,Lab.own nm f∈v.labs1:=by
 unfold dZ at h;split at h
 .simp at h;subst h;exact⟨_,by simp[V.labs1];rfl⟩
 .cases h
theorem aEF{v:V}{nm:Nat}(h:nm∈owns v):∃f,Lab.own nm f∈v.labs:=by
 rcases kA v with⟨cs,rfl⟩|⟨o0,o1,o2,o3,o4,o5,o6⟩
 .simp only[owns,List.mem_flatMap]at h;obtain⟨u,hu,h⟩:=h;obtain⟨f,hf⟩:=uJ h;exact⟨f,List.mem_flatMap.2 ⟨u,hu,hf⟩⟩
 .rw[o1]at h;rw[o3];exact uJ h
theorem mY{l:Lab}{nm f:Nat}(h:aM T lk all l=.own nm f):l=.own nm (T nm)/\all.count nm=1/\64<=nm/\f=if lk nm then 1 else 0:=by
 unfold aM at h;split at h
 .rename_i nm' k;split at h
  .rename_i hc;split at h
   .cases h
   .rename_i h64;cases h;exact⟨by rw[hc.1],hc.2,by omega,rfl⟩
  .cases h
 .cases h
theorem rM{v:V}{nm:Nat}(hk:v.ok1=true):(dZ (v.mapLab1 (aM T lk all))).count nm<=v.names.count nm:=by
 cases v with
 |sl l z n cs=>
  simp only[V.mapLab1,V.names];cases he:aM T lk all l with
  |own nm' f=>
   obtain⟨h1,_⟩:=mY he;rw[h1];exact Nat.le_refl _
  |_=>simp[dZ]
 |_=>simp[V.mapLab1,dZ]
theorem aCk{v:V}{nm:Nat}(hk:v.ok=true):(owns (v.mapLab (aM T lk all))).count nm<=v.names.count nm:=by
 rcases kA v with⟨cs,rfl⟩|⟨o0,o1,o2,o3,o4,o5,o6⟩
 .simp only[V.ok,List.all_eq_true]at hk;simp only[V.mapLab,owns,V.names]
  induction cs with
  |nil=>simp
  |cons u r ih=>
   simp only[List.map_cons,List.flatMap_cons,List.count_append,aC];have h1:=rM (T:=T) (lk:=lk) (all:=all) (nm:=nm) (hk u List.mem_cons_self);have h2:=ih fun x hx=>hk x (List.mem_cons_of_mem _ hx)
   omega
 .have h1:v.ok1=true:=by cases v<;>first|exact hk|exact absurd rfl (o0 _)
  rw[o6];have:owns (v.mapLab1 (aM T lk all))=dZ (v.mapLab1 (aM T lk all)):=by cases v<;>first|rfl|exact absurd rfl (o0 _)
  rw[this];exact rM h1
theorem aBA{vs:List V}{nm:Nat}(hk:∀v∈vs,v.ok=true):((vs.map (V.mapLab (aM T lk all))).flatMap owns).count nm<=(aC vs).count nm:=by
 induction vs with
 |nil=>simp
 |cons u r ih=>
  simp only[List.map_cons,List.flatMap_cons,List.count_append,aC];have h1:=aCk (T:=T) (lk:=lk) (all:=all) (nm:=nm) (hk u List.mem_cons_self);have h2:=ih fun x hx=>hk x (List.mem_cons_of_mem _ hx)
  omega
end
theorem uK{v:V}{i:Nat}(h:gH v=false):(number1 i v).1=v:=by
 unfold gH at h;split at h
 .rfl
 .cases h
theorem aBB{v:V}{i:Nat}(hl:∀l∈v.labs,∀nm f,l=.own nm f->64<=nm)(h:rK v=false):∃nm∈(gT i v).1.news,64<=nm:=by
 have one:∀{u:V} {i:Nat},gH u=false->(∀l∈u.labs1,∀nm f,l=.own nm f->64<=nm)->∃nm∈(number1 i u).1.news1,64<=nm:=fun{u i} hu hl=>by
  rw[uK hu];unfold gH at hu;split at hu
  .rename_i nm f cs off;exact⟨nm,by simp[V.news1,Lab.news],hl (.own nm f) (by simp[V.labs1]) nm f rfl⟩
  .cases hu
 rcases kA v with⟨cs,rfl⟩|⟨o0,o1,o2,o3,o4,o5,o6⟩
 .simp only[rK]at h;simp only[V.labs]at hl;have:∀(cs:List V) (i:Nat),(cs.all gH)=false->(∀l∈cs.flatMap V.labs1,∀nm f,l=.own nm f->64<=nm)->∃nm∈(bA i cs).1.flatMap V.news1,64<=nm:=by
   intro cs
   induction cs with
   |nil=>intro i h _;cases h
   |cons u r ih=>
    intro i h hl;simp only[bA];by_cases hu:gH u=true
    .simp only[List.all_cons,hu,Bool.true_and]at h;obtain⟨nm,h1,h2⟩:=ih _ h fun l hll=>hl l (by rw[List.flatMap_cons];exact List.mem_append.2 (.inr hll))
     exact⟨nm,by rw[List.flatMap_cons];exact List.mem_append.2 (.inr h1),h2⟩
    .obtain⟨nm,h1,h2⟩:=one (i:=i) (by simpa using hu) fun l hll=>hl l (by rw[List.flatMap_cons];exact List.mem_append.2 (.inl hll))
     exact⟨nm,by rw[List.flatMap_cons];exact List.mem_append.2 (.inl h1),h2⟩
  exact this cs i h hl
 .have h1:gH v=false:=by cases v<;>first|exact h|exact absurd rfl (o0 _)
  rw[o2];have h2:(number1 i v).1.news=(number1 i v).1.news1:=by
   rw[uK h1];exact o4
  rw[h2];exact one h1 (by rw[<-o3];exact hl)
theorem aCl{vs:List V}(hl:∀l∈pN vs,∀nm f,l=.own nm f->64<=nm):∀{i:Nat},(newsOf (bQ i vs)).all (·<64)=true->∀v∈vs,rK v=true:=by
 induction vs with
 |nil=>intro i _ v hv;cases hv
 |cons u r ih=>
  intro i h v hv;simp only[bQ,newsOf,List.flatMap_cons,List.all_append,Bool.and_eq_true]at h;have hu:∀l∈u.labs,∀nm f,l=.own nm f->64<=nm:=fun l hll=>hl l (by simp only[pN,List.flatMap_cons];exact List.mem_append.2 (.inl hll))
  have hr:∀l∈pN r,∀nm f,l=.own nm f->64<=nm:=fun l hll=>hl l (by simp only[pN,List.flatMap_cons];exact List.mem_append.2 (.inr hll))
  rcases List.mem_cons.1 hv with rfl|hv
  .by_cases he:rK v=true
   .exact he
   .obtain⟨nm,h1,h2⟩:=aBB (i:=i) hu (by simpa using he);have:=List.all_eq_true.1 h.1 nm h1;simp at this;omega
  .exact ih hr h.2 v hv
theorem aCm{v:V}{g:Lab->Lab}(h:v.single=true):(v.mapLab1 g).single=true:=by cases v<;>first|rfl|cases h
theorem aFy{v:V}{g:Lab->Lab}(h:v.flat=true):(v.mapLab g).flat=true:=by
 cases v with
 |agg cs=>
  simp only[V.mapLab,V.flat,List.all_eq_true,List.mem_map]at *;rintro u ⟨x,hx,rfl⟩;exact aCm (h x hx)
 |tup=>cases h
 |_=>rfl
theorem wC{v:V}{i:Nat}(h:v.single=true):(number1 i v).1.single=true:=by
 unfold number1;split
 .rfl
 .exact h
theorem aBC{v:V}{i:Nat}(h:v.flat=true):(gT i v).1.flat=true:=by
 rcases kA v with⟨cs,rfl⟩|⟨o0,o1,o2,o3,o4,o5,o6⟩
 .simp only[gT,V.flat,List.all_eq_true]at *;have:∀(cs:List V) (i:Nat),(∀u∈cs,u.single=true)->∀u∈(bA i cs).1,u.single=true:=by
   intro cs
   induction cs with
   |nil=>intro i _ u hu;cases hu
   |cons x r ih=>
    intro i h u hu;simp only[bA,List.mem_cons]at hu;rcases hu with rfl|hu
    .exact wC (h x List.mem_cons_self)
    .exact ih _ (fun y hy=>h y (List.mem_cons_of_mem _ hy)) u hu
  exact this cs i h
 .rw[o2];unfold number1;split
  .rfl
  .exact h
theorem tK{vs:List V}(h:∀v∈vs,v.flat=true):∀i,∀v∈bQ i vs,v.flat=true:=by
 induction vs with
 |nil=>intro i v hv;cases hv
 |cons u r ih=>
  intro i v hv;simp only[bQ,List.mem_cons]at hv;rcases hv with rfl|hv
  .exact aBC (h u List.mem_cons_self)
  .exact ih (fun x hx=>h x (List.mem_cons_of_mem _ hx)) _ v hv
theorem lQ{v:V}{i nm:Nat}(hnm:nm∈dZ v)(hf:∀f,Lab.own nm f∈v.labs1->f=1):i∈(number1 i v).1.shared1:=by
 unfold dZ at hnm;split at hnm
 .rename_i nm' f z n cs;simp at hnm;subst hnm;have:=hf f (by simp[V.labs1]);subst this;simp[number1,V.shared1,Lab.shared]
 .cases hnm
theorem tL{vs:List V}{nm:Nat}(hf:∀f,Lab.own nm f∈vs.flatMap V.labs1->f=1):∀{i j:Nat},(vs.flatMap dZ)[j]?=some nm->i+j∈(bA i vs).1.flatMap V.shared1:=by
 induction vs with
 |nil=>intro i j h;simp at h
 |cons u r ih=>
  intro i j h;simp only[bA];rw[List.flatMap_cons]at h ⊢;have hlen:(dZ u).length<=1:=by unfold dZ;split<;>simp
  by_cases hj:j<(dZ u).length
  .have hj0:j=0:=by omega
   subst hj0;rw[List.getElem?_append_left hj]at h;exact List.mem_append.2 (.inl (lQ (List.mem_of_getElem? h) fun f hff=>hf f (by rw[List.flatMap_cons];exact List.mem_append.2 (.inl hff))))
  .rw[List.getElem?_append_right (by omega)]at h;have:=ih (fun f hff=>hf f (by rw[List.flatMap_cons];exact List.mem_append.2 (.inr hff))) (i:=(number1 i u).2) h;rw[gI,Nat.add_assoc,Nat.add_sub_cancel' (by omega)]at this;rw[gI];exact List.mem_append.2 (.inr this)
theorem wD{v:V}{nm:Nat}(hf:∀f,Lab.own nm f∈v.labs->f=1){i j:Nat}(h:(owns v)[j]?=some nm):i+j∈(gT i v).1.shared:=by
 rcases kA v with⟨cs,rfl⟩|⟨o0,o1,o2,o3,o4,o5,o6⟩
 .exact tL hf h
 .rw[o1]at h;rw[o2];have hlen:(dZ v).length<=1:=by unfold dZ;split<;>simp
  have hj:=(List.getElem?_eq_some_iff.1 h).1;have hj0:j=0:=by omega
  subst hj0;have h1:=lQ (i:=i) (List.mem_of_getElem? h) (by rw[<-o3];exact hf);have h2:(number1 i v).1.shared=(number1 i v).1.shared1:=by
   unfold number1;split
   .rfl
   .exact o5
  rw[h2];exact h1
theorem pO{vs:List V}{nm:Nat}(hf:∀f,Lab.own nm f∈pN vs->f=1):∀{i j:Nat},(vs.flatMap owns)[j]?=some nm->i+j∈(bQ i vs).flatMap V.shared:=by
 induction vs with
 |nil=>intro i j h;simp at h
 |cons u r ih=>
  intro i j h;simp only[bQ];rw[List.flatMap_cons]at h ⊢;by_cases hj:j<(owns u).length
  .rw[List.getElem?_append_left hj]at h;exact List.mem_append.2 (.inl (wD (fun f hff=>hf f (by simp only[pN,List.flatMap_cons];exact List.mem_append.2 (.inl hff))) h))
  .rw[List.getElem?_append_right (by omega)]at h;have:=ih (fun f hff=>hf f (by simp only[pN,List.flatMap_cons];exact List.mem_append.2 (.inr hff))) (i:=(gT i u).2) h;rw[oJ,Nat.add_assoc,Nat.add_sub_cancel' (by omega)]at this;rw[oJ];exact List.mem_append.2 (.inr this)
section
variable{P:Program}{G G0:Gh}{σ:St}{a:Act}{w w0:World}
theorem aHX{tm:Array Value}(h:SRc Ω G σ tm w){vs0:List V}{cs0:List Value}{bx0:BX}(hst:Start Ω G0 w0 vs0 cs0 bx0)(hfr:Fr G0 w0 G w){us:List V}{cs:List Value}(hus:∀v∈us,v.ok=true)(hr:RelL w (At G σ.tips σ.lk w) G.bxB us cs)
  (h64:(newsOf (dJ σ.tips σ.lk us)).all (·<64)=true):∃G' lk,Ret Ω G0 w0 G' lk w (dJ σ.tips σ.lk us) cs bx0 (dC bx0.length (dJ σ.tips σ.lk us) σ.bx):=by
 have hbl:bx0.length<=σ.bx.length:=by
  rw[hst.boxes.1,h.boxes.1];by_cases hz:G0.bxB.length=0
  .omega
  .have hlt:G0.bxB.length-1<G0.bxB.length:=by omega
   have:=hfr.boxes (G0.bxB.length-1) _ (List.getElem?_eq_getElem hlt);have:=(List.getElem?_eq_some_iff.1 this).1;omega
 have hbx:∃nn,dC bx0.length (dJ σ.tips σ.lk us) σ.bx=σ.bx.take nn/\nn<=σ.bx.length/\bx0.length<=nn/\(nn=σ.bx.length\/(bO (dJ σ.tips σ.lk us)=true/\bX (σ.bx.take nn)=true)):=by
  unfold dC;split
  .rename_i he;exact⟨σ.bx.length,by simp,Nat.le_refl _,by omega,.inl rfl⟩
  .split
   .rename_i hb;simp only[Bool.and_eq_true]at hb;exact⟨bx0.length,rfl,hbl,Nat.le_refl _,.inr hb⟩
   .exact⟨σ.bx.length,by simp,Nat.le_refl _,hbl,.inl rfl⟩
 obtain⟨nn,hk,hnn,hnb,hcase⟩:=hbx;rw[hk];have hbB:nn=σ.bx.length->G.bxB.take nn=G.bxB:=fun e=>by rw[e,h.boxes.1,List.take_length]
 let ad:=(us.map (V.mapLab (aM σ.tips σ.lk (aC us)))).flatMap owns;have hall:=aAt hus;have hadm:∀nm∈ad,Lab.own nm (σ.tips nm)∈pN us/\(aC us).count nm=1/\64<=nm:=fun nm hnm=>by
  obtain⟨u,hu,ho⟩:=List.mem_flatMap.1 hnm;obtain⟨v,hv,rfl⟩:=List.mem_map.1 hu;obtain⟨f,hf⟩:=aEF ho;rw[aBn]at hf;obtain⟨l,hl,he⟩:=List.mem_map.1 hf;obtain⟨h1,h2,h3,_⟩:=mY he;exact⟨List.mem_flatMap.2 ⟨v,hv,h1▸hl⟩,h2,h3⟩
 have hnd:ad.Nodup:=List.nodup_iff_count.2 fun nm=>by
  by_cases hm:nm∈ad
  .have:=aBA (T:=σ.tips) (lk:=σ.lk) (all:=aC us) (nm:=nm) hus;have h2:=(hadm nm hm).2.1;rw[h2]at this;exact this
  .rw[List.count_eq_zero_of_not_mem hm];omega
 have hlabs:∀l∈pN (us.map (V.mapLab (aM σ.tips σ.lk (aC us)))),∃l'∈pN us,l=aM σ.tips σ.lk (aC us) l':=fun l hl=>by
  obtain⟨u,hu,ho⟩:=List.mem_flatMap.1 hl;obtain⟨v,hv,rfl⟩:=List.mem_map.1 hu;rw[aBn]at ho;obtain⟨l',hl',he⟩:=List.mem_map.1 ho;exact⟨l',List.mem_flatMap.2 ⟨v,hv,hl'⟩,he.symm⟩
 have hep:∀v∈us.map (V.mapLab (aM σ.tips σ.lk (aC us))),rK v=true:=aCl (fun l hl nm f e=>by
  obtain⟨l',_,e2⟩:=hlabs l hl;exact(mY (e2.symm.trans e)).2.2.1) h64
 have hflat:∀v∈us.map (V.mapLab (aM σ.tips σ.lk (aC us))),v.flat=true:=fun v hv=>by
  obtain⟨u,hu,rfl⟩:=List.mem_map.1 hv;exact aFy (V.flat_of_ok (hus u hu))
 have hkB:jV w w (At G σ.tips σ.lk w) (AtM ad G nn σ.lk w) G.bxB G.bxB:=⟨fun l a len z k cap hl ha=>⟨by
  cases l with
  |none=>
   change AtR (iP ad G nn) (oH ad σ.lk) w .none a len z k cap
   rcases ha with h0|ha|⟨nm,h1,h2,h3⟩
   .exact .inl h0
   .exact .inr (.inl (oI ha))
   .exact wA (.inr ⟨h2,h3⟩) (.inr (.inr h1))
  |rv=>exact ha.elim
  |_=>simp[Lab.names]at hl,fun _ _=>rfl⟩,fun _ _ hb=>hb⟩
 have hmid:RelL w (AtM ad G nn σ.lk w) G.bxB (us.map (V.mapLab (aM σ.tips σ.lk (aC us)))) cs:=by
  have:∀(xs:List V) (ys:List Value),RelL w (At G σ.tips σ.lk w) G.bxB xs ys->(∀x∈xs,x∈us)->RelL w (AtM ad G nn σ.lk w) G.bxB (xs.map (V.mapLab (aM σ.tips σ.lk (aC us)))) ys:=by
   intro xs
   induction xs with
   |nil=>intro ys hh _;cases hh;exact .nil
   |cons x r ih=>
    intro ys hh hx;cases hh with
    |cons _ c _ ys k1 k2=>
     have hxu:=hx x List.mem_cons_self;refine .cons _ _ _ _ (k1.mapLab hkB (fun l hl a len z k cap ha=>⟨?_,fun _ _=>rfl⟩) (V.flat_of_ok (hus x hxu))) (ih ys k2 fun y hy=>hx y (List.mem_cons_of_mem _ hy));exact aHU h hall (fun nm hnm _=>⟨(hadm nm hnm).1,(hadm nm hnm).2.1⟩) (List.mem_flatMap.2 ⟨x,hxu,hl⟩) ha
  exact this us cs hr fun _ hx=>hx
 have hres0:RelL w (AtR (iP ad G nn) (oH ad σ.lk) w) G.bxB (dJ σ.tips σ.lk us) cs:=
  wB (ad:=ad) (fun nm j f a len z k cap hj ha=>aHV hnd hj ha) (fun l a len z k cap hne ha=>by
   cases l with
   |none=>exact ha
   |own nm f=>exact absurd rfl (hne nm f)
   |arg i=>exact aHW ha
   |pre=>exact ha.elim
   |view=>exact ha.elim
   |rv=>exact ha.elim) hmid hflat hep (i:=0) (fun j nm hj=>by rw[Nat.zero_add];exact hj)
 have hkB2:jV w w (At G σ.tips σ.lk w) (AtR (iP ad G nn) (oH ad σ.lk) w) G.bxB G.bxB:=⟨fun l a len z k cap hl ha=>⟨by
  have:=(hkB.1 l a len z k cap hl ha).1;cases l with
  |none=>exact this
  |rv=>exact ha.elim
  |_=>simp[Lab.names]at hl,fun _ _=>rfl⟩,fun _ _ hb=>hb⟩
 have hfamB:∀{b m:Nat},(iP ad G nn).Z b=.fam m->b=(iP ad G nn).famB m/\∃cur e,(∃fr:Nat×Nat,w.heap[b]?=some (.cells cur e fr)/\Fz fr cur.size)/\(iP ad G nn).ext m<=cur.size:=fun{b m} hz=>by
  cases hg:G.Z b with
  |fam nm=>
   rw[kY hg]at hz;split at hz
   .rename_i h64;cases hz;simp only[iP,if_pos h64];exact⟨h.ok.famU b _ hg,h.ok.famC b _ hg⟩
   .split at hz
    .rename_i i hp;cases hz;have hi:=oG hp;simp only[iP];rw[if_neg (by omega),if_neg (by omega),Nat.add_sub_cancel_left,List.getD_eq_getElem?_getD,hi];exact⟨h.ok.famU b _ hg,h.ok.famC b _ hg⟩
    .cases hz
  |bx i=>simp only[iP,hg]at hz;split at hz<;>cases hz
  |_=>simp only[iP,hg]at hz;cases hz
 have hnx:=h.ok.next (G':=iP ad G nn) (w':=w) (fun b h1 h2=>⟨h2,rfl,by
  rcases h1 with h1|⟨n,h1⟩
  .exact .inl (by simp only[iP,h1])
  .exact .inr ⟨n,by simp only[iP,h1]⟩⟩) rfl
 refine⟨iP ad G nn,oH ad σ.lk,⟨fun b hb=>h.ok.lt b fun ho=>hb (by simp only[iP,ho]),fun b m hz=>(hfamB hz).1,fun b m hz=>(hfamB hz).2,fun b s c hz=>?_,hnx.1,hnx.2⟩,⟨hfr.os,hfr.tape,hfr.output,hfr.size,fun b hb hz=>?_,fun b nm hnm hz=>?_,fun i b hi=>?_⟩,fun i hi=>?_,?_,tK hflat 0,⟨?_,fun i ds hi=>?_⟩,?_⟩
 .exfalso;cases hg:G.Z b with
  |fam nm=>
   rw[kY hg]at hz;split at hz
   .cases hz
   .split at hz<;>cases hz
  |bx i=>simp only[iP,hg]at hz;split at hz<;>cases hz
  |_=>simp only[iP,hg]at hz;cases hz
 .obtain⟨k1,k2⟩:=hfr.rest b hb hz;refine⟨k1,?_⟩;rcases hz with hz|⟨m,hz⟩
  .rw[hz]at k2;simp only[iP,k2,hz]
  .rw[hz]at k2;simp only[iP,k2,hz]
 .obtain⟨k1,k2⟩:=hfr.used b nm hnm hz;refine⟨k1,?_⟩;rcases k2 with⟨k2,k3⟩|⟨m,k2,k3⟩
  .exact .inl ⟨by rw[kY k2,if_pos hnm],by simp only[iP,if_pos hnm];exact k3⟩
  .exact .inr ⟨m,by simp only[iP,k2],k3⟩
 .have h1:=hfr.boxes i b hi;have h2:=(List.getElem?_eq_some_iff.1 hi).1;show(G.bxB.take nn)[i]?=some b;rw[List.getElem?_take_of_lt (by rw[hst.boxes.1]at hnb;omega)];exact h1
 .simp only[oH]at hi;rw[if_neg (by omega),Nat.add_sub_cancel_left]at hi;cases hai:ad[i]? with
  |none=>rw[hai]at hi;cases hi
  |some nm=>
   rw[hai]at hi;have:=pO (vs:=us.map (V.mapLab (aM σ.tips σ.lk (aC us)))) (nm:=nm) (fun f hf=>by
    obtain⟨l',_,e2⟩:=hlabs _ hf;have:=(mY e2.symm).2.2.2;simp only at hi;rw[this,if_pos hi]) (i:=0) hai
   rw[Nat.zero_add]at this;exact this
 .show RelL _ _ (G.bxB.take nn) _ _;rcases hcase with hc|hc
  .rw[hbB hc];exact hres0
  .exact hres0.nobox hc.1
 .show(σ.bx.take nn).length=(G.bxB.take nn).length;rw[List.length_take,List.length_take,h.boxes.1]
 · have hin : i < nn := by
     have:=(List.getElem?_eq_some_iff.1 hi).1;rw[List.length_take]at this;omega
   have hi0:=hi;rw[List.getElem?_take_of_lt hin]at hi;obtain⟨hn,b,q1,q2,xs,e,q3,q4⟩:=h.boxes.2 i ds hi;refine⟨hn,b,?_,by simp only[iP,q2,if_pos hin],xs,e,q3,?_⟩
   .show(G.bxB.take nn)[i]?=some b;rw[List.getElem?_take_of_lt hin];exact q1
   .have h5:=q4.keepB hkB2 hn;show RelL _ _ (G.bxB.take nn) _ _;rcases hcase with hc|hc
    .rw[hbB hc];exact h5
    .exact h5.nobox (aAy hc.2 ds (List.mem_of_getElem? hi0))
 .rw[List.length_take];omega
theorem aCn{F:Nat->Option Entry}(hF:rJ Ω P F):∀n,jZ Ω P (call F n):=by
 intro n
 induction n with
 |zero=>intro f vs bx r bx' h;cases h
 |succ n ih=>
  intro f vs bx r bx' h h64 G w cs hst;unfold call at h;split at h
  .rename_i vf hf;obtain⟨fn,hh,h1,h2⟩:=hF f _ hf;obtain⟨c,hb,hcode,hres,_,_,_,hname⟩:=iY h2;obtain⟨e,τ,us,hex,he,hrv,rfl,rfl⟩:=rI h;have hok:=uI hrv;obtain⟨hrr,_⟩:=lP (T:=τ.tips) (lk:=τ.lk) hok;rw[hrr]at h64 ⊢;refine .inl ⟨?_,calls_of_wp h1 hb (wp_mono (aFw ih (aCf hF n) (quietOk_call hF n) c hcode hex (SRc.start hst vf _) (by simp;omega)) fun e' a' w' ⟨k1,G1,k2,k3,k4,k5⟩=>?_)⟩
   .unfold callFunc;have hp:(Go.program:Sem Program).run P w=.ok P w:=rfl;rw[Sem.run_bind,hp,Result.andThen_ok,h1];simp only;rw[if_neg (by rw[hname];simp),if_neg (by rw[hb];simp)];rfl
   .obtain⟨rcs,q1,q2⟩:=aAz k2 hres hrv;obtain⟨G',lk,q3⟩:=aHX k2 hst k3 hok q1 h64;subst k1;rcases he with rfl|rfl
    .exact⟨k5,_,q2,_,rfl,rcs,G',lk,rfl,q3⟩
    .exact⟨k5,_,q2,_,rfl,rcs,G',lk,rfl,q3⟩
  .rename_i cons p hf;obtain⟨v,h1,h2⟩:=Option.map_eq_some_iff.1 h;cases h2;exact(hF f _ hf).call _ _ h1 G w cs bx hst
  .rename_i p hf;exact(hF f _ hf).call _ _ _ _ h G w cs hst
  .cases h
end
end Go.VM
namespace Go.VM
open Go.RowKit Go.ChangeShapes Go.WideShapes
variable{Ω:World->Prop}
def zC(P:Program):List Field->Nat->Nat->Bool
 |[],off,n=>off==n
 |f::r,off,n=>f.offset==off&&zC P r (off+P.cellsOf f.type) n
def okT(P:Program):Nat->TypeId->Bool
 |0,_=>false
 |d+1,t=>match P.underlying t with
  |some .bool=>true
  |some (.int _)=>true
  |some .string=>true
  |some (.slice e)=>decide (0<P.cellsOf e)&&okT P d e
  |some (.struct fs)=>zC P fs.toList 0 (P.cellsOf t)&&fs.toList.all fun f=>okT P d f.type
  |some (.array n e)=>P.cellsOf t==n*P.cellsOf e&&okT P d e
  |_=>false
inductive TyC(P:Program):TypeId->List V->Prop
 |bool (t:TypeId) (b:Bool):P.underlying t=some .bool->TyC P t [.bool b]
 |int (t:TypeId) (k:IntKind) (n:Int):P.underlying t=some (.int k)->k.min<=n->n<=k.max->TyC P t [.int k n]
 |str (t:TypeId) (s:List UInt8):P.underlying t=some .string->s.length<=maxLen->TyC P t [.str s]
 |nils (t e:TypeId):P.underlying t=some (.slice e)->TyC P t [.nils]
 |sl (t e:TypeId) (css:List (List V)):P.underlying t=some (.slice e)->0<P.cellsOf e->css.length<=maxLen->(∀cs,cs∈css->TyC P e cs)->(∀cs,cs∈css->cs.length=P.cellsOf e)->TyC P t [.sl .none (P.cellsOf e) css.length css.flatten]
 |struct (t:TypeId) (fs:Array Field) (css:List (List V)):P.underlying t=some (.struct fs)->css.length=fs.size->(∀(i:Nat) f cs,fs[i]?=some f->css[i]?=some cs->TyC P f.type cs)->TyC P t css.flatten
 |array (t:TypeId) (n:Nat) (e:TypeId) (css:List (List V)):P.underlying t=some (.array n e)->css.length=n->(∀cs,cs∈css->TyC P e cs)->TyC P t css.flatten
def tM(w:World):Gh:=
 { Z := fun b => match w.heap[b]? with
     |some (.cells cs _ _)=>.st cs.size
     |some _=>.st 0
     |none=>.out
   rgB:=fun _ _=>0,ver:=fun _ _=>0,famB:=fun _=>0,ext:=fun _=>0,bxB:=[],lo:=w.heap.size}
theorem aFz(w:World)(hΩ:∀w':World,(∀b,b<w.heap.size->w'.heap[b]?=w.heap[b]?)->Ω w'):GOk Ω (tM w) w:=by
 refine⟨fun b hb=>?_,fun b nm h=>?_,fun b nm h=>?_,fun b s c h=>?_,fun b hb=>⟨hb,?_⟩,hΩ⟩
 rotate_right
 .simp only[tM];cases hw:w.heap[b]? with
  |none=>exact .inl rfl
  |some ob=>cases ob<;>exact .inr ⟨_,rfl⟩
 .by_cases hlt:b<w.heap.size
  .exact hlt
  .exfalso;apply hb;simp only[tM,Array.getElem?_eq_none (Nat.le_of_not_lt hlt)]
 all_goals
  simp only[tM]at h;split at h<;>cases h
theorem aBo{α β:Type}{f:α->Option β}:∀{xs:List α} {ys:List β},xs.mapM f=some ys->ys.length=xs.length/\∀(i:Nat) x,xs[i]?=some x->∃y,ys[i]?=some y/\f x=some y
 |[],ys,h=>by simp at h;subst h;simp
 |x::r,ys,h=>by
  rw[List.mapM_cons]at h;cases hx:f x with
  |none=>simp[hx]at h
  |some y=>
   cases hr:r.mapM f with
   |none=>simp[hx,hr]at h
   |some zs=>
    simp[hx,hr]at h;subst h;obtain⟨k1,k2⟩:=aBo hr;refine⟨by simp[k1],fun i x' hi=>?_⟩;cases i with
    |zero=>simp at hi;subst hi;exact⟨y,rfl,hx⟩
    |succ i=>simp at hi;obtain⟨z,h1,h2⟩:=k2 i x' hi;exact⟨z,by simpa using h1,h2⟩
section
variable{H:Type}{enc:TypeId×Value->H}{P:Program}{w:World}{base:Nat}{spare:Nat->Bool}{held:Bool}
abbrev A1(w:World):Pl:=A0 (tM w) w
theorem zD{a:Addr}{xs:List Value}(h:Row w a xs)(z n cap:Nat):A1 w .none a xs.length z n cap:=by
 by_cases h0:xs.length=0
 .exact .inl h0
 .refine .inr (.inl ?_);have h1:=h (xs.length-1) _ (List.getElem?_eq_getElem (by omega));unfold World.cell? at h1;rw[bM]at h1;split at h1
  .rename_i c e fr hc;split at h1
   .cases h1
   .have:=(Array.getElem?_eq_some_iff.1 h1).1;rw[qL]at this;exact⟨c.size,by simp only[tM,hc],by omega⟩
  .cases h1
theorem RelL.flatten{A:Pl}{B:List Nat}:∀{vss:List (List V)} {css:List (List Value)},vss.length=css.length->(∀(i:Nat) vs cs,vss[i]?=some vs->css[i]?=some cs->RelL w A B vs cs)->RelL w A B vss.flatten css.flatten
 |[],[],_,_=>.nil
 |[],_::_,h,_=>by simp at h
 |_::_,[],h,_=>by simp at h
 |v::vs,c::cs,hl,h=>by
  rw[List.flatten_cons,List.flatten_cons];exact(h 0 v c rfl rfl).append (RelL.flatten (by simpa using hl) fun i a b h1 h2=>h (i+1) a b (by simpa using h1) (by simpa using h2))
theorem namesL_flatten{vss:List (List V)}(h:∀vs∈vss,aC vs=[]):aC vss.flatten=[]:=cW.2 fun v hv=>by
 obtain⟨l,h1,h2⟩:=List.mem_flatten.1 hv;exact cW.1 (h l h1) v h2
theorem iZ{α β:Type}{R:Nat->α->β->Prop}:∀(xs:List α) (k:Nat),(∀(i:Nat) x,xs[i]?=some x->∃y,R (k+i) x y)->∃ys:List β,ys.length=xs.length/\∀(i:Nat) x y,xs[i]?=some x->ys[i]?=some y->R (k+i) x y
 |[],k,_=>⟨[],rfl,fun i x y h=>by simp at h⟩
 |x::r,k,h=>by
  obtain⟨y,hy⟩:=h 0 x rfl;obtain⟨ys,h1,h2⟩:=iZ r (k+1) fun i x' hi=>by
   obtain⟨y,hy⟩:=h (i+1) x' (by simpa using hi);exact⟨y,by rw[Nat.add_assoc,Nat.add_comm 1 i];exact hy⟩
  refine⟨y::ys,by simp[h1],fun i x' y' e1 e2=>?_⟩;cases i with
  |zero=>simp at e1 e2;subst e1 e2;exact hy
  |succ i=>
   simp at e1 e2;have:=h2 i x' y' e1 e2;rw[Nat.add_assoc,Nat.add_comm 1 i]at this;exact this
theorem aGs:∀(n z:Nat) (cs:List Value),cs.length=n*z->((List.range n).map fun i=>(cs.drop (i*z)).take z).flatten=cs
 |0,z,cs,h=>by
  rw[Nat.zero_mul]at h;rw[List.eq_nil_of_length_eq_zero h];rfl
 |n+1,z,cs,h=>by
  rw[List.range_succ_eq_map,List.map_cons,List.flatten_cons,List.map_map];have h2:(cs.drop z).length=n*z:=by rw[List.length_drop,h,Nat.succ_mul];omega
  have ih:=aGs n z (cs.drop z) h2;have e:(List.range n).map ((fun i=>(cs.drop (i*z)).take z) ∘ Nat.succ)=(List.range n).map fun i=>((cs.drop z).drop (i*z)).take z:=by
   refine List.map_congr_left fun i _=>?_
   simp only[Function.comp,List.drop_drop];congr 2;rw[Nat.succ_mul];omega
  rw[e,ih];simp
theorem mZ:∀(fs:List Field) (off n:Nat) (cs:List Value),zC P fs off n=true->cs.length=n->off<=n->(fs.map fun f=>(cs.drop f.offset).take (P.cellsOf f.type)).flatten=cs.drop off
 |[],off,n,cs,ht,hl,_=>by
  simp only[zC,beq_iff_eq]at ht;subst ht;rw[List.map_nil,List.flatten_nil,List.drop_of_length_le (by omega)]
 |f::r,off,n,cs,ht,hl,ho=>by
  simp only[zC,Bool.and_eq_true,beq_iff_eq]at ht;obtain⟨h1,h2⟩:=ht;have hle:∀(fs:List Field) (off:Nat),zC P fs off n=true->off<=n:=by
   intro fs
   induction fs with
   |nil=>intro off h;simp only[zC,beq_iff_eq]at h;omega
   |cons g s ih=>
    intro off h;simp only[zC,Bool.and_eq_true]at h;have:=ih _ h.2;omega
  have h3:=hle r _ h2;rw[List.map_cons,List.flatten_cons,mZ r _ n cs h2 hl h3,h1]
  conv=>rhs;rw[<-List.take_append_drop (P.cellsOf f.type) (cs.drop off),List.drop_drop]
theorem aHY:∀(fuel:Nat) {t:TypeId} {cs:List Value} {x:DataW H×List MemPlace} {d:Nat},DataW.trod enc P w base spare held fuel t cs=some x->okT P d t=true->
  ∃vs,RelL w (A1 w) [] vs cs/\TyC P t vs/\aC vs=[]:=by
 intro fuel
 induction fuel with
 |zero=>intro t cs x d h;simp[DataW.trod]at h
 |succ fuel ih=>
  intro t cs x d h hok;cases d with
  |zero=>cases hok
  |succ d=>
   simp only[okT]at hok;split at hok
   .rename_i hu;obtain⟨b,rfl,_⟩:=DataW.trod_bool hu h;exact⟨[.bool b],.cons _ _ _ _ (.bool b) .nil,.bool t b hu,rfl⟩
   .rename_i k hu;obtain⟨n,rfl,_,hw⟩:=DataW.trod_int hu h;simp[Lit.wf]at hw;exact⟨[.int k n],.cons _ _ _ _ (.int k n) .nil,.int t k n hu hw.1 hw.2,rfl⟩
   .rename_i hu;obtain⟨b,rfl,_,hl⟩:=DataW.trod_string hu h;exact⟨[.str b.data.toList],.cons _ _ _ _ (.str b) .nil,.str t _ hu (by simpa using hl),rfl⟩
   .rename_i e hu;simp only[Bool.and_eq_true,decide_eq_true_eq]at hok;rcases DataW.trod_slice hu h with⟨rfl,_⟩|⟨a,len,cap,elems,rest,m,hm,rfl,_,_,hlc,hcm,hel,hget,_⟩
    .exact⟨[.nils],.cons _ _ _ _ .nils .nil,.nils t e hu,rfl⟩
    .cases hm;have hone:∀(i:Nat) (j:Unit),(List.replicate len ())[i]?=some j->∃y:List Value×List V,w.cells? base (a.add (i*P.cellsOf e)) (P.cellsOf e)=some y.1/\RelL w (A1 w) [] y.2 y.1/\TyC P e y.2/\aC y.2=[]:=fun i j hi=>by
      have hil:i<len:=by have:=(List.getElem?_eq_some_iff.1 hi).1;simpa using this
      have hg:=hget i hil;rw[List.getElem?_eq_getElem (by omega)]at hg;obtain⟨c,h1,h2⟩:=Option.bind_eq_some_iff.1 hg;obtain⟨vs,k1,k2,k3⟩:=ih h2 hok.2;exact⟨(c,vs),h1,k1,k2,k3⟩
     obtain⟨ys,hy1,hy2⟩:=iZ (R:=fun i (_:Unit) (y:List Value×List V)=>w.cells? base (a.add (i*P.cellsOf e)) (P.cellsOf e)=some y.1/\RelL w (A1 w) [] y.2 y.1/\TyC P e y.2/\aC y.2=[]) (List.replicate len ()) 0 (fun i x hi=>by rw[Nat.zero_add];exact hone i x hi);have hyl:ys.length=len:=by rw[hy1];simp
     have hy:∀(i:Nat) y,ys[i]?=some y->w.cells? base (a.add (i*P.cellsOf e)) (P.cellsOf e)=some y.1/\RelL w (A1 w) [] y.2 y.1/\TyC P e y.2/\aC y.2=[]:=fun i y hi=>by
      have hil:=(List.getElem?_eq_some_iff.1 hi).1;have:=hy2 i () y (by rw[List.getElem?_replicate];simp;omega) hi
      rwa [Nat.zero_add]at this
     have hcl:∀(i:Nat) y,ys[i]?=some y->y.1.length=P.cellsOf e/\∀j u,y.1[j]?=some u->w.cell? (a.add (i*P.cellsOf e+j))=some u:=fun i y hi=>by
      have h1:=(hy i y hi).1;unfold World.cells? at h1;split at h1
      .obtain⟨q1,q2⟩:=aBo h1;refine⟨by simpa using q1,fun j u hj=>?_⟩;have hjl:=(List.getElem?_eq_some_iff.1 hj).1;rw[q1]at hjl;obtain⟨y',q3,q4⟩:=q2 j j (by simp at hjl;simp[hjl]);rw[hj]at q3;cases q3;rw[Go.Deep.add_add]at q4;exact q4
      .cases h1
     have hflen:∀(zs:List (List Value×List V)),(∀y∈zs,y.1.length=P.cellsOf e)->((zs.map (·.1)).flatten).length=zs.length*P.cellsOf e:=by
      intro zs
      induction zs with
      |nil=>intro _;simp
      |cons y r ihz=>
       intro hz;rw[List.map_cons,List.flatten_cons,List.length_append,ihz fun u hu=>hz u (List.mem_cons_of_mem _ hu),hz y List.mem_cons_self,List.length_cons,Nat.succ_mul];omega
     have hlen:=hflen ys fun y hy'=>by
      obtain⟨i,hi,he⟩:=List.getElem_of_mem hy';exact(hcl i y (by rw[List.getElem?_eq_getElem hi,he])).1
     rw[hyl]at hlen;have hrow:Row w a ((ys.map (·.1)).flatten):=by
      have gen:∀(zs:List (List Value×List V)) (k:Nat),(∀(i:Nat) y,zs[i]?=some y->y.1.length=P.cellsOf e/\∀j u,y.1[j]?=some u->w.cell? (a.add ((k+i)*P.cellsOf e+j))=some u)->∀j u,((zs.map (·.1)).flatten)[j]?=some u->w.cell? (a.add (k*P.cellsOf e+j))=some u:=by
       intro zs
       induction zs with
       |nil=>intro k _ j u hj;simp at hj
       |cons y r ihz=>
        intro k hz j u hj;obtain⟨z1,z2⟩:=hz 0 y rfl;rw[List.map_cons,List.flatten_cons]at hj;by_cases hjl:j<y.1.length
        .rw[List.getElem?_append_left hjl]at hj;exact z2 j u hj
        .rw[List.getElem?_append_right (by omega)]at hj;have:=ihz (k+1) (fun i y' hi=>by
          have:=hz (i+1) y' (by simpa using hi);rw[Nat.add_assoc,Nat.add_comm 1 i];exact this) _ u hj
         rw[Nat.succ_mul,z1,Nat.add_assoc,Nat.add_sub_cancel' (by omega)]at this;exact this
      intro j u hj;have:=gen ys 0 (fun i y hi=>by rw[Nat.zero_add];exact hcl i y hi) j u hj
      rwa [Nat.zero_mul,Nat.zero_add]at this
     have hrel:RelL w (A1 w) [] ((ys.map (·.2)).flatten) ((ys.map (·.1)).flatten):=RelL.flatten (by simp) fun i vs cs h1 h2=>by
      rw[List.getElem?_map]at h1 h2;cases hyi:ys[i]? with
      |none=>rw[hyi]at h1;cases h1
      |some y=>rw[hyi]at h1 h2;cases h1;cases h2;exact(hy i y hyi).2.1
     have hmem:∀vs∈ys.map (·.2),TyC P e vs/\aC vs=[]/\vs.length=P.cellsOf e:=fun vs hv=>by
      obtain⟨y,hym,rfl⟩:=List.mem_map.1 hv;obtain⟨i,hi,he⟩:=List.getElem_of_mem hym;have hyi:ys[i]?=some y:=by rw[List.getElem?_eq_getElem hi,he]
      obtain⟨_,q1,q2,q3⟩:=hy i y hyi;exact⟨q2,q3,by rw[q1.length];exact(hcl i y hyi).1⟩
     have hnames:aC ((ys.map (·.2)).flatten)=[]:=namesL_flatten fun vs hv=>(hmem vs hv).2.1
     have hml:(ys.map (·.2)).length=len:=by simp[hyl]
     refine⟨[.sl .none (P.cellsOf e) (ys.map (·.2)).length ((ys.map (·.2)).flatten)],.cons _ _ _ _ ?_ .nil,.sl t e _ hu hok.1 (by rw[hml];omega) (fun cs hcs=>(hmem cs hcs).1) (fun cs hcs=>(hmem cs hcs).2.2),by simp[aC,V.names,Lab.names]⟩;rw[hml];exact .sl _ _ _ _ a cap _ (zD hrow _ _ _) hok.1 hlen hlc hcm hrow hrel hnames
   .rename_i fs hu;simp only[Bool.and_eq_true]at hok;obtain⟨xs,m,hm,_,hl,hxl,hget⟩:=DataW.trod_struct hu h;cases hm;have hall:=hok.2;have hone:∀(i:Nat) (f:Field),fs.toList[i]?=some f->∃y:List V,RelL w (A1 w) [] y ((cs.drop f.offset).take (P.cellsOf f.type))/\TyC P f.type y/\aC y=[]:=fun i f hf=>by
     rw[Array.getElem?_toList]at hf;have hg:=hget i f hf;have hi:=(Array.getElem?_eq_some_iff.1 hf).1;rw[List.getElem?_eq_getElem (by omega)]at hg;rw[List.all_eq_true]at hall;exact ih hg (hall f (by obtain⟨h1,h2⟩:=Array.getElem?_eq_some_iff.1 hf;rw[<-h2];simp))
    obtain⟨ys,hy1,hy2⟩:=iZ (R:=fun _ (f:Field) (y:List V)=>RelL w (A1 w) [] y ((cs.drop f.offset).take (P.cellsOf f.type))/\TyC P f.type y/\aC y=[]) fs.toList 0 (fun i f hf=>hone i f hf);have hfl:=mZ fs.toList 0 (P.cellsOf t) cs hok.1 hl (Nat.zero_le _);rw[List.drop_zero]at hfl;refine⟨ys.flatten,?_,.struct t fs ys hu (by rw[hy1];simp) (fun i f c hf hc=>(hy2 i f c (by rw[Array.getElem?_toList];exact hf) hc).2.1),namesL_flatten fun vs hv=>?_⟩
    .rw[<-hfl];refine RelL.flatten (by rw[hy1];simp) fun i vs c h1 h2=>?_
     rw[List.getElem?_map]at h2;cases hf:fs.toList[i]? with
     |none=>rw[hf]at h2;cases h2
     |some f=>rw[hf]at h2;cases h2;exact(hy2 i f vs hf h1).1
    .obtain⟨i,hi,he⟩:=List.getElem_of_mem hv;have hif:i<fs.toList.length:=by omega
     exact(hy2 i _ vs (List.getElem?_eq_getElem hif) (by rw[List.getElem?_eq_getElem hi,he])).2.2
   .rename_i n e hu;simp only[Bool.and_eq_true,beq_iff_eq]at hok;obtain⟨xs,m,hm,_,hl,hxl,hget⟩:=DataW.trod_array hu h;cases hm;have hone:∀(i:Nat) (j:Unit),(List.replicate n ())[i]?=some j->∃y:List V,RelL w (A1 w) [] y ((cs.drop (i*P.cellsOf e)).take (P.cellsOf e))/\TyC P e y/\aC y=[]:=fun i j hi=>by
     have hil:i<n:=by have:=(List.getElem?_eq_some_iff.1 hi).1;simpa using this
     have hg:=hget i hil;rw[List.getElem?_eq_getElem (by omega)]at hg;exact ih hg hok.2
    obtain⟨ys,hy1,hy2⟩:=iZ (R:=fun i (_:Unit) (y:List V)=>RelL w (A1 w) [] y ((cs.drop (i*P.cellsOf e)).take (P.cellsOf e))/\TyC P e y/\aC y=[]) (List.replicate n ()) 0 (fun i x hi=>by rw[Nat.zero_add];exact hone i x hi);have hyl:ys.length=n:=by rw[hy1];simp
    have hy:∀(i:Nat) y,ys[i]?=some y->RelL w (A1 w) [] y ((cs.drop (i*P.cellsOf e)).take (P.cellsOf e))/\TyC P e y/\aC y=[]:=fun i y hi=>by
     have hil:=(List.getElem?_eq_some_iff.1 hi).1;have:=hy2 i () y (by rw[List.getElem?_replicate];simp;omega) hi
     rwa [Nat.zero_add]at this
    have hmem:∀vs∈ys,TyC P e vs/\aC vs=[]:=fun vs hv=>by
     obtain⟨i,hi,he⟩:=List.getElem_of_mem hv;exact(hy i vs (by rw[List.getElem?_eq_getElem hi,he])).2
    have hch:=aGs n (P.cellsOf e) cs (by rw[hl,hok.1]);refine⟨ys.flatten,?_,.array t n e ys hu hyl (fun c hc=>(hmem c hc).1),namesL_flatten fun vs hv=>(hmem vs hv).2⟩;rw[<-hch];refine RelL.flatten (by simp[hyl]) fun i vs c h1 h2=>?_
    rw[List.getElem?_map]at h2;cases hr:(List.range n)[i]? with
    |none=>rw[hr]at h2;cases h2
    |some j=>
     rw[hr]at h2;cases h2;have hin:i<n:=by have:=(List.getElem?_eq_some_iff.1 hr).1;simpa using this
     rw[List.getElem?_range hin]at hr;cases hr;exact(hy i vs h1).1
   .cases hok
def TyV(P:Program)(t:TypeId)(v:V):Prop:=
 match P.underlying t with
 |some (.struct _)|some (.array _ _)=>∃cs,v=.agg cs/\TyC P t cs
 |_=>TyC P t [v]
def aIX(P:Program):List TypeId->List V->Prop
 |[],[]=>True
 |t::ts,v::vs=>TyV P t v/\aIX P ts vs
 |_,_=>False
theorem aEG{v:Value}(h:∀xs,v≠.agg xs):v.cells.toList=[v]:=by
 cases v<;>first|rfl|exact absurd rfl (h _)
theorem aGA{t:TypeId}{v:Value}{dd:DataW H}{ps:List MemPlace}{b0:Nat}{d:Nat}(hval:Value.okWide P w .any b0 t v)(h:DataW.Trod enc P w base spare held t v dd ps)(hok:okT P d t=true):∃u,Rel w (A1 w) [] u v/\TyV P t u:=by
 obtain⟨fuel,hf⟩:=h;obtain⟨vs,h1,h2,h3⟩:=aHY fuel hf hok;have single:(∀xs,v≠.agg xs)->(∀u,TyC P t [u]->TyV P t u)->∃u,Rel w (A1 w) [] u v/\TyV P t u:=fun hv ht=>by
  rw[aEG hv]at h1;cases h1 with
  |cons u c r s k1 k2=>cases k2;exact⟨u,k1,ht u h2⟩
 have many:(∃cs,v=.agg cs)->(∀cs,TyC P t cs->TyV P t (.agg cs))->∃u,Rel w (A1 w) [] u v/\TyV P t u:=fun⟨cs,hv⟩ ht=>by
  subst hv;exact⟨.agg vs,.agg _ _ h1,ht vs h2⟩
 unfold Value.okWide at hval;cases d with
 |zero=>cases hok
 |succ d=>
  simp only[okT]at hok;split at hok
  .rename_i hu;rw[hu]at hval;exact single (by rintro xs rfl;simp[Cell.okWide,Cell.ok,hu]at hval) fun u hc=>by unfold TyV;rw[hu];exact hc
  .rename_i hu;rw[hu]at hval;exact single (by rintro xs rfl;simp[Cell.okWide,Cell.ok,hu]at hval) fun u hc=>by unfold TyV;rw[hu];exact hc
  .rename_i hu;rw[hu]at hval;exact single (by rintro xs rfl;simp[Cell.okWide,Cell.ok,hu]at hval) fun u hc=>by unfold TyV;rw[hu];exact hc
  .rename_i hu;rw[hu]at hval;exact single (by rintro xs rfl;simp[Cell.okWide,Cell.ok,hu]at hval) fun u hc=>by unfold TyV;rw[hu];exact hc
  .rename_i hu;rw[hu]at hval;obtain⟨cs,hv,_⟩:=hval;exact many ⟨cs,hv⟩ fun c hc=>by unfold TyV;rw[hu];exact⟨c,rfl,hc⟩
  .rename_i hu;rw[hu]at hval;obtain⟨cs,hv,_⟩:=hval;exact many ⟨cs,hv⟩ fun c hc=>by unfold TyV;rw[hu];exact⟨c,rfl,hc⟩
  .cases hok
theorem rN{b0:Nat}{d:Nat}:∀{ts:List TypeId} {vs:List Value} {ds:List (DataW H)} {ps:List MemPlace},DataW.TrodAll enc P w base spare held ts vs ds ps->(∀(j:Nat) t v,ts[j]?=some t->vs[j]?=some v->Value.okWide P w .any b0 t v)->(ts.all fun t=>okT P d t)=true->
  ∃us,RelL w (A1 w) [] us vs/\aIX P ts us
 |[],vs,ds,ps,h,_,_=>by
  obtain⟨rfl,_,_⟩:=trodAll_nil h;exact⟨[],.nil,trivial⟩
 |t::ts,vs,ds,ps,h,hv,hok=>by
  simp only[List.all_cons,Bool.and_eq_true]at hok;cases vs with
  |nil=>cases ds<;>exact h.elim
  |cons v vs=>
   cases ds with
   |nil=>exact h.elim
   |cons dd ds=>
    obtain⟨p,q,h1,h2,_⟩:=h;obtain⟨u,k1,k2⟩:=aGA (hv 0 t v rfl rfl) h1 hok.1;obtain⟨us,k3,k4⟩:=rN h2 (fun j t' v' e1 e2=>hv (j+1) t' v' (by simpa using e1) (by simpa using e2)) hok.2;exact⟨u::us,.cons _ _ _ _ k1 k3,k2,k4⟩
theorem trodAll_lens:∀{ts:List TypeId} {vs:List Value} {ds:List (DataW H)} {ps:List MemPlace},DataW.TrodAll enc P w base spare held ts vs ds ps->vs.length=ts.length/\ds.length=ts.length
 |[],vs,ds,ps,h=>by obtain⟨rfl,rfl,_⟩:=trodAll_nil h;exact⟨rfl,rfl⟩
 |t::ts,vs,ds,ps,h=>by
  cases vs with
  |nil=>cases ds<;>exact h.elim
  |cons v vs=>
   cases ds with
   |nil=>exact h.elim
   |cons d ds=>
    obtain⟨p,q,_,h2,_⟩:=h;obtain⟨k1,k2⟩:=trodAll_lens h2;exact⟨by simp[k1],by simp[k2]⟩
theorem trodAll_stays{W W':World}(hl:laidOutB P=true)(hb:Below W.heap.size W W'):∀{ts:List TypeId} {vs:List Value} {ds:List (DataW H)} {ps:List MemPlace},DataW.TrodAll enc P W 0 (fun _=>true) true ts vs ds ps->
  (ts.all fun t=>P.readableRec t&&decide (t<P.types.size))=true->(∀x∈ps,x.block<W.heap.size)->DataW.TrodAll enc P W' 0 (fun b=>decide (b<W.heap.size)) true ts vs ds ps
 |[],vs,ds,ps,h,_,_=>by obtain⟨rfl,rfl,rfl⟩:=trodAll_nil h;rfl
 |t::ts,vs,ds,ps,h,hr,hlt=>by
  simp only[List.all_cons,Bool.and_eq_true,decide_eq_true_eq]at hr;cases vs with
  |nil=>cases ds<;>exact h.elim
  |cons v vs=>
   cases ds with
   |nil=>exact h.elim
   |cons d ds=>
    obtain⟨p,q,h1,h2,rfl⟩:=h;exact⟨p,q,Below.trod hl hr.1.1 hr.1.2 h1 hb (fun x hx=>hlt x (List.mem_append.2 (.inl hx))),trodAll_stays hl hb h2 (by simpa using hr.2) (fun x hx=>hlt x (List.mem_append.2 (.inr hx))),rfl⟩
end
theorem aBD{P:Program}{F:Nat->Option Entry}(hF:rJ Ω P F){f n:Nat}{vs:List V}{cs:List Value}{W:World}{vf:VF}(hΩ:∀w':World,(∀b,b<W.heap.size->w'.heap[b]?=W.heap[b]?)->Ω w')(hf:F f=some (.code vf))(hc:call F n f vs []=some (.bool true,[]))(hr:RelL W (A1 W) [] vs cs) :
  Calls P f cs.toArray W fun e W'=>e=.returned (.bool true)/\Below W.heap.size W W':=by
 obtain⟨fn,hh,h1,h2⟩:=hF f _ hf;obtain⟨c,hb,_,_,_,_,_,hname⟩:=iY h2;have hst:Start Ω (tM W) W vs cs []:=by
  refine⟨aFz W hΩ,fun b s c h=>?_,fun b nm h=>?_,hr,rfl,fun i ds hi=>by simp at hi⟩
  all_goals
   simp only[tM]at h;split at h<;>cases h
 rcases aCn hF n f vs [] _ _ hc rfl (tM W) W cs hst with⟨_,h3⟩|⟨c',w',h3,_⟩
 .refine h3.mono fun e W' ⟨c',e1,rcs,G',lk,e2,hR⟩=>?_
  have hres:=hR.res;cases hres with
  |cons v c2 vs2 cs2 k1 k2=>
   cases k2;have:=Rel.bool_inv k1;subst this;refine⟨by rw[e1,e2];rfl,hR.fr.os,hR.fr.tape,hR.fr.output,hR.fr.size,fun k hk=>(hR.fr.rest k hk ?_).1⟩;simp only[tM];cases hw:W.heap[k]? with
   |none=>exact .inl rfl
   |some ob=>cases ob<;>exact .inr ⟨_,rfl⟩
 .exfalso;unfold callFunc at h3;have hp:(Go.program:Sem Program).run P W=.ok P W:=rfl;rw[Sem.run_bind,hp,Result.andThen_ok,h1]at h3;simp only at h3;rw[if_neg (by rw[hname];simp),if_neg (by rw[hb];simp)]at h3;cases h3
end Go.VM
namespace Go.VM
open Go.RowKit Go.ChangeShapes Go.WideShapes
variable{Ω:World->Prop}
section
variable{H:Type}{enc:TypeId×Value->H}{P:Program}
theorem aF5{F:Nat->Option Entry}(hF:rJ Ω P F){f tb:Nat}{fn:Func}{vf:VF}{s:ChangeSpec}{apart fresh handsOn:Bool}(hf:F f=some (.code vf))(hl:laidOutB P=true)
  (hps:(fn.params.toList.all fun t=>okT P 30 t)=true) (hrd:(fn.params.toList.all fun t=>P.readableRec t&&decide (t<P.types.size))=true) (hres:fn.resultTypes.toList=[tb]) (htb:P.underlying tb=some .bool) (hvars:s.vars=[])
  (hspec:∀(ds:List (DataW H)),ds.length=fn.params.toList.length->s.fn H ds={results:=[.lit (.bool true)],args:=ds}) (hlaw:∀vs,aIX P fn.params.toList vs->∃n,call F n f vs []=some (.bool true,[]))
  {W:World} (hΩ:∀w':World,(∀b,b<W.heap.size->w'.heap[b]?=W.heap[b]?)->Ω w') {base:Nat} {args:Array Value} {ds gs:List (DataW H)} {before:List MemPlace} (hval:∀(j:Nat) t v,fn.params[j]?=some t->args[j]?=some v->Value.okWide P W .any base t v)
  (hW:DataW.Whole enc P fn.params.toList s.vars apart W args.toList ds gs before) :
  Calls P f args W fun e W'=>∃v,e=.returned v/\s.post enc P fn apart fresh handsOn false W args v W':=by
 have hW0:=hW;have hlt:=hW.lt;rw[hvars]at hW;obtain⟨p,q,hA,hV,rfl,_,_⟩:=hW;obtain⟨rfl,rfl⟩:=trodVars_none hV;obtain⟨us,k1,k2⟩:=rN hA (fun j t v h1 h2=>hval j t v (by rw[<-Array.getElem?_toList];exact h1) (by rw[<-Array.getElem?_toList];exact h2)) hps;have hds:=(trodAll_lens hA).2;obtain⟨n,hcall⟩:=hlaw us k2;have hc:=aBD hF (cs:=args.toList) hΩ hf hcall k1;refine hc.mono fun e W' ⟨he,hb⟩=>⟨_,he,ds,[],p++[],[],p,[],hW0,?_,?_,?_,hb.frame _,fun hh=>by cases hh⟩
 .rw[List.append_nil,hspec ds hds,hres];have hsz:fn.resultTypes.size=1:=by
   have:=congrArg List.length hres;simpa using this
  have hrl:(Value.bool true).resultList fn.resultTypes.size=[.bool true]:=by
   rw[hsz];rfl
  rw[hrl];exact⟨[],[],⟨1,by simp[DataW.trod,Value.cells,htb]⟩,rfl,rfl⟩
 .rw[List.append_nil,hspec ds hds];refine trodAll_stays hl hb hA hrd fun x hx=>hlt x (List.mem_append.2 (.inl hx))
 .rw[List.append_nil,hspec ds hds,hvars];exact rfl
end
end Go.VM
namespace Go.VM
open Go.RowKit
variable{Ω:World->Prop}
end Go.VM
namespace Go.VM
section
variable{P:Program}{t:TypeId}{cs:List V}{v:V}
theorem wE(h:TyC P t cs)(hu:P.underlying t=some .bool):∃b,cs=[.bool b]:=by
 cases h with
 |bool _ b _=>exact⟨b,rfl⟩
 |_=>simp_all
theorem aBE{k:IntKind}(h:TyC P t cs)(hu:P.underlying t=some (.int k)):∃n,cs=[.int k n]/\k.min<=n/\n<=k.max:=by
 cases h with
 |int _ k' n h1 h2 h3=>rw[hu]at h1;cases h1;exact⟨n,rfl,h2,h3⟩
 |_=>simp_all
theorem aBF(h:TyC P t cs)(hu:P.underlying t=some .string):∃s,cs=[.str s]/\s.length<=maxLen:=by
 cases h with
 |str _ s _ h2=>exact⟨s,rfl,h2⟩
 |_=>simp_all
theorem rP{e:TypeId}(h:TyC P t cs)(hu:P.underlying t=some (.slice e)) :
  cs=[.nils]\/∃css:List (List V),cs=[.sl .none (P.cellsOf e) css.length css.flatten]/\0<P.cellsOf e/\css.length<=maxLen/\(∀c,c∈css->TyC P e c)/\∀c,c∈css->c.length=P.cellsOf e:=by
 cases h with
 |nils=>exact .inl rfl
 |sl _ e' css h1 h2 h3 h4 h5=>rw[hu]at h1;cases h1;exact .inr ⟨css,rfl,h2,h3,h4,h5⟩
 |_=>simp_all
def aIY(P:Program):List TypeId->List (List V)->Prop
 |[],css=>css=[]
 |t::ts,css=>∃c r,css=c::r/\TyC P t c/\aIY P ts r
theorem aEK:∀{fs:List Field} {css:List (List V)},css.length=fs.length->(∀(i:Nat) f c,fs[i]?=some f->css[i]?=some c->TyC P f.type c)->aIY P (fs.map (·.type)) css
 |[],css,hl,_=>List.eq_nil_of_length_eq_zero hl
 |f::fs,[],hl,_=>by simp at hl
 |f::fs,c::css,hl,h=>⟨c,css,rfl,h 0 f c rfl rfl,aEK (by simpa using hl) fun i f c h1 h2=>h (i+1) f c (by simpa using h1) (by simpa using h2)⟩
theorem uL{fs:Array Field}(h:TyC P t cs)(hu:P.underlying t=some (.struct fs)):∃css,cs=css.flatten/\aIY P (fs.toList.map (·.type)) css:=by
 cases h with
 |struct _ fs' css h1 h2 h3=>
  rw[hu]at h1;cases h1;exact⟨css,rfl,aEK (by simpa using h2) fun i f c k1 k2=>h3 i f c (by simpa using k1) k2⟩
 |_=>simp_all
theorem zF{n:Nat}{e:TypeId}(h:TyC P t cs)(hu:P.underlying t=some (.array n e)):∃css:List (List V),cs=css.flatten/\css.length=n/\∀c∈css,TyC P e c:=by
 cases h with
 |array _ n' e' css h1 h2 h3=>rw[hu]at h1;cases h1;exact⟨css,rfl,h2,h3⟩
 |_=>simp_all
end
end Go.VM
namespace Go.VM
open Go.RowKit
variable{Ω:World->Prop}
def kC:List V->Option (List (List UInt8))
 |[]=>some []
 |.str s::r=>(kC r).map (s::·)
 |_::_=>none
theorem wF{w:World}{A:Pl}{B:List Nat}:∀{vs:List V} {cs:List Value} {ss:List (List UInt8)},RelL w A B vs cs->kC vs=some ss->∃xs:List ByteArray,cs=xs.map .string/\xs.map (·.data.toList)=ss
 |[],_,ss,h,hs=>by
  cases h;cases hs;exact⟨[],rfl,rfl⟩
 |v::r,_,ss,h,hs=>by
  cases h with
  |cons _ c _ cs h1 h2=>
   cases v with
   |str s=>
    simp only[kC,Option.map_eq_some_iff]at hs;obtain⟨ss',k1,rfl⟩:=hs;obtain⟨t,rfl,rfl⟩:=h1.str_inv;obtain⟨xs,rfl,rfl⟩:=wF h2 k1;exact⟨t::xs,rfl,rfl⟩
   |_=>cases hs
section
variable{P:Program}{f:Nat}{fn:Func}{c:Code}(hf:P.funcs[f]?=some fn)(hb:fn.body=some c)(hname:(fn.name == "runtime.NumGoroutine")=false)
include hf hb hname
end
end Go.VM
namespace Go.VM
theorem pV{n:Int}(h:-9223372036854775808<=n)(h2:n<=9223372036854775807):IntKind.i64.wrap n=n:=qP h h2
end Go.VM
namespace Go.VM
open Go.RowKit
variable{Ω:World->Prop}
def aGu(w w':World):Pl
 |.none,a,len,_,_,_=>len=0\/(w.heap.size<=a.block/\∃cs e fr,w'.heap[a.block]?=some (.cells cs e fr)/\a.off+len<=cs.size)
 |_,_,_,_,_,_=>False
def aEM(G:Gh)(w w':World):Gh:={G with Z:=fun b=>if b<w.heap.size then G.Z b else match w'.heap[b]? with
 |some (.cells cs _ _)=>.st cs.size
 |_=>.out}
theorem newG_old{G:Gh}{w w':World}{b:Nat}(h:b<w.heap.size):(aEM G w w').Z b=G.Z b:=by simp only[aEM,if_pos h]
theorem wG{G:Gh}{w w':World}(_:GOk Ω G w){b:Nat}{z:Zn}(h:(aEM G w w').Z b=z)(hz:z≠.out)(hs:∀n,z≠.st n):G.Z b=z/\b<w.heap.size:=by
 by_cases hb:b<w.heap.size
 .rw[newG_old hb]at h;exact⟨h,hb⟩
 .simp only[aEM,if_neg hb]at h;split at h
  .exact absurd h.symm (hs _)
  .exact absurd h.symm hz
abbrev Abk(G:Gh)(w w':World):Pl:=AtR (aEM G w w') (fun nm=>decide (nm<64)) w'
theorem ret_mix{G:Gh}{w w':World}{vs:List V}{cs:List Value}{bx:BX}{rs:List V}{rcs:List Value}(hs:Start Ω G w vs cs bx)(hb:Below w.heap.size w w')(hrel:RelL w' (Abk G w w') G.bxB rs rcs)(hflat:∀v∈rs,v.flat=true) :
  Ret Ω G w (aEM G w w') (fun nm=>decide (nm<64)) w' rs rcs bx bx:=by
 have hout:∀b,¬b<w.heap.size->G.Z b=.out:=fun b hb=>by
  by_cases ho:G.Z b=.out
  .exact ho
  .exact absurd (hs.ok.lt b ho) hb
 have hnx:=hs.ok.next (G':=aEM G w w') (w':=w') (fun b h1 h2=>⟨Nat.lt_of_lt_of_le h2 hb.size,hb.block b h2,by rw[newG_old h2];exact h1⟩) rfl;have hlt:∀b,G.Z b≠.out->w'.heap[b]?=w.heap[b]?:=fun b h=>hb.block b (hs.ok.lt b h)
 have hcell:∀(a:Addr),G.Z a.block≠.out->∀j,w'.cell? (a.add j)=w.cell? (a.add j):=fun a ha j=>by
  unfold World.cell?;rw[bM,hlt _ ha]
 have hz:∀b,G.Z b≠.out->(aEM G w w').Z b=G.Z b:=fun b h=>newG_old (hs.ok.lt b h)
 have hkB:jV w w' (A0 G w) (AtR (aEM G w w') (fun nm=>decide (nm<64)) w') G.bxB G.bxB:=⟨fun l a len z n cap hl ha=>by
  cases l with
  |none=>
   rcases ha with ha|ha|⟨nm,q1,q2,q3⟩
   .exact⟨.inl ha,fun j hj=>by omega⟩
   .obtain⟨n',q1,q2⟩:=ha;exact⟨.inr (.inl ⟨n',by rw[hz _ (by rw[q1];simp)];exact q1,q2⟩),fun j _=>hcell a (by rw[q1];simp) j⟩
   .exact⟨.inr (.inr ⟨nm,q1,by rw[hz _ (by rw[q2];simp)];exact q2,q3⟩),fun j _=>hcell a (by rw[q2];simp) j⟩
  |rv s c v=>exact absurd ha (by simp[A0,At])
  |_=>simp[Lab.names]at hl,fun i blk h=>h⟩
 refine⟨⟨fun b h=>?_,fun b nm h=>?_,fun b nm h=>?_,fun b s c h=>?_,hnx.1,hnx.2⟩,⟨hb.os,hb.tape,hb.output,hb.size,fun b hbs _=>⟨hb.block b hbs,newG_old hbs⟩,fun b nm _ h=>⟨fun x hx _=>?_,.inl ⟨by rw[hz _ (by rw[h];simp)];exact h,Nat.le_refl _⟩⟩,fun _ _ h=>h⟩,fun i h=>?_,hrel,hflat,⟨hs.boxes.1,fun i ds hi=>?_⟩,Nat.le_refl _⟩
 .by_cases hbs:b<w.heap.size
  .exact Nat.lt_of_lt_of_le hbs hb.size
  .simp only[aEM,if_neg hbs]at h;split at h
   .rename_i q;exact(Array.getElem?_eq_some_iff.1 q).1
   .exact absurd rfl h
 .exact hs.ok.famU b nm (wG hs.ok h (by simp) (by simp)).1
 .obtain⟨h,hbs⟩:=wG hs.ok h (by simp) (by simp);obtain⟨cur,e,q1,q2⟩:=hs.ok.famC b nm h;exact⟨cur,e,by rw[hb.block b hbs];exact q1,q2⟩
 .exact hs.ok.rgU b s c (wG hs.ok h (by simp) (by simp)).1
 .unfold World.cell?;rw[hx,hlt b (by rw[h];simp)]
 .simp only[decide_eq_true_eq]at h;omega
 .obtain⟨k1,b,k2,k3,xs,e,k4,k5⟩:=hs.boxes.2 i ds hi;exact⟨k1,b,k2,(hz b (by rw[k3];simp)).trans k3,xs,e,by rw[hlt b (by rw[k3];simp)];exact k4,k5.keepB hkB k1⟩
theorem aHZ{G:Gh}{w w':World}{vs:List V}{cs:List Value}{bx:BX}{rs:List V}{rcs:List Value}(hs:Start Ω G w vs cs bx)(hb:Below w.heap.size w w')(hrel:RelL w' (aGu w w') [] rs rcs)(hflat:∀v∈rs,v.flat=true) :
  Ret Ω G w (aEM G w w') (fun nm=>decide (nm<64)) w' rs rcs bx bx:=by
 have hk2:aCJ w' w' (aGu w w') (Abk G w w') [] G.bxB:=⟨fun l a len z n cap ha=>by
  cases l with
  |none=>
   refine⟨?_,fun _ _=>rfl⟩;rcases ha with ha|⟨h1,cur,e,fr,h2,h3⟩
   .exact .inl ha
   .refine .inr (.inl ⟨cur.size,?_,h3⟩);simp only[aEM,if_neg (Nat.not_lt.2 h1),h2]
  |_=>exact ha.elim,fun i blk h=>by simp at h⟩
 exact ret_mix hs hb (hrel.keep hk2) hflat
theorem primOk_mix{P:Program}{f:Nat}{cons:List Nat}{p:List V->Option V}{fn:Func}{c:Code}(hf:P.funcs[f]?=some fn)(hb:fn.body=some c)(hname:(fn.name == "runtime.NumGoroutine")=false)
  (h:∀vs v,p vs=some v->∀G w cs bx,Start Ω G w vs cs bx->Calls P f cs.toArray w fun e w'=>∃rcs,e=.returned (vT rcs)/\Below w.heap.size w w'/\RelL w' (Abk G w w') G.bxB v.results rcs)
  (hreg:∀vs v,p vs=some v->∀u∈v.results,aN u=false/\u.flat=true):PrimOk Ω P f cons p:=by
 refine⟨fun vs v hp u hu=>(hreg vs v hp u hu).1,fun vs v hp G w cs bx hs=>.inl ⟨?_,?_⟩⟩
 .unfold callFunc;have hp:(Go.program:Sem Program).run P w=.ok P w:=rfl;rw[Sem.run_bind,hp,Result.andThen_ok,hf];simp only;rw[if_neg (by rw[hname];simp),if_neg (by rw[hb];simp)];rfl
 .refine(h vs v hp G w cs bx hs).mono fun e w' ⟨rcs,he,hb,hr⟩=>⟨vT rcs,he,rcs,_,_,rfl,ret_mix hs hb hr fun u hu=>(hreg vs v hp u hu).2⟩
theorem aCo{P:Program}{f:Nat}{cons:List Nat}{p:List V->Option V}{fn:Func}{c:Code}(hf:P.funcs[f]?=some fn)(hb:fn.body=some c)(hname:(fn.name == "runtime.NumGoroutine")=false)
  (h:∀vs v,p vs=some v->∀G w cs bx,Start Ω G w vs cs bx->Calls P f cs.toArray w fun e w'=>∃rcs,e=.returned (vT rcs)/\Below w.heap.size w w'/\RelL w' (aGu w w') [] v.results rcs)
  (hreg:∀vs v,p vs=some v->∀u∈v.results,aN u=false/\u.flat=true):PrimOk Ω P f cons p:=by
 refine⟨fun vs v hp u hu=>(hreg vs v hp u hu).1,fun vs v hp G w cs bx hs=>.inl ⟨?_,?_⟩⟩
 .unfold callFunc;have hp:(Go.program:Sem Program).run P w=.ok P w:=rfl;rw[Sem.run_bind,hp,Result.andThen_ok,hf];simp only;rw[if_neg (by rw[hname];simp),if_neg (by rw[hb];simp)];rfl
 .refine(h vs v hp G w cs bx hs).mono fun e w' ⟨rcs,he,hb,hr⟩=>⟨vT rcs,he,rcs,_,_,rfl,aHZ hs hb hr fun u hu=>(hreg vs v hp u hu).2⟩
theorem Start.world{G:Gh}{w:World}{vs:List V}{cs:List Value}{bx:BX}(h:Start Ω G w vs cs bx):Ω w:=h.ok.inv w fun _ _=>rfl
end Go.VM
namespace Go.VM
open Go.RowKit
variable{Ω:World->Prop}
inductive FA where
 |b (x:Bool)
 |i (k:IntKind) (n:Int)
 |s (l:List UInt8)
 |e (t:TypeId) (x:Bool)
 |r (l:List (List UInt8))
def V.fa:V->Option FA
 |.bool x=>some (.b x)
 |.int k n=>some (.i k n)
 |.str l=>some (.s l)
 |.nils=>some (.r [])
 |.sl _ 1 _ cs=>(kC cs).map .r
 |_=>none
def aCp:List V->Option (List FA)
 |[]=>some []
 |v::r=>match v.fa,aCp r with
  |some x,some l=>some (x::l)
  |_,_=>none
def FA.v:FA->V
 |.b x=>.bool x
 |.i k n=>.int k n
 |.s l=>.str l
 |.e _ false=>.nili
 |.e t true=>.iface t .undef
 |.r l=>.sl .none 1 l.length (l.map .str)
def pF(g:List FA->Option (List FA))(vs:List V):Option V:=match aCp vs with
 |some xs=>(g xs).map fun ys=>packed (ys.map FA.v)
 |none=>none
def FA.arg(w:World):FA->Value->Prop
 |.b x,c=>c=.bool x
 |.i k n,c=>c=.int k n
 |.s l,c=>∃t:ByteArray,c=.string t/\t.data.toList=l
 |.e ..,_=>False
 |.r l,c=>(∃a k,c=.slice a 0 k/\l=[])\/∃(b o k:Nat) (xs:List ByteArray),c=.slice (some ⟨b,o,none⟩) xs.length k/\xs.map (·.data.toList)=l/\xs≠[]/\xs.length<=k/\k<=maxLen/\b<w.heap.size/\∀(j:Nat) x,xs[j]?=some x->w.cell? ⟨b,o+j,none⟩=some (.string x)
def FA.res(w w':World):FA->Value->Prop
 |.b x,c=>c=.bool x
 |.i k n,c=>c=.int k n
 |.s l,c=>∃t:ByteArray,c=.string t/\t.data.toList=l
 |.e _ false,c=>c=.nilIface
 |.e t true,c=>∃p,c=.iface t p
 |.r l,c=>∃(b k:Nat) (xs:List ByteArray) (cs:Array Value) (e:TypeId) (fr:Nat×Nat),c=.slice (some ⟨b,0,none⟩) xs.length k/\xs.map (·.data.toList)=l/\xs.length<=k/\k<=maxLen/\w.heap.size<=b/\w'.heap[b]?=some (.cells cs e fr)/\xs.length<=cs.size/\∀(j:Nat) x,xs[j]?=some x->cs[j]?=some (.string x)
def aI1{α β:Type}(R:α->β->Prop):List α->List β->Prop
 |[],cs=>cs=[]
 |x::l,cs=>∃c r,cs=c::r/\R x c/\aI1 R l r
theorem aI2{w:World}{A:Pl}{B:List Nat}{v:V}{c:Value}{x:FA}(h:Rel w A B v c)(hx:v.fa=some x):x.arg w c:=by
 cases v with
 |bool b=>cases hx;exact h.bool_inv
 |int k n=>cases hx;exact h.int_inv
 |str l=>
  cases hx;obtain⟨t,h1,h2⟩:=h.str_inv;exact⟨t,by first|exact h1|exact h2,by first|exact h2|exact h2.symm|exact h1.symm⟩
 |nils=>cases hx;exact .inl ⟨none,0,h.nils_inv,rfl⟩
 |sl l z n cs=>
  match z,hx with
  |1,hx=>
   obtain⟨ss,hss,rfl⟩:=Option.map_eq_some_iff.1 (show(kC cs).map FA.r=some x from hx);obtain⟨a,cap,xs,rfl,ha,hz,hxs,hcap,hmax,hrow,hrel,hnm⟩:=h.sl_inv;obtain⟨ys,rfl,rfl⟩:=wF hrel hss;rw[Nat.mul_one,List.length_map]at hxs;subst hxs;cases hys:ys with
   |nil=>exact .inl ⟨some a,cap,rfl,rfl⟩
   |cons y r=>
    have hj:∀(j:Nat) x,ys[j]?=some x->w.cell? (a.add j)=some (.string x):=fun j x hx=>hrow j _ (by rw[List.getElem?_map,hx];rfl)
    have h0:=hj 0 y (by rw[hys];rfl);obtain⟨blk,off,sp⟩:=a;have hsp:sp=none/\blk<w.heap.size:=by
     unfold World.cell? at h0;rw[bM]at h0;split at h0
     .rename_i c e fr hh;split at h0
      .cases h0
      .rename_i hns;refine⟨by cases sp with
        |none=>rfl
        |some q=>exact absurd rfl hns,(Array.getElem?_eq_some_iff.1 hh).1⟩
     .cases h0
    obtain⟨rfl,hlt⟩:=hsp;rw[<-hys];refine .inr ⟨blk,off,cap,ys,rfl,rfl,by rw[hys];simp,hcap,hmax,hlt,fun j x hx=>?_⟩;have:=hj j x hx
    rwa [show(Addr.add ⟨blk,off,none⟩ j)=⟨blk,off+j,none⟩from by unfold Addr.add;split<;>simp_all]at this
 |_=>cases hx
theorem aBp{w:World}{A:Pl}{B:List Nat}:∀{vs:List V} {cs:List Value} {xs:List FA},RelL w A B vs cs->aCp vs=some xs->aI1 (FA.arg w) xs cs
 |[],_,_,h,hx=>by cases hx;cases h;rfl
 |v::r,_,_,h,hx=>by
  cases h with
  |cons _ c _ cs h1 h2=>
   unfold aCp at hx;split at hx
   .rename_i x l e1 e2;cases hx;exact⟨c,cs,rfl,aI2 h1 e1,aBp h2 e2⟩
   .cases hx
theorem aI3{w w':World}{x:FA}{c:Value}(h:x.res w w' c):Rel w' (aGu w w') [] x.v c:=by
 cases x with
 |b x=>cases h;exact .bool _
 |i k n=>cases h;exact .int _ _
 |s l=>
  obtain⟨t,rfl,rfl⟩:=h;exact .str t
 |e t x=>
  cases x with
  |false=>cases h;exact .nili
  |true=>
   obtain⟨p,rfl⟩:=h;exact .iface t .undef p (.undef p) rfl
 |r l=>
  obtain⟨b,k,xs,cs,e,fr,rfl,rfl,h1,h2,h3,h4,h5,h6⟩:=h;have hl:∀l:List ByteArray,RelL w' (aGu w w') [] ((l.map (·.data.toList)).map V.str) (l.map Value.string):=fun l=>by
   induction l with
   |nil=>exact .nil
   |cons t r ih=>exact .cons _ _ _ _ (.str t) ih
  have hn:∀l:List (List UInt8),aC (l.map V.str)=[]:=fun l=>by
   induction l with
   |nil=>rfl
   |cons t r ih=>simp[aC,V.names,ih]
  have:=Rel.sl (w:=w') (A:=aGu w w') (B:=[]) .none 1 (xs.map (·.data.toList)).length ((xs.map (·.data.toList)).map V.str) ⟨b,0,none⟩ k (xs.map Value.string)
   (by
    refine .inr ⟨h3,cs,e,fr,h4,?_⟩;rw[List.length_map,Nat.zero_add];exact h5) (by decide) (by simp) (by rw[List.length_map];exact h1) h2 (fun j u hu=>by
    rw[List.getElem?_map]at hu;obtain⟨t,ht,rfl⟩:=Option.map_eq_some_iff.1 hu;have h7:=h6 j t ht;unfold World.cell?;rw[show(Addr.add ⟨b,0,none⟩ j)=⟨b,j,none⟩from by unfold Addr.add;split<;>simp_all];rw[h4];simp[h7]) (hl xs) (hn _)
  rw[List.length_map]at this;show Rel w' (aGu w w') [] (.sl .none 1 (xs.map (·.data.toList)).length ((xs.map (·.data.toList)).map .str)) _;rw[List.length_map];exact this
theorem aEN{w w':World}:∀{ys:List FA} {rcs:List Value},aI1 (FA.res w w') ys rcs->RelL w' (aGu w w') [] (ys.map FA.v) rcs
 |[],_,h=>by cases h;exact .nil
 |y::r,_,⟨c,cs,e,h1,h2⟩=>by subst e;exact .cons _ _ _ _ (aI3 h1) (aEN h2)
theorem wH(x:FA):aN x.v=false/\x.v.flat=true/\∀vs,x.v≠.tup vs:=by
 cases x with
 |e t x=>cases x<;>exact⟨rfl,rfl,fun _ h=>by cases h⟩
 |_=>exact⟨rfl,rfl,fun _ h=>by cases h⟩
theorem iI(ys:List FA):(packed (ys.map FA.v)).results=ys.map FA.v:=by
 match ys with
 |[]=>rfl
 |[y]=>
  show y.v.results=[y.v];cases h:y.v with
  |tup us=>exact absurd h ((wH y).2.2 us)
  |_=>rfl
 |_::_::_=>rfl
theorem lY{P:Program}{f:Nat}{g:List FA->Option (List FA)}{fn:Func}{c:Code}(hf:P.funcs[f]?=some fn)(hb:fn.body=some c)(hname:(fn.name == "runtime.NumGoroutine")=false)
  (hc:∀xs ys,g xs=some ys->∀w cs,Ω w->aI1 (FA.arg w) xs cs->Calls P f cs.toArray w fun e w'=>∃rcs,e=.returned (vT rcs)/\Below w.heap.size w w'/\aI1 (FA.res w w') ys rcs):PrimOk Ω P f [] (pF g):=by
 refine aCo hf hb hname (fun vs v hp G w cs bx hs=>?_) fun vs v hp u hu=>?_
 .unfold pF at hp;split at hp
  .rename_i xs hx;obtain⟨ys,hy,rfl⟩:=Option.map_eq_some_iff.1 hp;refine(hc xs ys hy w cs hs.world (aBp hs.args hx)).mono fun e w' ⟨rcs,h1,h2,h3⟩=>⟨rcs,h1,h2,?_⟩
   rw[iI];exact aEN h3
  .cases hp
 .unfold pF at hp;split at hp
  .obtain⟨ys,hy,rfl⟩:=Option.map_eq_some_iff.1 hp;rw[iI]at hu;obtain⟨y,_,rfl⟩:=List.mem_map.1 hu;exact⟨(wH y).1,(wH y).2.1⟩
  .cases hp
end Go.VM
namespace Go.VM
open Go.RowKit
variable{Ω:World->Prop}
def aH0:List FA->Option (List FA)
 |[.s a,.s b]=>if a.length<=9223372036854775807/\b.length<4294967281/\(b.all fun b=>decide (b.toNat<128))=true then some [.s (Lib.trimS a b)]else none
 |_=>none
theorem bsz(s:ByteArray):s.data.toList.length=s.size:=by simp
theorem wJ{l:List UInt8}(h:(l.all fun b=>decide (b.toNat<128))=true):∀(j:Nat) b,l[j]?=some b->b.toNat<128:=
 fun _ b hb=>of_decide_eq_true (List.all_eq_true.1 h b (List.mem_of_getElem? hb))
section
variable{P:Program}{f:Nat}{fn:Func}{c:Code}(hf:P.funcs[f]?=some fn)(hb:fn.body=some c)(hname:(fn.name == "runtime.NumGoroutine")=false)
include hf hb hname
theorem aJK(hc:∀(s t:ByteArray) (w:World),s.size<=9223372036854775807->t.size<4294967281->(∀(j:Nat) b,t.data.toList[j]?=some b->b.toNat<128)->Calls P f #[.string s,.string t] w fun e w'=>e=.returned (.string ⟨(Lib.trimS s.data.toList t.data.toList).toArray⟩)/\Below w.heap.size w w'):PrimOk Ω P f [] (pF aH0):=by
 refine lY hf hb hname fun xs ys hg w cs hw ha=>?_
 unfold aH0 at hg;split at hg
 .split at hg
  .rename_i hs;cases hg;obtain⟨_,_,rfl,⟨s,rfl,rfl⟩,_,_,rfl,⟨t,rfl,rfl⟩,rfl⟩:=ha;rw[bsz,bsz]at hs;exact(hc s t w hs.1 hs.2.1 (wJ hs.2.2)).mono fun e w' ⟨h1,h2⟩=>⟨[.string _],h1,h2,_,_,rfl,⟨_,rfl,rfl⟩,rfl⟩
  .cases hg
 .cases hg
end
end Go.VM
namespace Go.VM
open Go.RowKit Go.ChangeShapes Go.WideShapes
def Om(P:Program)(pw er:Bool)(tz:Option (List Int))(w:World):Prop:=
 w.ShapedOpen P/\(pw=true->Lib.TabIs P w "internal/strconv.uint64pow10" .u64 Lib.pow10Tab)/\
  (er=true->(∃tp p,w.var? P "strconv.ErrSyntax" = some #[.iface tp p])/\∃tp p,w.var? P "strconv.ErrRange" = some #[.iface tp p])/\∀l,tz=some l->Lib.TabIs P w "math/bits.deBruijn64tab" .u8 l
theorem nC{P:Program}{W w:World}(h:∀b,b<W.heap.size->w.heap[b]?=W.heap[b]?){n:String}{cs:Array Value}(hv:W.var? P n=some cs):w.var? P n=some cs:=by
 unfold World.var? at hv ⊢;obtain⟨g,h1,h2⟩:=Option.bind_eq_some_iff.1 hv;rw[h1,Option.bind_some];split at h2
 .rename_i c e fr hg;rw[h g (Array.getElem?_eq_some_iff.1 hg).1,hg];exact h2
 .cases h2
theorem zH{P:Program}{W w:World}(h:∀b,b<W.heap.size->w.heap[b]?=W.heap[b]?)(hs:W.ShapedOpen P):w.ShapedOpen P:=by
 refine World.ShapedOpen.of_heap (w:={w with os:=W.os,output:=W.output}) rfl (World.ShapedOpen.keptBut (may:=fun _=>False) hs ⟨rfl,rfl,fun i hi=>?_⟩ fun _ hh=>hh.elim);rw[show({w with os:=W.os,output:=W.output}:World).heap[i]?=w.heap[i]? from rfl,h i hi];cases hw:W.heap[i]? with
 |none=>exact rfl
 |some o=>
  cases o with
  |cells c t fr=>exact⟨rfl,rfl,rfl,fun _ _=>rfl⟩
  |map es clock=>exact .inr ⟨rfl,rfl⟩
  |_=>exact rfl
theorem aJN{P:Program}{pw er:Bool}{tz:Option (List Int)}{W:World}(h:Om P pw er tz W):∀w:World,(∀b,b<W.heap.size->w.heap[b]?=W.heap[b]?)->Om P pw er tz w:=fun _ hw=>
 ⟨zH hw h.1,fun hp=>nC hw (h.2.1 hp),fun he=>⟨let ⟨tp,p,k⟩:=(h.2.2.1 he).1;⟨tp,p,nC hw k⟩,let ⟨tp,p,k⟩:=(h.2.2.1 he).2;⟨tp,p,nC hw k⟩⟩,fun l hl=>nC hw (h.2.2.2 l hl)⟩
variable{H:Type}{enc:TypeId×Value->H}
theorem aGw{a:Assume}{C:Checked}{os:Os}{f:FuncId}{fn:Func}{s:ChangeSpec}{conds:List PathCond}{apart fresh handsOn tN:Bool}{X:World->Array Value->Prop}
  (hX:∀(w w':World) (args:Array Value),w.heap=w'.heap->X w args->X w' args)
  (own:ownKnob C.prog.godebug=none) (started:os.Started) (noInit:C.prog.inits.idxOf? f=none) (hfn:C.prog.funcs[f]?=some fn)
  (witness:∃(w:World) (tape:Tape) (i:Input),w.os=os/\(w.forCall tape i).Shaped C.prog/\i.vars=[]/\Input.okWide C.prog (w.forCall tape i) .any w.heap.size f i/\
   ((s.pre enc C.prog fn conds apart (w.forCall tape i).memory i.args/\X (w.forCall tape i).memory i.args)/\sizedMet enc C.prog fn (OpenSpec.ofChange s) apart (w.forCall tape i).memory i.args)/\a.holds C.prog (lone (Frame.enter C.prog f i.args .normal) [] (w.forCall tape i)))
  (contract:∀(W:World) (base:Nat) (args:Array Value) (ds gs:List (DataW H)) (before:List MemPlace),
   (∀(j:Nat) t v,fn.params[j]?=some t->args[j]?=some v->Value.okWide C.prog W .any base t v)->
   DataW.Whole enc C.prog fn.params.toList s.vars apart W args.toList ds gs before->W.ShapedOpen C.prog->X W args->
   Calls C.prog f args W fun e W'=>∃v,e=.returned v/\s.post enc C.prog fn apart fresh handsOn tN W args v W') :
  ReturnsInHanded a C os f .any (fun w args=>(s.pre enc C.prog fn conds apart w args/\X w args)/\sizedMet enc C.prog fn (OpenSpec.ofChange s) apart w args) (s.post enc C.prog fn apart fresh handsOn tN):=by
 refine returnsInHanded_of_calls own started noInit witness ?_;intro w tape i _ hsh _ hok hpre hholds;obtain⟨_,_,_,fn',hfn',_,_,_,_,hval⟩:=hok;have e:fn'=fn:=Option.some.inj (hfn'.symm.trans hfn);subst e;obtain⟨⟨⟨ds,gs,before,hw,hc⟩,hx⟩,hz⟩:=hpre;have hw':=DataW.Whole.of_heap (w':=w.forCall tape i) (by rfl) hw;refine(contract (w.forCall tape i) w.heap.size i.args ds gs before hval hw' hsh (hX _ _ _ (by rfl) hx)).mono fun e W' ⟨v,he,hp⟩=>?_
 subst he;exact ChangeSpec.post_blind hp
end Go.VM
namespace Go.VM
open Go.RowKit
variable{Ω:World->Prop}
section
variable{P:Program}{f:Nat}{fn:Func}{c:Code}(hf:P.funcs[f]?=some fn)(hb:fn.body=some c)(hname:(fn.name == "runtime.NumGoroutine")=false)
include hf hb hname
end
end Go.VM
namespace Go.VM
open Go.RowKit
variable{Ω:World->Prop}
section
variable{P:Program}{f:Nat}{fn:Func}{c:Code}(hf:P.funcs[f]?=some fn)(hb:fn.body=some c)(hname:(fn.name == "runtime.NumGoroutine")=false)
include hf hb hname
end
end Go.VM
