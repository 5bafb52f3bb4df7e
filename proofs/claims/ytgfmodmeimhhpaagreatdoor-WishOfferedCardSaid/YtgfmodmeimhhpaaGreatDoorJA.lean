/- The heap's own words for typed values: what a function that is walked by hand is told of, and tells of. -/
import Derived.Test.YtgfmodmeimhhpaaGreatDoorTC
import Derived.Lib.ItoaMem
import Derived.LaidSub
import Derived.Lay
namespace Go.VM
open Go.RowKit
variable{Ω:World->Prop}
def a1C{α:Type}(R:α->List Value->Prop):List α->List Value->Prop
 |[],cs=>cs=[]|x::l,cs=>∃c r,cs=c++r/\R x c/\a1C R l r
def HC(w:World)(Q:Nat->Prop):(t:Ty)->t.den->List Value->Prop
 |.unit,_,cs=>cs=[]|.bool,b,cs=>cs=[.bool b]|.int k,n,cs=>cs=[.int k n]|.str,s,cs=>∃t:ByteArray,cs=[.string t]/\t.data.toList=s|.err,b,cs=>(b=false/\cs=[.nilIface])\/(b=true/\∃t p,cs=[.iface t p])|.sl t,l,cs=>(l=[]/\cs=[.slice none 0 0])\/∃a cap rows,cs=[.slice (some a) (List.length l) cap]/\List.length l<=cap/\cap<=maxLen/\0<t.size/\Row w a rows/\a1C (HC w Q t) l rows/\(rows≠[]->Q a.block)|.st t,x,cs=>HC w Q t x cs|.pair a b,x,cs=>∃c d,cs=c++d/\HC w Q a x.1 c/\HC w Q b x.2 d|.av k n,l,cs=>List.length l=n/\cs=List.map (Value.int k) l|.fn f,_,cs=>cs=[.func (.func f) #[] #[]]
def Value.isAgg:Value->Bool
 |.agg _=>true|_=>false
def HV(w:World)(Q:Nat->Prop)(t:Ty)(x:t.den)(c:Value):Prop:=HC w Q t x c.cells.toList/\Value.isAgg c=t.agg
def HVs(w:World)(Q:Nat->Prop):(ts:List Ty)->(Ty.row ts).den->List Value->Prop
 |[],_,cs=>cs=[]|t::r,x,cs=>∃c cs',cs=c::cs'/\HV w Q t (a0y t r x) c/\HVs w Q r (eA t r x) cs'
theorem a1X{w:World}{Q:Nat->Prop}{t:Ty}{x:t.den}{c:Value}(h:HV w Q t x c)(ht:t.agg=false):HC w Q t x [c]:=by
 obtain⟨h1,h2⟩:=h;rw[ht]at h2;cases c with
 |agg xs=>cases h2|_=>exact h1
theorem a3q{α:Type}{R R':α->List Value->Prop}:∀{l:List α} {cs:List Value},(∀x c,x∈l->R x c->R' x c)->a1C R l cs->a1C R' l cs
 |[],_,_,h=>h|x::l,_,hm,⟨c,r,e,h1,h2⟩=>⟨c,r,e,hm x c List.mem_cons_self h1,a3q (fun y c' hy=>hm y c' (List.mem_cons_of_mem _ hy)) h2⟩
theorem a4f{α:Type}{R:α->List Value->Prop}{z:Nat}(hz:∀x c,R x c->c.length=z):∀{l:List α} {cs:List Value},a1C R l cs->cs.length=l.length*z
 |[],_,h=>by cases h;simp|x::l,_,⟨c,r,e,h1,h2⟩=>by rw[e,List.length_append,hz _ _ h1,a4f hz h2,List.length_cons,Nat.add_mul];omega
theorem a4g{w:World}{Q:Nat->Prop}:∀{t:Ty} {x:t.den} {cs:List Value},HC w Q t x cs->cs.length=t.size
 |.unit,_,_,h=>by cases h;rfl|.bool,_,_,h=>by cases h;rfl|.int _,_,_,h=>by cases h;rfl|.str,_,_,⟨_,h,_⟩=>by rw[h];rfl|.err,_,_,h=>by rcases h with⟨_,h⟩|⟨_,_,_,h⟩<;>rw[h]<;>rfl
 |.sl _,_,_,h=>by rcases h with⟨_,h⟩|⟨_,_,_,h,_⟩<;>rw[h]<;>rfl
 |.st t,_,_,h=>a4g (t:=t) h|.pair a b,_,_,⟨c,d,h,h1,h2⟩=>by rw[h,List.length_append,a4g h1,a4g h2];rfl|.av _ _,_,_,⟨h1,h2⟩=>by rw[h2,List.length_map,h1];rfl|.fn _,_,_,h=>by cases h;rfl
theorem a2p{w w':World}{Q Q':Nat->Prop}(hQ:∀b,Q b->Q' b)(hw:∀a rows,Row w a rows->(rows≠[]->Q a.block)->Row w' a rows):∀{t:Ty} {x:t.den} {cs:List Value},HC w Q t x cs->HC w' Q' t x cs
 |.unit,_,_,h=>h|.bool,_,_,h=>h|.int _,_,_,h=>h|.str,_,_,h=>h|.err,_,_,h=>h|.sl t,_,_,h=>by
  rcases h with h|⟨a,cap,rows,h1,h2,h3,h4,h5,h6,h7⟩;exact .inl h;exact .inr ⟨a,cap,rows,h1,h2,h3,h4,hw a rows h5 h7,a3q (fun x c _ hx=>a2p hQ hw hx) h6,fun hr=>hQ _ (h7 hr)⟩
 |.st t,_,_,h=>a2p (t:=t) hQ hw h|.pair a b,_,_,⟨c,d,h,h1,h2⟩=>⟨c,d,h,a2p hQ hw h1,a2p hQ hw h2⟩|.av _ _,_,_,h=>h|.fn _,_,_,h=>h
theorem row_old{w:World}{a:Addr}{rows:List Value}(h:Row w a rows)(h0:rows≠[]):a.block<w.heap.size:=by have hl:0<rows.length:=List.length_pos_iff.2 h0;have h1:=h 0 _ (List.getElem?_eq_getElem hl);unfold World.cell? at h1;rw[bM]at h1;split at h1;rename_i hh;exact(Array.getElem?_eq_some_iff.1 hh).1;cases h1
theorem a3r{w:World}{A:Pl}{B:List Nat}{α:Type}{R:α->List V->Prop}{R':α->List Value->Prop}:∀{l:List α} {vs:List V} {cs:List Value},(∀x v c,x∈l->RelL w A B v c->R x v->R' x c)->aL R l vs->RelL w A B vs cs->a1C R' l cs
 |[],_,cs,_,h,hr=>by cases h;cases hr;rfl|x::l,_,cs,hm,⟨v,r,e,h1,h2⟩,hr=>by subst e;have hlen:=hr.length;have k1:=hr.take v.length;have k2:=hr.drop v.length;rw[List.take_left]at k1;rw[List.drop_left]at k2;exact⟨cs.take v.length,cs.drop v.length,(List.take_append_drop _ _).symm,hm x v _ List.mem_cons_self k1 h1,a3r (fun y v c hy=>hm y v c (List.mem_cons_of_mem _ hy)) h2 k2⟩
theorem a0m{w:World}{A:Pl}{B:List Nat}{v:V}{cs:List Value}(h:RelL w A B [v] cs):∃c,cs=[c]/\Rel w A B v c:=by
 cases h with|cons _ c _ cs h1 h2=>cases h2;exact⟨c,rfl,h1⟩
theorem a3s{w:World}{A:Pl}{B:List Nat}:∀{t:Ty} {x:t.den} {vs:List V} {cs:List Value},bP t x vs->RelL w A B vs cs->HC w (fun b=>b<w.heap.size) t x cs
 |.unit,_,_,_,h,hr=>by cases h;cases hr;rfl|.bool,_,_,_,h,hr=>by cases h;obtain⟨c,rfl,h1⟩:=a0m hr;rw[h1.bool_inv];rfl
 |.int _,_,_,_,h,hr=>by cases h;obtain⟨c,rfl,h1⟩:=a0m hr;rw[h1.int_inv];rfl
 |.str,_,_,_,h,hr=>by
  cases h;obtain⟨c,rfl,h1⟩:=a0m hr;obtain⟨t,h2,h3⟩:=h1.str_inv;exact⟨t,by rw[h2],h3⟩
 |.err,_,_,_,h,hr=>by
  rcases h with⟨rfl,h2⟩|⟨t,v,rfl,_,h2⟩;obtain⟨c,rfl,h1⟩:=a0m hr;cases h1;exact .inl ⟨h2,rfl⟩;obtain⟨c,rfl,h1⟩:=a0m hr;cases h1;exact .inr ⟨h2,_,_,rfl⟩
 |.sl t,l,_,_,h,hr=>by
  rcases h with⟨rfl,h2⟩|⟨lb,rs,rfl,h2,h3⟩;obtain⟨c,rfl,h1⟩:=a0m hr;rw[h1.nils_inv];exact .inl ⟨h2,rfl⟩;obtain⟨c,rfl,h1⟩:=a0m hr;obtain⟨a,cap,xs,rfl,_,hz,hxs,hcap,hmax,hrow,hrel,_⟩:=h1.sl_inv;exact .inr ⟨a,cap,xs,rfl,hcap,hmax,hz,hrow,a3r (fun x v c _ hv hx=>a3s hx hv) h2 hrel,fun h0=>row_old hrow h0⟩
 |.st t,_,_,_,h,hr=>a3s (t:=t) h hr|.pair a b,x,_,cs,⟨c,d,e,h1,h2⟩,hr=>by subst e;have k1:=hr.take c.length;have k2:=hr.drop c.length;rw[List.take_left]at k1;rw[List.drop_left]at k2;exact⟨_,_,(List.take_append_drop c.length cs).symm,a3s h1 k1,a3s h2 k2⟩|.av k n,x,_,cs,⟨h1,h2⟩,hr=>by
  subst h2;refine⟨h1,?_⟩;clear h1
  induction x generalizing cs with|nil=>cases hr;rfl|cons i r ih=>
   cases hr with|cons _ c _ cs h3 h4=>rw[h3.int_inv,ih _ h4];rfl
 |.fn f,_,_,_,h,hr=>by cases h;obtain⟨c,rfl,h1⟩:=a0m hr;obtain⟨xs,ys,rfl,h2,h3,_⟩:=h1.fn_inv;have e1:xs=#[]:=Array.ext' (by cases hh:xs.toList with|nil=>rfl|cons=>rw[hh]at h2;cases h2);have e2:ys=#[]:=Array.ext' (by cases hh:ys.toList with|nil=>rfl|cons=>rw[hh]at h3;cases h3);subst e1;subst e2;rfl
theorem a3t{w:World}{A:Pl}{B:List Nat}{α:Type}{R:α->List V->Prop}{R':α->List Value->Prop}:∀{l:List α} {cs:List Value},(∀x c,x∈l->R' x c->∃v,RelL w A B v c/\R x v/\∀u∈v,u.bare0)->a1C R' l cs->∃vs,RelL w A B vs cs/\aL R l vs/\∀u∈vs,u.bare0
 |[],cs,_,h=>by cases h;exact⟨[],.nil,rfl,fun u hu=>by cases hu⟩|x::l,cs,hm,⟨c,r,e,h1,h2⟩=>by subst e;obtain⟨v,k1,k2,k3⟩:=hm x c List.mem_cons_self h1;obtain⟨vs,k4,k5,k6⟩:=a3t (fun y c hy=>hm y c (List.mem_cons_of_mem _ hy)) h2;exact⟨v++vs,k1.append k4,⟨v,vs,rfl,k2,k5⟩,fun u hu=>(List.mem_append.1 hu).elim (k3 u) (k6 u)⟩
theorem a3u{vs:List V}(h:∀u∈vs,u.bare0)(hc:∀u∈vs,u.cell):aC vs=[]:=cW.2 fun v hv=>by
 have h1:=h v hv;have h2:=hc v hv;cases v with
 |sl l z n cs=>simp only[V.bare0]at h1;subst h1;rfl|_=>first|rfl|exact h2.elim
theorem a4h{w:World}{A:Pl}{B:List Nat}{Q:Nat->Prop}(hA:∀a rows z n cap,Row w a rows->(rows≠[]->Q a.block)->A .none a rows.length z n cap):∀{t:Ty} {x:t.den} {cs:List Value},HC w Q t x cs->∃vs,RelL w A B vs cs/\bP t x vs/\∀u∈vs,u.bare0
 |.unit,_,_,h=>by cases h;exact⟨[],.nil,rfl,fun u hu=>by cases hu⟩|.bool,b,_,h=>by cases h;exact⟨[.bool b],.cons _ _ _ _ (.bool b) .nil,rfl,fun u hu=>by simp at hu;subst hu;trivial⟩|.int k,n,_,h=>by cases h;exact⟨[.int k n],.cons _ _ _ _ (.int k n) .nil,rfl,fun u hu=>by simp at hu;subst hu;trivial⟩|.str,s,_,⟨t,h1,h2⟩=>by subst h1;subst h2;exact⟨[.str t.data.toList],.cons _ _ _ _ (.str t) .nil,rfl,fun u hu=>by simp at hu;subst hu;trivial⟩|.err,b,_,h=>by
  rcases h with⟨h1,rfl⟩|⟨h1,t,p,rfl⟩;exact⟨[.nili],.cons _ _ _ _ .nili .nil,.inl ⟨rfl,h1⟩,fun u hu=>by simp at hu;subst hu;trivial⟩;exact⟨[.iface t .undef],.cons _ _ _ _ (.iface t .undef p (.undef p) rfl) .nil,.inr ⟨t,.undef,rfl,rfl,h1⟩,fun u hu=>by simp at hu;subst hu;trivial⟩
 |.sl t,l,_,h=>by
  rcases h with⟨h1,rfl⟩|⟨a,cap,rows,rfl,h2,h3,h4,h5,h6,h7⟩;exact⟨[.nils],.cons _ _ _ _ .nils .nil,.inl ⟨rfl,h1⟩,fun u hu=>by simp at hu;subst hu;trivial⟩;obtain⟨vs,k1,k2,k3⟩:=a3t (R:=bP t) (fun x c _ hx=>a4h hA hx) h6;have hl:=a4f (z:=t.size) (fun x c hx=>a4g hx) h6;have hcell:∀u∈vs,u.cell:=by
   intro u hu;have:∀{l:List t.den} {vs:List V},aL (bP t) l vs->∀u∈vs,u.cell:=by
    intro l
    induction l with|nil=>intro vs h u hu;cases h;cases hu|cons x l ih=>intro vs ⟨c,r,e,q1,q2⟩ u hu;subst e;exact(List.mem_append.1 hu).elim (bJ q1 u) (ih q2 u)
   exact this k2 u hu
  exact⟨[.sl .none t.size (List.length l) vs],.cons _ _ _ _ (.sl .none t.size (List.length l) vs a cap rows (hA a rows _ _ _ h5 h7) h4 hl h2 h3 h5 k1 (a3u k3 hcell)) .nil,.inr ⟨.none,vs,rfl,k2,k3⟩,fun u hu=>by simp at hu;subst hu;rfl⟩
 |.st t,_,_,h=>a4h (t:=t) hA h|.pair a b,x,_,⟨c,d,e,h1,h2⟩=>by
  subst e;obtain⟨v1,k1,k2,k3⟩:=a4h (B:=B) hA h1;obtain⟨v2,k4,k5,k6⟩:=a4h (B:=B) hA h2;exact⟨v1++v2,k1.append k4,⟨v1,v2,rfl,k2,k5⟩,fun u hu=>(List.mem_append.1 hu).elim (k3 u) (k6 u)⟩
 |.av k n,x,_,⟨h1,h2⟩=>by
  subst h2;refine⟨x.map (V.int k),?_,⟨h1,rfl⟩,fun u hu=>by obtain⟨i,_,rfl⟩:=List.mem_map.1 hu;trivial⟩;clear h1
  induction x with|nil=>exact .nil|cons i r ih=>exact .cons _ _ _ _ (.int k i) ih
 |.fn f,_,_,h=>by cases h;exact⟨[.fn (.func f) [] []],.cons _ _ _ _ (.fn _ _ _ #[] #[] .nil .nil rfl rfl) .nil,rfl,fun u hu=>by simp at hu;subst hu;trivial⟩
theorem hv_rel{w:World}{A:Pl}{B:List Nat}{Q:Nat->Prop}(hA:∀a rows z n cap,Row w a rows->(rows≠[]->Q a.block)->A .none a rows.length z n cap){t:Ty}(ht:t.agg=true\/t.size=1){x:t.den}{c:Value}(h:HV w Q t x c):∃v,Rel w A B v c/\gP t x v/\∀u∈v.cells,u.bare0:=by
 obtain⟨h1,h2⟩:=h;obtain⟨vs,k1,k2,k3⟩:=a4h (B:=B) hA h1;cases c with
 |agg xs=>have h2:true=t.agg:=h2;exact⟨.agg vs,.agg vs xs (by simpa[Value.cells]using k1),⟨k2,h2⟩,k3⟩|_=>
  have h2:false=t.agg:=h2;simp only[Value.cells]at k1;have hl:=k1.length
  match vs,hl with
  |[v],_=>
   obtain⟨c',e,k4⟩:=a0m k1;cases e;have hcell:=bJ k2 v (by simp);have hv:v.cells=[v]:=by cases v<;>first|rfl|exact hcell.elim
   refine⟨v,k4,⟨by rw[hv];exact k2,?_⟩,fun u hu=>k3 u (by rw[hv]at hu;exact hu)⟩;rw[<-h2];cases v<;>first|rfl|exact hcell.elim
end Go.VM
namespace Go.VM
open Go.RowKit
variable{Ω:World->Prop}
theorem a4V{α:Type}{R:α->List V->Prop}{z:Nat}(hz:∀x c,R x c->c.length=z)(hR:∀x y c,R x c->R y c->x=y):∀{l m:List α} {cs:List V},l.length=m.length->aL R l cs->aL R m cs->l=m
 |[],[],_,_,_,_=>rfl|[],_::_,_,h,_,_=>by simp at h|_::_,[],_,h,_,_=>by simp at h|x::l,y::m,_,hl,⟨c,r,e,h1,h2⟩,⟨d,s,e',h3,h4⟩=>by have hc:c=d/\r=s:=List.append_inj (e.symm.trans e') (by rw[hz _ _ h1,hz _ _ h3]);obtain⟨rfl,rfl⟩:=hc;rw[hR x y c h1 h3,a4V hz hR (by simpa using hl) h2 h4]
theorem a1Y:∀{t:Ty} {x y:t.den} {vs:List V},bP t x vs->bP t y vs->x=y
 |.unit,_,_,_,_,_=>rfl|.bool,_,_,_,h,k=>by cases h;cases k;rfl|.int _,_,_,_,h,k=>by cases h;cases k;rfl|.str,_,_,_,h,k=>by cases h;cases k;rfl|.err,x,y,_,h,k=>by
  rcases h with⟨rfl,h⟩|⟨_,_,rfl,_,h⟩<;>rcases k with⟨e,k⟩|⟨_,_,e,_,k⟩
  exact(show(x:Bool)=y from h.trans k.symm);cases e;cases e;exact(show(x:Bool)=y from h.trans k.symm)
 |.sl t,x,y,_,h,k=>by
  rcases h with⟨rfl,h⟩|⟨lb,rs,rfl,h,_⟩<;>rcases k with⟨e,k⟩|⟨lb',rs',e,k,_⟩
  exact(show(x:List t.den)=y from h.trans k.symm);cases e;cases e;simp only[List.cons.injEq,V.sl.injEq,and_true,true_and]at e;obtain⟨_,e1,e2⟩:=e;subst e2;exact a4V (z:=t.size) (fun x c hx=>aF hx) (fun x y c=>a1Y) e1 h k
 |.st t,_,_,_,h,k=>a1Y (t:=t) h k|.pair a b,x,y,_,⟨c,d,e,h1,h2⟩,⟨c',d',e',k1,k2⟩=>by
  have hc:c=c'/\d=d':=List.append_inj (e.symm.trans e') (by rw[aF h1,aF k1]);obtain⟨rfl,rfl⟩:=hc;exact Prod.ext (a1Y h1 k1) (a1Y h2 k2)
 |.av _ _,x,y,_,⟨_,h⟩,⟨_,k⟩=>by have:List.map (V.int _) x=List.map (V.int _) y:=h.symm.trans k;exact(List.map_inj_right fun a b h=>by cases h;rfl).1 this|.fn _,_,_,_,_,_=>rfl
theorem row_ext{t:Ty}:∀{r:List Ty} {x y:(Ty.row (t::r)).den},a0y t r x=a0y t r y->eA t r x=eA t r y->x=y
 |[],_,_,h,_=>h|_::_,_,_,h,k=>Prod.ext h k
theorem a2Q:∀{ts:List Ty} {x y:(Ty.row ts).den} {vs:List V},iQ ts x vs->iQ ts y vs->x=y
 |[],_,_,_,_,_=>rfl|t::r,x,y,_,⟨v,vs,e,h1,h2⟩,⟨v',vs',e',k1,k2⟩=>by subst e;cases e';exact row_ext (a1Y h1.1 k1.1) (a2Q h2 k2)
open Classical in
noncomputable def pH(ts:List Ty){β:Type}(g:(Ty.row ts).den->Option β)(en:List V->β->List V)(vs:List V):Option V:=
 if h:∃r x,iQ ts x vs/\g x=some r then some (packed (en vs h.choose))else none
theorem pH_eq{ts:List Ty}{β:Type}{g:(Ty.row ts).den->Option β}{en:List V->β->List V}{vs:List V}{x:(Ty.row ts).den}{r:β}(h1:iQ ts x vs)(h2:g x=some r):pH ts g en vs=some (packed (en vs r)):=by have h:∃r x,iQ ts x vs/\g x=some r:=⟨r,x,h1,h2⟩;unfold pH;rw[dif_pos h];obtain⟨y,k1,k2⟩:=h.choose_spec;rw[a2Q k1 h1,h2]at k2;cases k2;rfl
theorem a7K{ts:List Ty}{β:Type}{g:(Ty.row ts).den->Option β}{en:List V->β->List V}{vs:List V}{v:V}(h:pH ts g en vs=some v):∃x r,iQ ts x vs/\g x=some r/\v=packed (en vs r):=by unfold pH at h;split at h;rename_i hh;obtain⟨x,k1,k2⟩:=hh.choose_spec;cases h;exact⟨x,_,k1,k2,rfl⟩;cases h
theorem a0A{us:List V}(h:∀v∈us,∀xs,v≠.tup xs):(packed us).results=us:=by
 match us with
 |[]=>rfl|[v]=>
  show v.results=[v];cases v with
  |tup xs=>exact absurd rfl (h _ (by simp) xs)|_=>rfl
 |_::_::_=>rfl
theorem pH_ok{P:Program}{f:Nat}{ts:List Ty}{β:Type}{g:(Ty.row ts).den->Option β}{en:List V->β->List V}{fn:Func}{c:Code}(hf:P.funcs[f]?=some fn)(hb:fn.body=some c)(hname:(fn.name == "runtime.NumGoroutine")=false)
  (hen:∀vs x r,iQ ts x vs->g x=some r->∀v∈en vs r,aN v=false/\v.flat=true/\∀xs,v≠.tup xs)
  (hc:∀x r,g x=some r->∀vs,iQ ts x vs->∀(w:World) (A:Pl) (B:List Nat) (cs:List Value),(∀w':World,(∀b,b<w.heap.size->w'.heap[b]?=w.heap[b]?)->Ω w')->RelL w A B vs cs->
   Calls P f cs.toArray w fun e w'=>∃rcs,e=.returned (vT rcs)/\Below w.heap.size w w'/\RelL w' (aGu w w') [] (en vs r) rcs):PrimOk Ω P f [] (pH ts g en):=by
 refine aCo hf hb hname (fun vs v hp G w cs bx hs=>?_) fun vs v hp u hu=>?_
 obtain⟨x,r,h1,h2,rfl⟩:=a7K hp;rw[a0A fun v hv=>(hen vs x r h1 h2 v hv).2.2];exact hc x r h2 vs h1 w _ _ cs (fun w' hw=>hs.ok.inv w' fun b hb=>hw b ((hs.ok.low b hb).1)) hs.args;obtain⟨x,r,h1,h2,rfl⟩:=a7K hp;rw[a0A fun v hv=>(hen vs x r h1 h2 v hv).2.2]at hu;exact⟨(hen vs x r h1 h2 u hu).1,(hen vs x r h1 h2 u hu).2.1⟩
theorem a4i:∀{ps:List PK} {bx:BX} {i:Nat} {x:(Ty.row (ps.map PK.ty)).den} {vs:List V},(∀p∈ps,∃u,p=.d u)->aAB [] bx ps i x vs->iQ (ps.map PK.ty) x vs
 |[],_,_,_,_,_,h=>h|.d t::r,_,_,_,_,hp,⟨v,vs',e,h1,_,_,h2⟩=>⟨v,vs',e,h1,a4i (fun p hp'=>hp p (List.mem_cons_of_mem _ hp')) h2⟩|.p t::r,_,_,_,_,hp,_=>by obtain⟨u,hu⟩:=hp (.p t) (by simp);cases hu
theorem qH_ok{ps:List PK}{rs:List (Ty×List (Nat×Bool))}{F:Nat->Option Entry}{f:Nat}{g:(Sg.a ⟨ps,rs,none⟩).den->Option (Sg.r ⟨ps,rs,none⟩).den}{en:List V->(Sg.r ⟨ps,rs,none⟩).den->List V}(hF:F f=some (.prim [] (pH (ps.map PK.ty) g en)))
  (hd:∀p∈ps,∃u,p=.d u) (hrs:∀p∈rs,p.2=[]) (h:∀x r,g x=some r->∀vs,iQ (ps.map PK.ty) x vs->iQ (rs.map Prod.fst) (eR (rs.map Prod.fst) (bD ps) r) (en vs r)/\∀c∈(en vs r).flatMap V.cells,c.bare0) (N:Nat) :
  wZ ⟨ps,rs,none⟩ [] (call F (N+1) f) g:=by
 refine aGe hF hd hrs (fun x r hx vs bx hA=>?_) N;have ht:=a4i hd hA;obtain⟨h1,h2⟩:=h x r hx vs ht;have hr:(packed (en vs r)).results=en vs r:=a0A fun v hv xs e=>by
  have:∀{ts:List Ty} {x:(Ty.row ts).den} {us:List V},iQ ts x us->∀v∈us,∀xs,v≠.tup xs:=by
   intro ts
   induction ts with|nil=>intro x us h v hv;cases h;cases hv|cons t r ih=>intro x us ⟨u,us',e,k1,k2⟩ v hv;subst e;rcases List.mem_cons.1 hv with rfl|hv;exact(aG k1).2.2.2.1;exact ih k2 v hv
  exact this h1 v hv xs e
 exact⟨_,pH_eq ht hx,by rw[hr];exact h1,by rw[hr];exact h2,by rw[hr]⟩
theorem a6b{w:World}{Q:Nat->Prop}:∀{ps:List PK} {x:(Ty.row (ps.map PK.ty)).den} {cs:List Value},(∀p∈ps,∃u,p=.d u/\(u.agg=true\/u.size=1))->HVs w Q (ps.map PK.ty) x cs->∃vs,RelL w (A1 w) [] vs cs/\∀i,aAB [] [] ps i x vs
 |[],_,_,_,h=>by cases h;exact⟨[],.nil,fun _=>rfl⟩|.d t::r,_,_,hp,⟨c,cs',e,h1,h2⟩=>by
  subst e;obtain⟨u,hu,ht⟩:=hp (.d t) (by simp);cases hu;obtain⟨v,k1,k2,k3⟩:=hv_rel (A:=A1 w) (B:=[]) (fun a rows z n cap hr _=>zD hr z n cap) ht h1;obtain⟨vs,k4,k5⟩:=a6b (fun p hp'=>hp p (List.mem_cons_of_mem _ hp')) h2;exact⟨v::vs,.cons _ _ _ _ k1 k4,fun i=>⟨v,vs,rfl,k2,.inl k3,fun h=>by simp at h,k5 (i+1)⟩⟩
 |.p t::r,_,_,hp,_=>by obtain⟨u,hu,_⟩:=hp (.p t) (by simp);cases hu
theorem a2R{w:World}{A:Pl}{B:List Nat}:∀{ts:List Ty} {x:(Ty.row ts).den} {vs:List V} {cs:List Value},iQ ts x vs->RelL w A B vs cs->HVs w (fun b=>b<w.heap.size) ts x cs
 |[],_,_,_,h,hr=>by cases h;cases hr;rfl|t::r,_,_,_,⟨v,vs,e,h1,h2⟩,hr=>by
  subst e;cases hr with
  |cons _ c _ cs k1 k2=>
   refine⟨c,cs,rfl,⟨a3s h1.1 (k1.cells (aG h1).2.2.2.2 (aG h1).2.2.2.1),?_⟩,a2R h2 k2⟩;rw[<-h1.2];cases k1 with
   |undef=>exact absurd rfl (aG h1).2.2.2.2|_=>rfl
theorem a1o{P:Program}{F:Nat->Option Entry}(hF:rJ Ω P F){f n:Nat}{ps:List PK}{rs:List (Ty×List (Nat×Bool))}{g:(Sg.a ⟨ps,rs,none⟩).den->Option (Sg.r ⟨ps,rs,none⟩).den}{vf:VF}(hf:F f=some (.code vf))
  (hty:wZ ⟨ps,rs,none⟩ [] (call F n f) g) (hp:∀p∈ps,∃u,p=.d u/\(u.agg=true\/u.size=1)) (hsz:gQ rs<=64) {W:World} (hΩ:∀w':World,(∀b,b<W.heap.size->w'.heap[b]?=W.heap[b]?)->Ω w') {Q:Nat->Prop}
  {x:(Sg.a ⟨ps,rs,none⟩).den} {r:(Sg.r ⟨ps,rs,none⟩).den} (hx:g x=some r) {cs:List Value} (hcs:HVs W Q (ps.map PK.ty) x cs) :
  Calls P f cs.toArray W fun e W'=>∃rcs,e=.returned (vT rcs)/\Below W.heap.size W W'/\HVs W' (fun b=>b<W'.heap.size) (rs.map Prod.fst) (eR (rs.map Prod.fst) (bD ps) r) rcs:=by
 obtain⟨fn,hh,h1,h2⟩:=hF f _ hf;obtain⟨c,hb,_,_,_,_,_,hname⟩:=iY h2;obtain⟨vs,k1,k2⟩:=a6b hp hcs;have hst:Start Ω (tM W) W vs cs []:=by
  refine⟨aFz W hΩ,fun b s c h=>?_,fun b nm h=>?_,k1,rfl,fun i ds hi=>by simp at hi⟩
  all_goals
   simp only[tM]at h;split at h<;>cases h
 have hbp:gN ps vs=[]:=(dps (bx:=[]) fun p hp'=>(hp p hp').imp fun _ h=>h.1).1;obtain⟨v,bx',q1,_,_,_,_,⟨q2,q3⟩,q4,_⟩:=hty x r hx vs [] (k2 0) (by rw[hbp];exact List.nodup_nil) rfl;obtain⟨q5,q6,_,q7⟩:=q4 rfl;have h64:(cP v.results).all (·<64)=true:=by
  rw[List.all_eq_true];intro j hj;obtain⟨c,hc,hj⟩:=aG0 hj;obtain⟨_,k4⟩:=sO q5 q6 c hc;cases c with
  |sl l z m ds=>
   rcases k4 l z m ds rfl with rfl|⟨j',f',rfl,hlt⟩|⟨_,_,_,_,_,_,hcon,_⟩;simp[V.news1,Lab.news]at hj;simp only[V.news1,Lab.news,List.mem_singleton]at hj;subst hj;exact decide_eq_true (Nat.lt_of_lt_of_le hlt hsz);simp at hcon
  |ep l ds off=>have:=(sO q5 q6 _ hc).1;exact this.elim|_=>simp[V.news1]at hj
 rcases aCn hF n f vs [] _ _ q1 h64 (tM W) W cs hst with⟨_,h3⟩|⟨c',w',h3,_⟩;refine h3.mono fun e W' ⟨c',e1,rcs,G',lk,e2,hR⟩=>?_
 refine⟨rcs,by rw[e1,e2],⟨hR.fr.os,hR.fr.tape,hR.fr.output,hR.fr.size,fun k hk=>(hR.fr.rest k hk ?_).1⟩,a2R q5 hR.res⟩;simp only[tM];cases hw:W.heap[k]? with
 |none=>exact .inl rfl|some ob=>cases ob<;>exact .inr ⟨_,rfl⟩
 exfalso;unfold callFunc at h3;have hp:(Go.program:Sem Program).run P W=.ok P W:=rfl;rw[Sem.run_bind,hp,Result.andThen_ok,h1]at h3;simp only at h3;rw[if_neg (by rw[hname];simp),if_neg (by rw[hb];simp)]at h3;cases h3
end Go.VM
open List(take_left drop_left take_append_drop mem_append_left mem_append_right mem_singleton flatMap_cons)
open Nat(lt_or_ge)
namespace Go.VM
open Go.RowKit
variable{Ω:World->Prop}
def HCX(w:World)(base:Nat)(Q:Nat->Prop):(t:Ty)->t.den->List Value->Prop
 |.sl t,l,cs=>(l=[]/\cs=[.slice none 0 0])\/∃g cap cur e,∃fr:Nat×Nat,cs=[.slice (some ⟨g,0,none⟩) (List.length l) cap]/\base<=g/\w.heap[g]?=some (.cells cur e fr)/\Fz fr cur.size/\List.length l<=cap/\cap<=maxLen/\0<t.size/\cur.size=cap*t.size/\a1C (HC w Q t) l (cur.toList.take (List.length l*t.size))|.st t,x,cs=>HCX w base Q t x cs|.pair a b,x,cs=>∃c d,cs=c++d/\HCX w base Q a x.1 c/\HCX w base Q b x.2 d|.unit,x,cs=>HC w Q .unit x cs|.bool,x,cs=>HC w Q .bool x cs|.int k,x,cs=>HC w Q (.int k) x cs|.str,x,cs=>HC w Q .str x cs|.err,x,cs=>HC w Q .err x cs|.av k n,x,cs=>HC w Q (.av k n) x cs|.fn f,x,cs=>HC w Q (.fn f) x cs
theorem a1R{w:World}{A:Pl}{B:List Nat}{α:Type}{R:α->List V->Prop}{R':α->List Value->Prop}:∀{l:List α} {vs:List V} {cs:List Value},(∀x v c,(∀u∈v,u.bare0)->RelL w A B v c->R x v->R' x c)->(∀u∈vs,u.bare0)->aL R l vs->RelL w A B vs cs->a1C R' l cs
 |[],_,cs,_,_,h,hr=>by cases h;cases hr;rfl|x::l,_,cs,hm,hb,⟨v,r,e,h1,h2⟩,hr=>by subst e;have k1:=hr.take v.length;have k2:=hr.drop v.length;rw[take_left]at k1;rw[drop_left]at k2;exact⟨cs.take v.length,cs.drop v.length,(take_append_drop _ _).symm,hm x v _ (fun u hu=>hb u (mem_append_left _ hu)) k1 h1,a1R hm (fun u hu=>hb u (mem_append_right _ hu)) h2 k2⟩
theorem a0S{w:World}{A:Pl}{B:List Nat}{Q:Nat->Prop}(hA:∀a len z n cap,A .none a len z n cap->0<len->Q a.block):∀{t:Ty} {x:t.den} {vs:List V} {cs:List Value},(∀u∈vs,u.bare0)->bP t x vs->RelL w A B vs cs->HC w Q t x cs
 |.unit,_,_,_,_,h,hr=>by cases h;cases hr;rfl|.bool,_,_,_,_,h,hr=>by cases h;obtain⟨c,rfl,h1⟩:=a0m hr;rw[h1.bool_inv];rfl
 |.int _,_,_,_,_,h,hr=>by cases h;obtain⟨c,rfl,h1⟩:=a0m hr;rw[h1.int_inv];rfl
 |.str,_,_,_,_,h,hr=>by
  cases h;obtain⟨c,rfl,h1⟩:=a0m hr;obtain⟨t,h2,h3⟩:=h1.str_inv;exact⟨t,by rw[h2],h3⟩
 |.err,_,_,_,_,h,hr=>by
  rcases h with⟨rfl,h2⟩|⟨t,v,rfl,_,h2⟩;obtain⟨c,rfl,h1⟩:=a0m hr;cases h1;exact .inl ⟨h2,rfl⟩;obtain⟨c,rfl,h1⟩:=a0m hr;cases h1;exact .inr ⟨h2,_,_,rfl⟩
 |.sl t,l,_,_,hb,h,hr=>by
  rcases h with⟨rfl,h2⟩|⟨lb,rs,rfl,h2,h3⟩;obtain⟨c,rfl,h1⟩:=a0m hr;rw[h1.nils_inv];exact .inl ⟨h2,rfl⟩;have hlb:lb=.none:=hb _ (List.mem_singleton_self _);subst hlb;obtain⟨c,rfl,h1⟩:=a0m hr;obtain⟨a,cap,xs,rfl,hp,hz,hxs,hcap,hmax,hrow,hrel,_⟩:=h1.sl_inv;exact .inr ⟨a,cap,xs,rfl,hcap,hmax,hz,hrow,a1R (fun x v c hv hr hx=>a0S hA hv hx hr) h3 h2 hrel,fun h0=>hA _ _ _ _ _ hp (List.length_pos_iff.2 h0)⟩
 |.st t,_,_,_,hb,h,hr=>a0S (t:=t) hA hb h hr|.pair a b,x,_,cs,hb,⟨c,d,e,h1,h2⟩,hr=>by subst e;have k1:=hr.take c.length;have k2:=hr.drop c.length;rw[take_left]at k1;rw[drop_left]at k2;exact⟨_,_,(take_append_drop c.length cs).symm,a0S hA (fun u hu=>hb u (mem_append_left _ hu)) h1 k1,a0S hA (fun u hu=>hb u (mem_append_right _ hu)) h2 k2⟩|.av k n,x,_,cs,hb,⟨h1,h2⟩,hr=>by
  subst h2;refine⟨h1,?_⟩;clear h1 hb
  induction x generalizing cs with|nil=>cases hr;rfl|cons i r ih=>
   cases hr with|cons _ c _ cs h3 h4=>rw[h3.int_inv,ih _ h4];rfl
 |.fn f,_,_,_,_,h,hr=>by cases h;obtain⟨c,rfl,h1⟩:=a0m hr;obtain⟨xs,ys,rfl,h2,h3,_⟩:=h1.fn_inv;have e1:xs=#[]:=Array.ext' (by cases hh:xs.toList with|nil=>rfl|cons=>rw[hh]at h2;cases h2);have e2:ys=#[]:=Array.ext' (by cases hh:ys.toList with|nil=>rfl|cons=>rw[hh]at h3;cases h3);subst e1;subst e2;rfl
def ownC:V->Prop
 |.sl l _ _ _=>∃j,l=.own j 0|_=>True
theorem a3M{w:World}{A:Pl}{B:List Nat}{Q:Nat->Prop}{base:Nat}(hA:∀a len z n cap,A .none a len z n cap->0<len->Q a.block)
  (hO:∀j a len z n cap,A (.own j 0) a len z n cap->base<=a.block/\len=n*z/\a=⟨a.block,0,none⟩/\∃cur e,∃fr:Nat×Nat,w.heap[a.block]?=some (.cells cur e fr)/\Fz fr cur.size/\cur.size=cap*z):∀{t:Ty} {x:t.den} {vs:List V} {cs:List Value},(∀u∈vs,ownC u)->bP t x vs->RelL w A B vs cs->HCX w base Q t x cs
 |.unit,_,_,_,_,h,hr=>a0S hA (fun u hu=>by cases h;cases hu) h hr|.bool,_,_,_,_,h,hr=>a0S hA (fun u hu=>by cases h;rw[mem_singleton.1 hu];trivial) h hr|.int _,_,_,_,_,h,hr=>a0S hA (fun u hu=>by cases h;rw[mem_singleton.1 hu];trivial) h hr|.str,_,_,_,_,h,hr=>a0S hA (fun u hu=>by cases h;rw[mem_singleton.1 hu];trivial) h hr|.err,_,_,_,_,h,hr=>a0S hA (fun u hu=>by rcases h with⟨rfl,_⟩|⟨_,_,rfl,_⟩<;>(rw[mem_singleton.1 hu];trivial)) h hr
 |.av k n,_,_,_,_,h,hr=>a0S hA (fun u hu=>by obtain⟨_,rfl⟩:=h;obtain⟨i,_,rfl⟩:=List.mem_map.1 hu;trivial) h hr
 |.fn f,_,_,_,_,h,hr=>a0S hA (fun u hu=>by cases h;rw[mem_singleton.1 hu];trivial) h hr|.sl t,l,_,_,hb,h,hr=>by
  rcases h with⟨rfl,h2⟩|⟨lb,rs,rfl,h2,h3⟩;obtain⟨c,rfl,h1⟩:=a0m hr;rw[h1.nils_inv];exact .inl ⟨h2,rfl⟩;obtain⟨j,rfl⟩:∃j,lb=.own j 0:=hb _ (List.mem_singleton_self _);obtain⟨c,rfl,h1⟩:=a0m hr;obtain⟨a,cap,xs,rfl,hp,hz,hxs,hcap,hmax,hrow,hrel,_⟩:=h1.sl_inv;obtain⟨q1,q2,q3,cur,e,fr,q4,q5,q6⟩:=hO _ _ _ _ _ _ hp;have hx:cur.toList.take (List.length l*t.size)=xs:=by
   apply List.ext_getElem?;intro i;rw[List.getElem?_take];split;rename_i hi;have hi':i<xs.length:=by rw[hxs];exact hi
   have:=hrow i _ (List.getElem?_eq_getElem hi');rw[q3,Addr.add_lit,Nat.zero_add]at this;simp only[World.cell?,q4]at this;rw[List.getElem?_eq_getElem hi',<-this];simp;rename_i hi;rw[List.getElem?_eq_none (by rw[hxs];omega)]
  refine .inr ⟨a.block,cap,cur,e,fr,by rw[<-q3],q1,q4,q5,hcap,hmax,hz,q6,?_⟩;rw[hx];exact a1R (fun x v c hv hr hx=>a0S hA hv hx hr) h3 h2 hrel
 |.st t,_,_,_,hb,h,hr=>a3M (t:=t) hA hO hb h hr|.pair a b,x,_,cs,hb,⟨c,d,e,h1,h2⟩,hr=>by subst e;have k1:=hr.take c.length;have k2:=hr.drop c.length;rw[take_left]at k1;rw[drop_left]at k2;exact⟨_,_,(take_append_drop c.length cs).symm,a3M hA hO (fun u hu=>hb u (mem_append_left _ hu)) h1 k1,a3M hA hO (fun u hu=>hb u (mem_append_right _ hu)) h2 k2⟩
theorem a2V{i j f z n:Nat}{v:V}{cs:List V}(h:(aW i v).1=.sl (.own j f) z n cs):j=i/\(aW i v).2=i+1:=by unfold aW at h ⊢;split at h;simp only[V.sl.injEq,Lab.own.injEq]at h;exact⟨h.1.1.symm,rfl⟩;rename_i hn;exact(hn _ _ _ _ _ h).elim
theorem a5D(i:Nat)(v:V):i<=(aW i v).2:=by unfold aW;split;exact Nat.le_succ i;exact Nat.le_refl i
theorem a3v:∀{vs:List V} {i p j f z n:Nat} {cs:List V},(bA i vs).1[p]?=some (.sl (.own j f) z n cs)->i<=j
 |[],_,_,_,_,_,_,_,h=>by simp[bA]at h|v::r,i,0,j,f,z,n,cs,h=>by simp only[bA,List.getElem?_cons_zero,Option.some.injEq]at h;exact Nat.le_of_eq (a2V h).1.symm|v::r,i,p+1,j,f,z,n,cs,h=>by simp only[bA,List.getElem?_cons_succ]at h;exact Nat.le_trans (a5D i v) (a3v h)
theorem a2q:∀{vs:List V} {i p q j f z n j' f' z' n':Nat} {cs cs':List V},(bA i vs).1[p]?=some (.sl (.own j f) z n cs)->(bA i vs).1[q]?=some (.sl (.own j' f') z' n' cs')->p<q->j<j'
 |[],_,_,_,_,_,_,_,_,_,_,_,_,_,h,_,_=>by simp[bA]at h|v::r,i,0,q+1,j,f,z,n,j',f',z',n',cs,cs',h,k,_=>by
  simp only[bA,List.getElem?_cons_zero,Option.some.injEq,List.getElem?_cons_succ]at h k;obtain⟨e1,e2⟩:=a2V h;have:=a3v k;omega
 |v::r,i,p+1,q+1,j,f,z,n,j',f',z',n',cs,cs',h,k,hpq=>by simp only[bA,List.getElem?_cons_succ]at h k;exact a2q h k (by omega)|v::r,i,p,0,_,_,_,_,_,_,_,_,_,_,_,_,hpq=>by omega
theorem a4j{v:V}{i p q j f z n f' z' n':Nat}{cs cs':List V}(h:(gT i v).1.cells[p]?=some (.sl (.own j f) z n cs))(k:(gT i v).1.cells[q]?=some (.sl (.own j f') z' n' cs')):p=q:=by
 cases v with
 |agg us=>
  simp only[gT,V.cells]at h k;rcases Nat.lt_trichotomy p q with hh|hh|hh;exact absurd (a2q h k hh) (Nat.lt_irrefl _);exact hh;exact absurd (a2q k h hh) (Nat.lt_irrefl _)
 |_=>
  have e:∀u:V,(∀cs,u≠.agg cs)->∀m c,u.cells[m]?=some c->m=0:=fun u hu m c hc=>by
   have:u.cells=[u]:=by cases u<;>first|rfl|exact absurd rfl (hu _)
   rw[this]at hc;cases m with
   |zero=>rfl|succ m=>simp at hc
  first
   | (simp only [gT] at h k
      have h1:=e _ (by intro cs hcs;revert hcs;unfold aW;split<;>(intro hcs;cases hcs)) _ _ h;have h2:=e _ (by intro cs hcs;revert hcs;unfold aW;split<;>(intro hcs;cases hcs)) _ _ k;rw[h1,h2])
def Ty.noErr:Ty->Bool
 |.err|.fn _=>false|.sl t=>t.noErr|.st t=>t.noErr|.pair a b=>a.noErr&&b.noErr|_=>true
theorem a1p{w w':World}{A A':Pl}{B B':List Nat}{α:Type}{R:α->List V->Prop}:∀{l:List α} {vs:List V} {cs:List Value},(∀x v c,(∀u∈v,u.bare0)->RelL w A B v c->R x v->RelL w' A' B' v c)->(∀u∈vs,u.bare0)->aL R l vs->RelL w A B vs cs->RelL w' A' B' vs cs
 |[],_,cs,_,_,h,hr=>by cases h;cases hr;exact .nil|x::l,_,cs,hm,hb,⟨v,r,e,h1,h2⟩,hr=>by
  subst e;have k1:=hr.take v.length;have k2:=hr.drop v.length;rw[take_left]at k1;rw[drop_left]at k2;have:=(hm x v _ (fun u hu=>hb u (mem_append_left _ hu)) k1 h1).append (a1p hm (fun u hu=>hb u (mem_append_right _ hu)) h2 k2)
  rwa [take_append_drop]at this
theorem a1D{w w':World}{A A':Pl}{B B':List Nat}(hA:∀a (xs:List Value) z n cap,A .none a xs.length z n cap->Row w a xs->A' .none a xs.length z n cap/\Row w' a xs):∀{t:Ty} {x:t.den} {vs:List V} {cs:List Value},t.noErr=true->(∀u∈vs,u.bare0)->bP t x vs->RelL w A B vs cs->RelL w' A' B' vs cs
 |.unit,_,_,_,_,_,h,hr=>by cases h;cases hr;exact .nil|.bool,_,_,_,_,_,h,hr=>by cases h;obtain⟨c,rfl,h1⟩:=a0m hr;rw[h1.bool_inv];exact .cons _ _ _ _ (.bool _) .nil
 |.int _,_,_,_,_,_,h,hr=>by cases h;obtain⟨c,rfl,h1⟩:=a0m hr;rw[h1.int_inv];exact .cons _ _ _ _ (.int _ _) .nil
 |.str,_,_,_,_,_,h,hr=>by
  cases h;obtain⟨c,rfl,h1⟩:=a0m hr;obtain⟨t,h2,h3⟩:=h1.str_inv;subst h3;rw[h2];exact .cons _ _ _ _ (.str t) .nil
 |.err,_,_,_,he,_,_,_=>by cases he|.sl t,l,_,_,he,hb,h,hr=>by
  rcases h with⟨rfl,h2⟩|⟨lb,rs,rfl,h2,h3⟩;obtain⟨c,rfl,h1⟩:=a0m hr;rw[h1.nils_inv];exact .cons _ _ _ _ .nils .nil;have hlb:lb=.none:=hb _ (List.mem_singleton_self _);subst hlb;obtain⟨c,rfl,h1⟩:=a0m hr;obtain⟨a,cap,xs,rfl,hp,hz,hxs,hcap,hmax,hrow,hrel,hnm⟩:=h1.sl_inv;obtain⟨q1,q2⟩:=hA a xs _ _ _ hp hrow;exact .cons _ _ _ _ (.sl _ _ _ _ a cap xs q1 hz hxs hcap hmax q2 (a1p (fun x v c hv hr hx=>a1D hA (t:=t) he hv hx hr) h3 h2 hrel) hnm) .nil
 |.st t,_,_,_,he,hb,h,hr=>a1D hA (t:=t) he hb h hr|.pair a b,x,_,cs,he,hb,⟨c,d,e,h1,h2⟩,hr=>by
  subst e;have he:(a.noErr&&b.noErr)=true:=he;rw[Bool.and_eq_true]at he;have k1:=hr.take c.length;have k2:=hr.drop c.length;rw[take_left]at k1;rw[drop_left]at k2;have:=(a1D (B':=B') hA he.1 (fun u hu=>hb u (mem_append_left _ hu)) h1 k1).append (a1D (B':=B') hA he.2 (fun u hu=>hb u (mem_append_right _ hu)) h2 k2)
  rwa [take_append_drop]at this
 |.av k n,x,_,cs,_,hb,⟨h1,h2⟩,hr=>by
  subst h2;clear h1 hb
  induction x generalizing cs with|nil=>cases hr;exact .nil|cons i r ih=>
   cases hr with|cons _ c _ cs h3 h4=>rw[h3.int_inv];exact .cons _ _ _ _ (.int _ _) (ih _ h4)
 |.fn f,_,_,_,he,_,_,_=>by cases he
theorem a1Z:∀{t:Ty} {x:t.den} {cs:List V} {i:Nat} {l:Lab} {z m:Nat} {ds:List V},t.noErr=true->bP t x cs->cs[i]?=some (.sl l z m ds)->∃(u:Ty) (y:List u.den),u.noErr=true/\aL (bP u) y ds/\∀c∈ds,c.bare0
 |.unit,_,_,_,_,_,_,_,_,h,hi=>by cases h;simp at hi|.bool,_,_,i,_,_,_,_,_,h,hi=>by cases h;cases i<;>simp at hi|.int _,_,_,i,_,_,_,_,_,h,hi=>by cases h;cases i<;>simp at hi|.str,_,_,i,_,_,_,_,_,h,hi=>by cases h;cases i<;>simp at hi|.err,_,_,_,_,_,_,_,he,_,_=>by cases he|.fn _,_,_,_,_,_,_,_,he,_,_=>by cases he|.sl t,y,_,i,_,_,_,_,he,h,hi=>by
  rcases h with⟨rfl,h2⟩|⟨lb,rs,rfl,h2,h3⟩;cases i<;>simp at hi
  cases i with
  |zero=>
   simp only[List.getElem?_cons_zero,Option.some.injEq,V.sl.injEq]at hi;obtain⟨_,_,_,rfl⟩:=hi;exact⟨t,y,he,h2,h3⟩
  |succ i=>simp at hi
 |.st t,_,_,_,_,_,_,_,he,h,hi=>a1Z (t:=t) he h hi|.pair a b,_,_,i,_,_,_,_,he,⟨c,d,e,h1,h2⟩,hi=>by subst e;have he:(a.noErr&&b.noErr)=true:=he;rw[Bool.and_eq_true]at he;rw[List.getElem?_append]at hi;split at hi;exact a1Z he.1 h1 hi;exact a1Z he.2 h2 hi|.av _ _,_,_,i,_,_,_,_,_,⟨_,h⟩,hi=>by subst h;rw[List.getElem?_map]at hi;obtain⟨n,_,hn⟩:=Option.map_eq_some_iff.1 hi;cases hn
def V.data:V->Prop
 |.bool _|.int ..|.str _|.nils|.sl ..=>True|_=>False
theorem a2a:∀{t:Ty} {x:t.den} {cs:List V},t.noErr=true->bP t x cs->∀v∈cs,v.data
 |.unit,_,_,_,h=>by cases h;intro v hv;cases hv|.bool,_,_,_,h=>by cases h;intro v hv;rw[mem_singleton.1 hv];trivial|.int _,_,_,_,h=>by cases h;intro v hv;rw[mem_singleton.1 hv];trivial|.str,_,_,_,h=>by cases h;intro v hv;rw[mem_singleton.1 hv];trivial|.err,_,_,he,_=>by cases he|.fn _,_,_,he,_=>by cases he|.sl t,_,_,_,h=>by
  rcases h with⟨rfl,h2⟩|⟨lb,rs,rfl,h2,h3⟩<;>(intro v hv;rw[mem_singleton.1 hv];trivial)
 |.st t,_,_,he,h=>a2a (t:=t) he h|.pair a b,_,_,he,⟨c,d,e,h1,h2⟩=>by subst e;have he:(a.noErr&&b.noErr)=true:=he;rw[Bool.and_eq_true]at he;exact fun v hv=>(List.mem_append.1 hv).elim (a2a he.1 h1 v) (a2a he.2 h2 v)|.av _ _,_,_,_,⟨_,h⟩=>by subst h;intro v hv;obtain⟨n,_,rfl⟩:=List.mem_map.1 hv;trivial
def Gh.hide(G:Gh):Gh:={G with bxB:=[],Z:=fun b=>match G.Z b with
 |.st n=>.st n|.fam nm=>.st (G.ext nm)|_=>.out}
theorem a0R(G:Gh)(b:Nat):G.hide.Z b=.out\/∃n,G.hide.Z b=.st n:=by simp only[Gh.hide];split;exact .inr ⟨_,rfl⟩;exact .inr ⟨_,rfl⟩;exact .inl rfl
theorem Start.hide{G:Gh}{w W:World}{vs:List V}{cs:List Value}{bx:BX}(hs:Start Ω G w vs cs bx)(hW:Below w.heap.size w W){vs0:List V}{cs0:List Value}(h0:RelL w (A0 G w) G.bxB vs0 cs0)(hn:aC vs0=[])(hb:bO vs0=true):Start Ω G.hide W vs0 cs0 []:=by
 have hz:∀b,G.hide.Z b≠.out->G.Z b≠.out:=fun b h e=>h (by simp only[Gh.hide,e])
 have hnf:∀b nm,G.hide.Z b≠.fam nm:=fun b nm h=>by rcases a0R G b with e|⟨n,e⟩<;>rw[e]at h<;>cases h
 have hnr:∀b s c,G.hide.Z b≠.rg s c:=fun b s c h=>by rcases a0R G b with e|⟨n,e⟩<;>rw[e]at h<;>cases h
 refine⟨⟨fun b h=>Nat.lt_of_lt_of_le (hs.ok.lt b (hz b h)) hW.size,fun b nm h=>absurd h (hnf b nm),fun b nm h=>absurd h (hnf b nm),fun b s c h=>absurd h (hnr b s c),fun b h=>⟨Nat.lt_of_lt_of_le (hs.ok.low b h).1 hW.size,a0R G b⟩,fun w' h=>hs.ok.inv w' fun b hb=>(h b hb).trans (hW.block b (hs.ok.low b hb).1)⟩,hnr,fun b nm h=>absurd h (hnf b nm),?_,rfl,fun i ds hi=>by simp at hi⟩;have hk:jV w W (A0 G w) (A0 G.hide W) G.bxB G.bxB:=⟨fun l a len z n cap hl ha=>by
  have hcell:G.Z a.block≠.out->∀j,W.cell? (a.add j)=w.cell? (a.add j):=fun h j=>by unfold World.cell?;rw[bM,hW.block _ (hs.ok.lt _ h)]
  cases l with
  |none=>
   rcases ha with ha|⟨n',q1,q2⟩|⟨nm,q1,q2,q3⟩;exact⟨.inl ha,fun j hj=>by omega⟩;exact⟨.inr (.inl ⟨n',by simp only[Gh.hide,q1],q2⟩),fun j _=>hcell (by rw[q1];simp) j⟩;exact⟨.inr (.inl ⟨G.ext nm,by simp only[Gh.hide,q2],q3⟩),fun j _=>hcell (by rw[q2];simp) j⟩
  |rv s c v=>exact absurd ha (by simp[A0,At])|_=>simp[Lab.names]at hl,fun i blk h=>h⟩
 exact RelL.nobox (h0.keepB hk hn) hb
theorem a6c:∀{ps:List PK} {x:(Ty.row (ps.map PK.ty)).den} {vs:List V} {i:Nat},(∀p∈ps,∃u,p=.d u)->iQ (ps.map PK.ty) x vs->(∀u∈vs.flatMap V.cells,u.bare0)->aAB [] [] ps i x vs
 |[],_,_,_,_,h,_=>h|.d t::r,_,_,i,hp,⟨v,vs',e,h1,h2⟩,hb=>by subst e;exact⟨v,vs',rfl,h1,.inl fun c hc=>hb c (by rw[flatMap_cons];exact mem_append_left _ hc),fun h=>by simp at h,a6c (fun p hp'=>hp p (List.mem_cons_of_mem _ hp')) h2 fun u hu=>hb u (by rw[flatMap_cons];exact mem_append_right _ hu)⟩|.p t::r,_,_,_,hp,_,_=>by obtain⟨u,hu⟩:=hp (.p t) (by simp);cases hu
theorem a3w:∀{ts:List Ty} {x:(Ty.row ts).den} {vs:List V},iQ ts x vs->bO vs=true
 |[],_,_,h=>by cases h;rfl|t::r,_,_,⟨v,vs',e,h1,h2⟩=>by subst e;simp only[bO,aHB h1,a3w h2,Bool.and_self]
theorem a3x:∀{ts:List Ty} {x:(Ty.row ts).den} {vs:List V},iQ ts x vs->(∀u∈vs.flatMap V.cells,u.bare0)->aC vs=[]
 |[],_,_,h,_=>by cases h;rfl|t::r,_,_,⟨v,vs',e,h1,h2⟩,hb=>by
  subst e;have k1:aC v.cells=[]:=a3u (fun u hu=>hb u (by rw[flatMap_cons];exact mem_append_left _ hu)) fun u hu=>bJ h1.1 u hu
  simp only[aC,aDJ h1 k1,a3x h2 fun u hu=>hb u (by rw[flatMap_cons];exact mem_append_right _ hu),List.append_nil]
structure Given(G:Gh)(w W W1:World)(t:Ty)(x:t.den)(v0:V)(c:Value)(Q:Nat->Prop):Prop where
 agg:Value.isAgg c=t.agg
 val:HCX W1 W.heap.size Q t x c.cells.toList
 low:∀b,Q b->b<W1.heap.size
 mid:∀b,Q b->b<w.heap.size\/W.heap.size<=b
 off:∀(i g:Nat) n cp,c.cells.toList[i]?=some (.slice (some ⟨g,0,none⟩) n cp)->¬Q g
 one:∀(i j g:Nat) n cp n' cp',c.cells.toList[i]?=some (.slice (some ⟨g,0,none⟩) n cp)->c.cells.toList[j]?=some (.slice (some ⟨g,0,none⟩) n' cp')->i=j
 len:c.cells.toList.length=v0.cells.length
 wds:∀(i:Nat) v u (W2:World),v0.cells[i]?=some v->c.cells.toList[i]?=some u->(∀b,b<W1.heap.size->(Q b\/u.ownBlock=some b)->W2.heap[b]?=W1.heap[b]?)->RelL W2 (Abk G w W2) G.bxB [v.mapLab1 fun _=>.none] [u]
theorem a5E{P:Program}{F:Nat->Option Entry}(hF:rJ Ω P F){f n:Nat}{ps:List PK}{t:Ty}{cl:List (Nat×Bool)}{g:(Sg.a ⟨ps,[(t,cl)],none⟩).den->Option (Sg.r ⟨ps,[(t,cl)],none⟩).den}{vf:VF}(hf:F f=some (.code vf))
  (hty:wZ ⟨ps,[(t,cl)],none⟩ [] (call F n f) g) (hp:∀p∈ps,∃u,p=.d u) (hsz:t.size<=64) (hne:t.noErr=true) (hcl:∀i,i<t.size->dU cl i=some true\/∀(x:t.den) cs,bP t x cs->∀l z m ds,cs[i]?≠some (.sl l z m ds))
  {x:(Sg.a ⟨ps,[(t,cl)],none⟩).den} {r:(Sg.r ⟨ps,[(t,cl)],none⟩).den} (hx:g x=some r) {vs0:List V} (ht:iQ (ps.map PK.ty) x vs0) (hb0:∀u∈vs0.flatMap V.cells,u.bare0) :
  ∃ v0,call F n f vs0 []=some (v0,[])∧gP t (eR [t] (bD ps) r) v0∧(∀ u∈v0.cells,ownC u) ∧
    ∀ {G:Gh} {w:World} {vs:List V} {cs:List Value} {bx:BX},Start Ω G w vs cs bx→∀ (cs0:List Value),RelL w (A0 G w) G.bxB vs0 cs0→∀ (W:World),Below w.heap.size w W →
      Calls P f cs0.toArray W fun e W1=>∃c Q,e=.returned c/\Below W.heap.size W W1/\Given G w W W1 t (eR [t] (bD ps) r) v0 c Q:=by
 obtain⟨fn,hh,h1,h2⟩:=hF f _ hf;obtain⟨c,hb,_,_,_,_,_,hname⟩:=iY h2;have hbp:gN ps vs0=[]:=(dps (bx:=[]) hp).1;obtain⟨v,bx',q1,_,_,_,_,⟨q2,q3⟩,q4,_⟩:=hty x r hx vs0 [] (a6c hp ht hb0) (by rw[hbp];exact List.nodup_nil) rfl;obtain⟨q5,q6,q8,q7⟩:=q4 rfl;have q7:bx'=[]:=List.eq_nil_of_length_eq_zero q7;subst q7;obtain⟨v0,vs1,hres,hv0,hnil⟩:=q5;have hnil:vs1=[]:=hnil;subst hnil;have hvv:v=v0:=by rw[q3,hres];rfl
 subst hvv;obtain⟨hnum,hcl0⟩:(∃u:V,v=(gT 0 u).1)/\∀i c,v.cells[i]?=some c->aHg [] vs0 (gQ [(t,cl)]) cl i c:=by
  constructor;cases n with
  |zero=>cases q1|succ n=>
   unfold call at q1;rw[hf]at q1;obtain⟨e,τ,us,_,_,hrv,hvf,_⟩:=rI q1;have hfr:=(lP (T:=τ.tips) (lk:=τ.lk) (uI hrv)).1;have hres2:(packed (dJ τ.tips τ.lk us)).results=[v]:=by rw[<-hvf];exact hres
   rw[hfr]at hres2;unfold dJ at hres2;cases hus:us.map (V.mapLab (aM τ.tips τ.lk (aC us)))with
   |nil=>rw[hus]at hres2;cases hres2|cons u us'=>rw[hus]at hres2;simp only[bQ,List.cons.injEq]at hres2;exact⟨u,hres2.1.symm⟩
  rw[hres]at q6;obtain⟨v',rs',e1,h3,_⟩:=q6;cases e1;exact h3
 have hcell:=aG hv0;have hlen:v.cells.length=t.size:=aF hv0.1;have hown:∀(i:Nat) u,v.cells[i]?=some u->ownC u:=fun i u hu=>by
  have hi:i<t.size:=by rw[<-hlen];exact(List.getElem?_eq_some_iff.1 hu).1
  rcases hcl i hi with hc|hc;have h3:=hcl0 i u hu;cases u with
  |sl l z m ds=>exact(h3.2 true hc).2 rfl|_=>trivial
  cases u with|sl l z m ds=>exact absurd hu (hc _ _ hv0.1 _ _ _ _)|_=>trivial
 have h64:(cP v.results).all (·<64)=true:=by
  rw[List.all_eq_true];intro j hj;rw[hres]at hj;obtain⟨c,hc,hj⟩:=aG0 hj;simp only[flatMap_cons,List.flatMap_nil,List.append_nil]at hc;obtain⟨i,hi⟩:=List.getElem?_of_mem hc;have h3:=hcl0 i c hi;cases c with
  |sl l z m ds=>
   rcases h3.1 with rfl|⟨j',f',rfl,hlt⟩|⟨_,_,_,_,_,_,hcon,_⟩;simp[V.news1,Lab.news]at hj;simp only[V.news1,Lab.news,mem_singleton]at hj;subst hj;exact decide_eq_true (Nat.lt_of_lt_of_le hlt (by simp only[gQ];omega));simp at hcon
  |ep l ds off=>exact(bJ hv0.1 _ hc).elim|_=>simp[V.news1]at hj
 refine⟨v,q1,hv0,fun u hu=>(List.getElem?_of_mem hu).elim fun i hi=>hown i u hi,fun{G w vs cs bx} hs cs0 h0 W hW=>?_⟩;have hst:=hs.hide hW h0 (a3x ht hb0) (a3w ht);rcases aCn hF n f vs0 [] _ _ q1 h64 G.hide W cs0 hst with⟨_,h3⟩|⟨c',w',h3,_⟩
 .refine h3.mono fun e W1 ⟨c',e1,rcs,G',lk,e2,hR⟩=>?_
  have hrel:=hR.res;rw[hres]at hrel;obtain⟨c,rfl,k3⟩:=a0m hrel;have k4:=k3.cells hcell.2.2.2.2 hcell.2.2.2.1;have hold:∀b,b<W.heap.size->W1.heap[b]?=W.heap[b]?/\G'.Z b=G.hide.Z b:=fun b hb=>hR.fr.rest b hb (a0R G b)
  have hzone:∀b nm,G'.Z b=.fam nm->W.heap.size<=b:=fun b nm hz=>by
   rcases lt_or_ge b W.heap.size with hlt|hge;rw[(hold b hlt).2]at hz;rcases a0R G b with e|⟨n,e⟩<;>rw[e]at hz<;>cases hz
   exact hge
  have hsh:∀j z m ds,V.sl (.own j 0) z m ds∈v.cells->lk (64+j)=false:=fun j z m ds hj=>by
   cases hlk:lk (64+j)with
   |false=>rfl|true=>
    have:=hR.lkr j hlk;obtain⟨u,hu,hju⟩:=aDU this;rw[hres]at hu;simp only[flatMap_cons,List.flatMap_nil,List.append_nil]at hu;cases u with
    |sl l z' m' ds'=>
     have hl:l=.own j 1:=by simp only[V.shared1]at hju;unfold Lab.shared at hju;split at hju;simp only[mem_singleton]at hju;subst hju;rfl;cases hju
     subst hl;have:=q8 _ (by rw[hres];simpa using hj) _ (by rw[hres];simpa using hu) _ _ _ _ _ _ _ _ _ rfl rfl;cases this
    |ep l ds' off=>exact(bJ hv0.1 _ hu).elim|_=>simp[V.shared1]at hju
  have hcells:∀(i g:Nat) n cp,c.cells.toList[i]?=some (.slice (some ⟨g,0,none⟩) n cp)->∃j z m ds,v.cells[i]?=some (.sl (.own j 0) z m ds)/\G'.Z g=.fam (64+j):=fun i g n cp hi=>by
   have hi':i<v.cells.length:=by rw[k4.length];exact(List.getElem?_eq_some_iff.1 hi).1
   obtain⟨d,hd,hrd⟩:=k4.get (List.getElem?_eq_getElem hi');rw[hi]at hd;cases hd;have hc0:=hown i _ (List.getElem?_eq_getElem hi');have hcc:=bJ hv0.1 _ (List.getElem_mem hi');have hget:=List.getElem?_eq_getElem hi';revert hrd hc0 hcc hget;generalize v.cells[i]=u;intro hrd hc0 hcc hget;cases u with
   |sl l z m ds=>
    obtain⟨j,rfl⟩:=hc0;obtain⟨a,cap,xs,e0,hpl,_⟩:=hrd.sl_inv;simp only[Value.slice.injEq,Option.some.injEq]at e0;obtain⟨rfl,_⟩:=e0;exact⟨j,z,m,ds,hget,hpl.1.1⟩
   |undef=>exact hcc.elim|_=>first|(cases hrd;done)|exact hcc.elim
  have hQ:∀a len z n cap,AtR G' lk W1 .none a len z n cap->0<len->G'.Z a.block≠.out/\a.block<W1.heap.size/\∀(i g:Nat) n cp,c.cells.toList[i]?=some (.slice (some ⟨g,0,none⟩) n cp)->a.block≠g:=fun a len z n cap hp hlen=>by
   have hzo:G'.Z a.block≠.out/\∀nm,G'.Z a.block=.fam nm->lk nm=true:=by rcases hp with hp|⟨n',hp,_⟩|⟨nm,hp1,hp2,_⟩;omega;exact⟨by rw[hp];simp,fun nm h=>by rw[hp]at h;cases h⟩;refine⟨by rw[hp2];simp,fun nm' h=>?_⟩;rw[hp2]at h;cases h;exact hp1
   refine⟨hzo.1,hR.ok.lt _ hzo.1,fun i g n cp hi hab=>?_⟩;obtain⟨j,z',m,ds,hj,hz⟩:=hcells i g n cp hi;have:=hzo.2 (64+j) (by rw[hab];exact hz);rw[hsh j z' m ds (List.mem_of_getElem? hj)]at this;cases this
  have hO:∀j a len z n cap,AtR G' lk W1 (.own j 0) a len z n cap->W.heap.size<=a.block/\len=n*z/\a=⟨a.block,0,none⟩/\∃cur e,∃fr:Nat×Nat,W1.heap[a.block]?=some (.cells cur e fr)/\Fz fr cur.size/\cur.size=cap*z:=fun j a len z n cap hp=>by
   obtain⟨⟨t1,t2,cur,e,⟨fr,t3,t4⟩,t5⟩,t6,t7⟩:=hp;have hblk:a.block=G'.famB (64+j):=by rw[t2]
   exact⟨hzone _ _ t1,t7.symm,by rw[t2],cur,e,fr,by rw[hblk];exact t3,t4,t5⟩
  refine⟨c,fun b=>G'.Z b≠.out/\b<W1.heap.size/\∀(i g:Nat) n cp,c.cells.toList[i]?=some (.slice (some ⟨g,0,none⟩) n cp)->b≠g,by rw[e1,e2];rfl,⟨hR.fr.os,hR.fr.tape,hR.fr.output,hR.fr.size,fun k hk=>(hold k hk).1⟩,⟨?_,a3M hQ hO (fun u hu=>(List.getElem?_of_mem hu).elim fun i hi=>hown i u hi) hv0.1 k4,fun b h=>h.2.1,fun b h=>?_,fun i g n cp hi hq=>hq.2.2 i g n cp hi rfl,?_,k4.length.symm,?_⟩⟩;rw[<-hv0.2];cases k3 with
  |undef=>exact absurd rfl hcell.2.2.2.2|_=>rfl
  rcases lt_or_ge b w.heap.size with h1|h1;exact .inl h1;refine .inr (Nat.le_of_not_lt fun h2=>h.1 ?_);rw[(hold b h2).2];have ho:G.Z b=.out:=by by_cases ho:G.Z b=.out;exact ho;exact absurd (hs.ok.lt _ ho) (by omega)
  simp only[Gh.hide,ho];intro i i' g n cp n' cp' hi hi';obtain⟨j,z,m,ds,hj,hz⟩:=hcells i g n cp hi;obtain⟨j',z',m',ds',hj',hz'⟩:=hcells i' g n' cp' hi';rw[hz]at hz';simp only[Zn.fam.injEq,Nat.add_left_cancel_iff]at hz';subst hz';obtain⟨u,rfl⟩:=hnum;exact a4j hj hj';intro i v1 u W2 hi hu hkeep;have hwW:w.heap.size<=W.heap.size:=hW.size;have hblk:∀b,b<W1.heap.size->W2.heap[b]?=W1.heap[b]?->(∃cs e fr,W1.heap[b]?=some (.cells cs e fr))->¬b<w.heap.size->∃cs e fr,W1.heap[b]?=some (.cells cs e fr)/\(aEM G w W2).Z b=.st cs.size:=fun b hb h ⟨cs,e,fr,hc⟩ hn=>⟨cs,e,fr,hc,by simp only[aEM,if_neg hn,h,hc]⟩
  have hmv:∀a (xs:List Value) z n cap,AtR G' lk W1 .none a xs.length z n cap->Row W1 a xs->Abk G w W2 .none a xs.length z n cap/\Row W2 a xs:=fun a xs z n cap hp hrow=>by
   by_cases h0:xs.length=0;exact⟨.inl h0,fun j u hj=>by rw[List.eq_nil_of_length_eq_zero h0]at hj;simp at hj⟩;have hq:=hQ a xs.length z n cap hp (by omega);have hk:=hkeep a.block hq.2.1 (.inl hq);refine⟨?_,hrow.keep fun j _=>by unfold World.cell?;rw[bM,hk]⟩;rcases lt_or_ge a.block W.heap.size with hlt|hge;have hz':=(hold _ hlt).2;have hlw:a.block<w.heap.size:=by
    rcases lt_or_ge a.block w.heap.size with h|h;exact h;exfalso;have ho:G.Z a.block=.out:=by by_cases ho:G.Z a.block=.out;exact ho;exact absurd (hs.ok.lt _ ho) (by omega)
    have ho':G'.Z a.block=.out:=by rw[hz'];simp only[Gh.hide,ho]
    rcases hp with hp|⟨n',hp,_⟩|⟨nm,_,hp,_⟩;exact h0 hp;rw[ho']at hp;cases hp;rw[ho']at hp;cases hp
   rcases hp with hp|⟨n',hp,hle⟩|⟨nm,_,hp,_⟩;exact absurd hp h0;rw[hz']at hp;simp only[Gh.hide]at hp;split at hp;rename_i n2 hg;cases hp;exact .inr (.inl ⟨_,by rw[pW hlw];exact hg,hle⟩);rename_i nm hg;cases hp;exact .inr (.inr ⟨nm,decide_eq_true (hs.fam _ _ hg),by rw[pW hlw];exact hg,hle⟩);cases hp;rw[hz']at hp;rcases a0R G a.block with e|⟨n,e⟩<;>rw[e]at hp<;>cases hp
   have hc:=hrow (xs.length-1) _ (List.getElem?_eq_getElem (by omega));unfold World.cell? at hc;rw[bM,qL]at hc;split at hc;rename_i cs' e' fr' hcs;split at hc;cases hc;have hlt:=(Array.getElem?_eq_some_iff.1 hc).1;obtain⟨cs2,e2,fr2,h4,h5⟩:=hblk a.block hq.2.1 hk ⟨cs',e',fr',hcs⟩ (by omega);rw[hcs]at h4;cases h4;exact .inr (.inl ⟨_,h5,by omega⟩);cases hc
  obtain⟨d,hd,hrd⟩:=k4.get hi;rw[hu]at hd;cases hd;have hc0:=hown i _ hi;have hcc:=bJ hv0.1 _ (List.mem_of_getElem? hi);cases v1 with
  |sl l z m ds=>
   obtain⟨j,rfl⟩:=hc0;obtain⟨a,cap,xs,rfl,hpl,hz,hxs,hcap,hmax,hrow,hrl,hnm⟩:=hrd.sl_inv;obtain⟨b1,b2,b3,cur,e,fr,b4,b5,b6⟩:=hO _ _ _ _ _ _ hpl;have hbl:a.block<W1.heap.size:=(Array.getElem?_eq_some_iff.1 b4).1;have hk:=hkeep a.block hbl (.inr (by rw[b3];rfl));obtain⟨cs2,e2,fr2,h4,h5⟩:=hblk a.block hbl hk ⟨cur,e,fr,b4⟩ (by omega);rw[b4]at h4;cases h4;have hxl:xs.length<=cur.size:=by rw[hxs,b6];exact Nat.mul_le_mul_right _ hcap
   obtain⟨u0,x0,hr0⟩:=a1Z hne hv0.1 hi;refine .cons _ _ _ _ (.sl .none z m ds a cap xs (.inr (.inl ⟨_,h5,by rw[b3];simpa using hxl⟩)) hz hxs hcap hmax (hrow.keep fun j _=>by unfold World.cell?;rw[bM,hk]) ?_ hnm) .nil;exact a1p (fun x v c hv hr hx=>a1D hmv hr0.1 hv hx hr) hr0.2.2 hr0.2.1 hrl
  |bool b=>rw[hrd.bool_inv];exact .cons _ _ _ _ (.bool _) .nil|int k n=>rw[hrd.int_inv];exact .cons _ _ _ _ (.int _ _) .nil|str s=>
   obtain⟨t',h2,h3⟩:=hrd.str_inv;subst h3;rw[h2];exact .cons _ _ _ _ (.str t') .nil
  |nils=>rw[hrd.nils_inv];exact .cons _ _ _ _ .nils .nil|_=>exact(a2a hne hv0.1 _ (List.mem_of_getElem? hi)).elim
 exfalso;unfold callFunc at h3;have hp:(Go.program:Sem Program).run P W=.ok P W:=rfl;rw[Sem.run_bind,hp,Result.andThen_ok,h1]at h3;simp only at h3;rw[if_neg (by rw[hname];simp),if_neg (by rw[hb];simp)]at h3;cases h3
open Classical in
noncomputable def pM(ts:List Ty){β:Type}(g:(Ty.row ts).den->Option β)(en:List V->β->List V)(vs:List V):Option V:=
 if h:∃r x,iQ ts x vs/\(∀u∈vs.flatMap V.cells,u.bare0)/\g x=some r then some (packed (en vs h.choose))else none
theorem pM_eq{ts:List Ty}{β:Type}{g:(Ty.row ts).den->Option β}{en:List V->β->List V}{vs:List V}{x:(Ty.row ts).den}{r:β}(h1:iQ ts x vs)(hb:∀u∈vs.flatMap V.cells,u.bare0)(h2:g x=some r):pM ts g en vs=some (packed (en vs r)):=by have h:∃r x,iQ ts x vs/\(∀u∈vs.flatMap V.cells,u.bare0)/\g x=some r:=⟨r,x,h1,hb,h2⟩;unfold pM;rw[dif_pos h];obtain⟨y,k1,_,k2⟩:=h.choose_spec;rw[a2Q k1 h1,h2]at k2;cases k2;rfl
theorem pM_ok{P:Program}{f:Nat}{ts:List Ty}{β:Type}{g:(Ty.row ts).den->Option β}{en:List V->β->List V}{fn:Func}{c:Code}(hf:P.funcs[f]?=some fn)(hb:fn.body=some c)(hname:(fn.name == "runtime.NumGoroutine")=false)
  (hen:∀vs x r,iQ ts x vs->(∀u∈vs.flatMap V.cells,u.bare0)->g x=some r->∀v∈en vs r,aN v=false/\v.flat=true/\∀xs,v≠.tup xs)
  (hc:∀x r,g x=some r->∀vs,iQ ts x vs->(∀u∈vs.flatMap V.cells,u.bare0)->∀G w cs bx,Start Ω G w vs cs bx->
   Calls P f cs.toArray w fun e w'=>∃rcs,e=.returned (vT rcs)/\Below w.heap.size w w'/\RelL w' (Abk G w w') G.bxB (en vs r) rcs):PrimOk Ω P f [] (pM ts g en):=by
 have inv:∀vs v,pM ts g en vs=some v->∃x r,iQ ts x vs/\(∀u∈vs.flatMap V.cells,u.bare0)/\g x=some r/\v=packed (en vs r):=fun vs v h=>by unfold pM at h;split at h;rename_i hh;obtain⟨x,k1,k3,k2⟩:=hh.choose_spec;cases h;exact⟨x,_,k1,k3,k2,rfl⟩;cases h
 refine a5Y hf hb hname (fun vs v hp G w cs bx hs=>?_) fun vs v hp u hu=>?_
 obtain⟨x,r,h1,h3,h2,rfl⟩:=inv vs v hp;rw[a0A fun v hv=>(hen vs x r h1 h3 h2 v hv).2.2];exact hc x r h2 vs h1 h3 G w cs bx hs;obtain⟨x,r,h1,h3,h2,rfl⟩:=inv vs v hp;rw[a0A fun v hv=>(hen vs x r h1 h3 h2 v hv).2.2]at hu;exact⟨(hen vs x r h1 h3 h2 u hu).1,(hen vs x r h1 h3 h2 u hu).2.1⟩
theorem a2r:∀{ps:List PK} {bx:BX} {i:Nat} {x:(Ty.row (ps.map PK.ty)).den} {vs:List V},(∀p∈ps,∃u,p=.d u)->aAB [] bx ps i x vs->iQ (ps.map PK.ty) x vs/\∀u∈vs.flatMap V.cells,u.bare0
 |[],_,_,_,_,_,h=>⟨h,fun u hu=>by cases h;cases hu⟩|.d t::r,_,_,_,_,hp,⟨v,vs',e,h1,h3,_,h2⟩=>by
  subst e;obtain⟨k1,k2⟩:=a2r (fun p hp'=>hp p (List.mem_cons_of_mem _ hp')) h2;refine⟨⟨v,vs',rfl,h1,k1⟩,fun u hu=>?_⟩;rw[flatMap_cons]at hu;rcases List.mem_append.1 hu with hu|hu;rcases h3 with h3|⟨h3,_⟩;exact h3 u hu;simp at h3;exact k2 u hu
 |.p t::r,_,_,_,_,hp,_=>by obtain⟨u,hu⟩:=hp (.p t) (by simp);cases hu
theorem qM_ok{ps:List PK}{rs:List (Ty×List (Nat×Bool))}{F:Nat->Option Entry}{f:Nat}{g:(Sg.a ⟨ps,rs,none⟩).den->Option (Sg.r ⟨ps,rs,none⟩).den}{en:List V->(Sg.r ⟨ps,rs,none⟩).den->List V}(hF:F f=some (.prim [] (pM (ps.map PK.ty) g en)))
  (hd:∀p∈ps,∃u,p=.d u) (hrs:∀p∈rs,p.2=[]) (h:∀x r,g x=some r->∀vs,iQ (ps.map PK.ty) x vs->(∀u∈vs.flatMap V.cells,u.bare0)->iQ (rs.map Prod.fst) (eR (rs.map Prod.fst) (bD ps) r) (en vs r)/\∀c∈(en vs r).flatMap V.cells,c.bare0) (N:Nat) :
  wZ ⟨ps,rs,none⟩ [] (call F (N+1) f) g:=by
 refine aGe hF hd hrs (fun x r hx vs bx hA=>?_) N;obtain⟨ht,hb⟩:=a2r hd hA;obtain⟨h1,h2⟩:=h x r hx vs ht hb;have hr:(packed (en vs r)).results=en vs r:=a0A fun v hv xs e=>by
  have:∀{ts:List Ty} {x:(Ty.row ts).den} {us:List V},iQ ts x us->∀v∈us,∀xs,v≠.tup xs:=by
   intro ts
   induction ts with|nil=>intro x us h v hv;cases h;cases hv|cons t r ih=>intro x us ⟨u,us',e,k1,k2⟩ v hv;subst e;rcases List.mem_cons.1 hv with rfl|hv;exact(aG k1).2.2.2.1;exact ih k2 v hv
  exact this h1 v hv xs e
 exact⟨_,pM_eq ht hb hx,by rw[hr];exact h1,by rw[hr];exact h2,by rw[hr]⟩
end Go.VM
open List(append_nil mem_singleton length_set mem_cons)
open Nat(lt_of_lt_of_le le_trans)
namespace Go.VM
open Go.RowKit
variable{Ω:World->Prop}
abbrev a1l:Ty:=.st (.pair (.sl (.int .i64)) (.int .i64))
def Gh.deck(G:Gh)(dk lo:Nat):Gh:={G.hide with bxB:=[dk],Z:=fun b=>if b=dk then .bx 0 else G.hide.Z b,lo:=lo}
theorem a1h{G:Gh}{dk lo b:Nat}(h:b≠dk):(G.deck dk lo).Z b=G.hide.Z b:=by simp only[Gh.deck,if_neg h]
theorem a6d{G:Gh}{dk lo:Nat}:(G.deck dk lo).Z dk=.bx 0:=by simp only[Gh.deck,if_true]
structure DkIn(G:Gh)(w:World)(dk:Nat)(V0:V)(H:Gh)(W:World)(at_:Int):Prop where
 lt:∀b,H.Z b≠.out->b<W.heap.size
 zone:∀b,b≠dk->H.Z b=.out\/∃n,H.Z b=.st n
 dkz:H.Z dk=.bx 0
 bxB:H.bxB=[dk]
 cells:∃xs e,W.heap[dk]?=some (.cells xs e (0,0))/\RelL W (A0 H W) [dk] [V0,.int .i64 at_] xs.toList
 keep:∀b,b<w.heap.size->b≠dk->W.heap[b]?=w.heap[b]?/\H.Z b=G.hide.Z b
 size:w.heap.size<=W.heap.size
 lo:H.lo=G.lo
 os:W.os=w.os
 tape:W.tape=w.tape
 output:W.output=w.output
section
variable{G H:Gh}{w W:World}{dk i:Nat}{V0:V}{at_:Int}
theorem DkIn.gok(hd:DkIn G w dk V0 H W at_)(hG:GOk Ω G w)(hz:G.Z dk=.bx i):GOk Ω H W:=by
 have hnf:∀b nm,H.Z b≠.fam nm:=fun b nm h=>by by_cases e:b=dk;subst e;rw[hd.dkz]at h;cases h;rcases hd.zone b e with h2|⟨n,h2⟩<;>rw[h2]at h<;>cases h
 have hnr:∀b s c,H.Z b≠.rg s c:=fun b s c h=>by by_cases e:b=dk;subst e;rw[hd.dkz]at h;cases h;rcases hd.zone b e with h2|⟨n,h2⟩<;>rw[h2]at h<;>cases h
 have hne:∀b,b<G.lo->b<w.heap.size/\b≠dk:=fun b hb=>by obtain⟨h1,h2⟩:=hG.low b hb;refine⟨h1,fun e=>?_⟩;subst e;rw[hz]at h2;rcases h2 with h2|⟨n,h2⟩<;>cases h2
 refine⟨hd.lt,fun b nm h=>absurd h (hnf b nm),fun b nm h=>absurd h (hnf b nm),fun b s c h=>absurd h (hnr b s c),fun b hb=>?_,fun w' h=>hG.inv w' fun b hb=>?_⟩;rw[hd.lo]at hb;obtain⟨h1,h2⟩:=hne b hb;exact⟨lt_of_lt_of_le h1 hd.size,hd.zone b h2⟩;obtain⟨h1,h2⟩:=hne b hb;rw[h b (by rw[hd.lo];exact hb),(hd.keep b h1 h2).1]
theorem DkIn.move{W2:World}(hd:DkIn G w dk V0 H W at_)(hk:∀b,b<W.heap.size->(H.Z b≠.out\/b<w.heap.size)->W2.heap[b]?=W.heap[b]?)(hs:W.heap.size<=W2.heap.size)(h1:W2.os=W.os)(h2:W2.tape=W.tape)(h3:W2.output=W.output):DkIn G w dk V0 H W2 at_:=by
 obtain⟨xs,e,k1,k2⟩:=hd.cells;have hdk:dk<W.heap.size:=hd.lt dk (by rw[hd.dkz];simp);refine⟨fun b h=>lt_of_lt_of_le (hd.lt b h) hs,hd.zone,hd.dkz,hd.bxB,⟨xs,e,by rw[hk dk hdk (.inl (by rw[hd.dkz];simp))];exact k1,?_⟩,fun b hb hne=>⟨?_,(hd.keep b hb hne).2⟩,le_trans hd.size hs,hd.lo,h1.trans hd.os,h2.trans hd.tape,h3.trans hd.output⟩;refine k2.keep ⟨fun l a len z n cap ha=>⟨?_,fun j hj=>?_⟩,fun _ _ h=>h⟩;cases l with
 |none=>exact ha|own nm k=>
  obtain⟨q1,q2,q3⟩:=ha;refine⟨q1,q2,fun e=>?_⟩;have q4:H.Z a.block=.fam nm:=(q3 e).1.1;exfalso;by_cases e:a.block=dk;rw[e,hd.dkz]at q4;cases q4;rcases hd.zone _ e with h2|⟨n,h2⟩<;>rw[h2]at q4<;>cases q4
 |pre nm k=>
  obtain⟨q1,q2,q3⟩:=ha;refine⟨q1,q2,fun e=>?_⟩;have q4:H.Z a.block=.fam nm:=(q3 e).1;exfalso;by_cases e:a.block=dk;rw[e,hd.dkz]at q4;cases q4;rcases hd.zone _ e with h2|⟨n,h2⟩<;>rw[h2]at q4<;>cases q4
 |view nm=>exact ha|rv=>exact ha|arg=>exact ha
 · have hzn : H.Z a.block ≠ .out := by
     have st:∀len,qJ H a len->H.Z a.block≠.out:=fun len ⟨n,h,_⟩=>by rw[h];simp
     have rd:∀nm len,Rd H nm a len->H.Z a.block≠.out:=fun nm len h=>by rcases h with h|⟨h,_⟩;exact st _ h;rw[h];simp
     cases l with
     |none=>
      rcases ha with ha|ha|⟨nm,_,h,_⟩;omega;exact st _ ha;rw[h];simp
     |own nm k=>exact rd _ _ ha.2.1|pre nm k=>exact rd _ _ ha.2.1|view nm=>exact rd _ _ ha|rv=>exact ha.elim|arg=>exact ha.elim
   unfold World.cell?;rw[bM,hk _ (hd.lt _ hzn) (.inl hzn)]
 rw[hk b (lt_of_lt_of_le hb hd.size) (.inr hb)];exact(hd.keep b hb hne).1
theorem Start.deck{vs:List V}{cs:List Value}{bx:BX}(hs:Start Ω G w (.bp i 0::vs) cs bx)(hb:bx[i]?=some [V0,.int .i64 at_])(hn:bO [V0,.int .i64 at_]=true) :
  ∃cs',∃dk,cs=.pointer (some ⟨dk,0,none⟩)::cs'/\G.bxB[i]?=some dk/\G.Z dk=.bx i/\dk<w.heap.size/\RelL w (A0 G w) G.bxB vs cs'/\DkIn G w dk V0 (G.deck dk G.lo) w at_:=by
 have hargs:=hs.args;cases hargs with
 |cons _ c _ cs' h1 h2=>
  cases h1 with|bp _ _ dk hdk=>
   obtain⟨hnm,b,k1,k2,xs,e,k3,k4⟩:=hs.boxes.2 i _ hb;rw[hdk]at k1;cases k1;have hlt:dk<w.heap.size:=hs.ok.lt dk (by rw[k2];simp);refine⟨cs',dk,rfl,hdk,k2,hlt,h2,⟨fun b h=>?_,fun b hne=>?_,a6d,rfl,⟨xs,e,k3,?_⟩,fun b hb hne=>⟨rfl,a1h hne⟩,Nat.le_refl _,rfl,rfl,rfl,rfl⟩⟩;by_cases e:b=dk;subst e;exact hlt;rw[a1h e]at h;exact hs.ok.lt b fun e=>h (by simp only[Gh.hide,e])
   rw[a1h hne];exact a0R G b
   · have hk : jV w w (A0 G w) (A0 (G.deck dk G.lo) w) G.bxB G.bxB := ⟨fun l a len z n cap hl ha => by
       cases l with
       |none=>
        rcases ha with ha|⟨n',q1,q2⟩|⟨nm,q1,q2,q3⟩;exact⟨.inl ha,fun j hj=>rfl⟩;exact⟨.inr (.inl ⟨n',by rw[a1h (fun e=>by rw[e,k2]at q1;cases q1)];simp only[Gh.hide,q1],q2⟩),fun j _=>rfl⟩;exact⟨.inr (.inl ⟨G.ext nm,by rw[a1h (fun e=>by rw[e,k2]at q2;cases q2)];simp only[Gh.hide,q2],q3⟩),fun j _=>rfl⟩
       |rv s c v=>exact absurd ha (by simp[A0,At])|_=>simp[Lab.names]at hl,fun i blk h=>h⟩
     exact RelL.nobox (k4.keepB hk hnm) hn
def resV:V->Prop
 |.int ..|.nils=>True|.sl .none _ _ _=>True|.sl (.own j _) _ _ _=>j<64|_=>False
theorem a2B{v:V}(h:resV v):v.results=[v]:=by cases v<;>first|rfl|cases h
theorem resV_64{v:V}(h:resV v):(cP [v]).all (·<64)=true:=by
 rw[List.all_eq_true];intro x hx;obtain⟨c,hc,hx⟩:=aG0 hx;simp only[List.flatMap_cons,List.flatMap_nil,append_nil]at hc;cases v with
 |sl l z n ws=>
  simp only[V.cells,mem_singleton]at hc;subst hc;cases l with
  |own j k=>have h:j<64:=h;simp only[V.news1,Lab.news,mem_singleton]at hx;subst hx;exact decide_eq_true h|none=>simp[V.news1,Lab.news]at hx|_=>exact h.elim
 |int k n=>simp only[V.cells,mem_singleton]at hc;subst hc;simp[V.news1]at hx|nils=>simp only[V.cells,mem_singleton]at hc;subst hc;simp[V.news1]at hx|_=>exact h.elim
theorem a7b{H1 H2:Gh}{lk:Nat->Bool}{B:List Nat}{v:V}{c:Value}(h:Rel W (AtR H1 lk W) B v c)(hl:resV v)
  (h1:∀b n,H1.Z b=.st n->H2.Z b=.st n) (h2:∀b nm,H1.Z b=.fam nm->H2.Z b=.st (H1.ext nm)):Rel W (A0 H2 W) B (v.mapLab1 fun _=>.none) c:=by
 have hk:jV W W (AtR H1 lk W) (A0 H2 W) B B:=⟨fun l a len z n cap hl ha=>by
  cases l with
  |none=>
   rcases ha with ha|⟨n',q1,q2⟩|⟨nm,q1,q2,q3⟩;exact⟨.inl ha,fun j hj=>rfl⟩;exact⟨.inr (.inl ⟨n',h1 _ _ q1,q2⟩),fun j _=>rfl⟩;exact⟨.inr (.inl ⟨H1.ext nm,h2 _ _ q2,q3⟩),fun j _=>rfl⟩
  |rv s c v=>exact absurd ha (by simp[AtR])|view nm=>exact absurd ha (by simp[AtR])|_=>simp[Lab.names]at hl,fun i blk h=>h⟩
 cases v with
 |sl l z n ws=>
  obtain⟨a,cap,xs,rfl,hpl,hz,hxs,hcap,hmax,hrow,hrel,hnm⟩:=h.sl_inv;refine .sl .none z n ws a cap xs ?_ hz hxs hcap hmax hrow (hrel.keepB hk hnm) hnm;cases l with
  |none=>exact(hk.1 _ _ _ _ _ _ rfl hpl).1|own j k=>
   obtain⟨q1,q2,q3⟩:=hpl;refine .inr (.inl ⟨H1.ext (64+j),h2 _ _ q1.1,?_⟩);rw[q1.2.1];simp[q2]
  |_=>exact hl.elim
 |int k n=>exact Rel.keepB hk h rfl|nils=>exact Rel.keepB hk h rfl|_=>exact hl.elim
theorem DkIn.call{P:Program}{F:Nat->Option Entry}(hF:rJ Ω P F){f n:Nat}{vf:VF}(hf:F f=some (.code vf)){vs1:List V}{v0:V}{at':Int}(hC:call F n f (.bp 0 0::vs1) [[V0,.int .i64 at_]]=some (v0,[[V0,.int .i64 at']]))
  (hl:resV v0) (hn0:aC [V0]=[])
  (hG:GOk Ω G w) (hz:G.Z dk=.bx i) (hd:DkIn G w dk V0 H W at_) {cs1:List Value} (h1:RelL W (A0 H W) [dk] vs1 cs1) :
  Calls P f (Value.pointer (some ⟨dk,0,none⟩)::cs1).toArray W fun e W'=>∃c H',e=.returned c/\DkIn G w dk V0 H' W' at'/\Rel W' (A0 H' W') [dk] (v0.mapLab1 fun _=>.none) c/\(∀b,b<W.heap.size->b≠dk->W'.heap[b]?=W.heap[b]?/\H'.Z b=H.Z b)/\W.heap.size<=W'.heap.size:=by
 obtain⟨fn,hh,g1,g2⟩:=hF f _ hf;obtain⟨c,hb,_,_,_,_,_,hname⟩:=iY g2;obtain⟨xs,e,hx1,hx2⟩:=hd.cells;have hok:=hd.gok (i:=i) hG hz;have hst:Start Ω H W (.bp 0 0::vs1) (.pointer (some ⟨dk,0,none⟩)::cs1) [[V0,.int .i64 at_]]:=by
  refine⟨hok,fun b s c h=>?_,fun b nm h=>?_,?_,?_⟩;by_cases e:b=dk;subst e;rw[hd.dkz]at h;cases h;rcases hd.zone b e with h2|⟨n,h2⟩<;>rw[h2]at h<;>cases h
  by_cases e:b=dk;subst e;rw[hd.dkz]at h;cases h;rcases hd.zone b e with h2|⟨n,h2⟩<;>rw[h2]at h<;>cases h
  rw[hd.bxB];exact .cons _ _ _ _ (.bp 0 0 dk rfl) h1;refine⟨by rw[hd.bxB];rfl,fun j cs hj=>?_⟩;rw[hd.bxB];cases j with
  |zero=>cases hj;refine⟨?_,dk,rfl,hd.dkz,xs,e,hx1,hx2⟩;simp only[aC,append_nil,List.append_eq_nil_iff]at hn0 ⊢;exact⟨hn0,rfl⟩|succ j=>simp at hj
 have h64:(cP v0.results).all (·<64)=true:=by rw[a2B hl];exact resV_64 hl
 rcases aCn hF n f _ _ _ _ hC h64 H W _ hst with⟨_,h3⟩|⟨c',w',h3,_⟩;refine h3.mono fun e W' ⟨c',e1,rcs,H1,lk,e2,hR⟩=>?_
 have hrel:=hR.res;rw[a2B hl]at hrel;obtain⟨c,rfl,k3⟩:=a0m hrel;have hB:H1.bxB=[dk]:=by
  have q1:=hR.fr.boxes 0 dk (by rw[hd.bxB];rfl);have q2:1=H1.bxB.length:=hR.boxes.1
  match hq:H1.bxB,q1,q2 with
  |[x],q1,_=>simp at q1;rw[q1]
 obtain⟨_,b',q1,q2,xs',e',q3,q4⟩:=hR.boxes.2 0 _ rfl;rw[hB]at q1;cases q1;have hold:∀b,b<W.heap.size->b≠dk->W'.heap[b]?=W.heap[b]?/\H1.Z b=H.Z b:=fun b hb hne=>hR.fr.rest b hb (hd.zone b hne)
 have hz1:∀b n,H1.Z b=.st n->(H1.deck dk G.lo).Z b=.st n:=fun b n h=>by rw[a1h (fun e=>by rw[e,q2]at h;cases h)];simp only[Gh.hide,h]
 have hz2:∀b nm,H1.Z b=.fam nm->(H1.deck dk G.lo).Z b=.st (H1.ext nm):=fun b nm h=>by rw[a1h (fun e=>by rw[e,q2]at h;cases h)];simp only[Gh.hide,h]
 have hz3:∀b,b<W.heap.size->b≠dk->(H1.deck dk G.lo).Z b=H.Z b:=fun b hb hne=>by rw[a1h hne];simp only[Gh.hide,(hold b hb hne).2];rcases hd.zone b hne with h|⟨n,h⟩<;>rw[h]
 refine⟨c,H1.deck dk G.lo,by rw[e1,e2];rfl,⟨fun b h=>?_,fun b hne=>?_,a6d,rfl,⟨xs',e',q3,?_⟩,fun b hb hne=>?_,le_trans hd.size hR.fr.size,rfl,hR.fr.os.trans hd.os,hR.fr.tape.trans hd.tape,hR.fr.output.trans hd.output⟩,?_,fun b hb hne=>⟨(hold b hb hne).1,hz3 b hb hne⟩,hR.fr.size⟩;by_cases e:b=dk;subst e;exact hR.ok.lt b (by rw[q2];simp);rw[a1h e]at h;exact hR.ok.lt b fun e=>h (by simp only[Gh.hide,e])
 rw[a1h hne];exact a0R H1 b;rw[hB]at q4;have hk:jV W' W' (AtR H1 lk W') (A0 (H1.deck dk G.lo) W') [dk] [dk]:=⟨fun l a len z n cap hl ha=>by
  cases l with
  |none=>
   rcases ha with ha|⟨n',q1,q2⟩|⟨nm,q1,q2,q3⟩;exact⟨.inl ha,fun j hj=>rfl⟩;exact⟨.inr (.inl ⟨n',hz1 _ _ q1,q2⟩),fun j _=>rfl⟩;exact⟨.inr (.inl ⟨H1.ext nm,hz2 _ _ q2,q3⟩),fun j _=>rfl⟩
  |rv s c v=>exact absurd ha (by simp[AtR])|view nm=>exact absurd ha (by simp[AtR])|_=>simp[Lab.names]at hl,fun i blk h=>h⟩
 exact RelL.keepB hk q4 (by simp only[aC,append_nil]at hn0 ⊢;rw[hn0];rfl);obtain⟨p1,p2⟩:=hd.keep b hb hne;have hb2:=lt_of_lt_of_le hb hd.size;exact⟨(hold b hb2 hne).1.trans p1,(hz3 b hb2 hne).trans p2⟩;rw[hB]at k3;exact a7b k3 hl hz1 hz2;exfalso;unfold callFunc at h3;have hp:(Go.program:Sem Program).run P W=.ok P W:=rfl;rw[Sem.run_bind,hp,Result.andThen_ok,g1]at h3;simp only at h3;rw[if_neg (by rw[hname];simp),if_neg (by rw[hb];simp)]at h3;cases h3
def Adk(H:Gh)(w W:World):Pl
 |.none,a,len,_,_,_=>len=0\/qJ H a len\/(w.heap.size<=a.block/\∃cs e fr,W.heap[a.block]?=some (.cells cs e fr)/\a.off+len<=cs.size)|_,_,_,_,_,_=>False
def zSt(H:Gh)(W:World)(b:Nat):Nat:=max (match H.Z b with|.st n=>n|_=>0) (match W.heap[b]? with|some (.cells cs _ _)=>cs.size|_=>0)
def a4F(G H:Gh)(w W:World):Gh:={G with Z:=fun b=>if b<w.heap.size then G.Z b else if b<W.heap.size then .st (zSt H W b)else .out}
theorem a0P{b:Nat}(h:b<w.heap.size):(a4F G H w W).Z b=G.Z b:=by simp only[a4F,if_pos h]
theorem a4W{b:Nat}(h:¬b<w.heap.size)(h2:b<W.heap.size):(a4F G H w W).Z b=.st (zSt H W b):=by simp only[a4F,if_neg h,if_pos h2]
theorem a3N{b:Nat}{z:Zn}(h:(a4F G H w W).Z b=z)(hz:z≠.out)(hs:∀n,z≠.st n):G.Z b=z/\b<w.heap.size:=by by_cases hb:b<w.heap.size;rw[a0P hb]at h;exact⟨h,hb⟩;simp only[a4F,if_neg hb]at h;split at h;exact absurd h.symm (hs _);exact absurd h.symm hz
theorem a7c{vs:List V}{cs:List Value}{bx:BX}{rs:List V}{rcs:List Value}{at':Int}(hs:Start Ω G w vs cs bx)(hb:bx[i]?=some [V0,.int .i64 at_])(hi:G.bxB[i]?=some dk)(hz:G.Z dk=.bx i)(hn0:aC [V0]=[])(hnb:bO [V0,.int .i64 at']=true)
  (hd:DkIn G w dk V0 H W at') (hrel:RelL W (Adk H w W) [] rs rcs) (hflat:∀v∈rs,v.flat=true) :
  Ret Ω G w (a4F G H w W) (fun nm=>decide (nm<64)) W rs rcs bx (bx.set i [V0,.int .i64 at']):=by
 have hout:∀b,¬b<w.heap.size->G.Z b=.out:=fun b hb=>by by_cases ho:G.Z b=.out;exact ho;exact absurd (hs.ok.lt b ho) hb
 have hold:∀b,b<w.heap.size->b≠dk->W.heap[b]?=w.heap[b]?:=fun b h1 h2=>(hd.keep b h1 h2).1
 have hnd:∀b z,G.Z b=z->(∀j,z≠.bx j)->b≠dk:=fun b z h1 h2 e=>by subst e;rw[hz]at h1;exact h2 i h1.symm
 have hnx:=hs.ok.next (G':=a4F G H w W) (w':=W) (fun b h1 h2=>⟨lt_of_lt_of_le h2 hd.size,hold b h2 (by rcases h1 with h1|⟨n,h1⟩<;>exact hnd b _ h1 (by simp)),by rw[a0P h2];exact h1⟩) rfl
 have hst:∀(a:Addr) len,qJ H a len->(qJ (a4F G H w W) a len\/∃nm,decide (nm<64)=true/\(a4F G H w W).Z a.block=.fam nm/\a.off+len<=G.ext nm):=fun a len ⟨n,h1,h2⟩=>by
  have hne:a.block≠dk:=fun e=>by rw[e,hd.dkz]at h1;cases h1
  by_cases hbs:a.block<w.heap.size;rw[(hd.keep _ hbs hne).2]at h1;simp only[Gh.hide]at h1;split at h1;rename_i q;cases h1;exact .inl ⟨_,by rw[a0P hbs];exact q,h2⟩;rename_i nm q;cases h1;exact .inr ⟨nm,decide_eq_true (hs.fam _ _ q),by rw[a0P hbs];exact q,h2⟩;cases h1;refine .inl ⟨_,a4W hbs (hd.lt _ (by rw[h1];simp)),le_trans h2 ?_⟩;unfold zSt;rw[h1];exact Nat.le_max_left _ _
 have hk:jV W W (Adk H w W) (AtR (a4F G H w W) (fun nm=>decide (nm<64)) W) [] G.bxB:=⟨fun l a len z n cap hl ha=>by
  cases l with
  |none=>
   refine⟨?_,fun _ _=>rfl⟩;rcases ha with ha|ha|⟨h1,cur,e,fr,h3,h4⟩;exact .inl ha;rcases hst a len ha with h|⟨nm,q1,q2,q3⟩;exact .inr (.inl h);exact .inr (.inr ⟨nm,q1,q2,q3⟩);refine .inr (.inl ⟨_,a4W (Nat.not_lt.2 h1) (Array.getElem?_eq_some_iff.1 h3).1,le_trans h4 ?_⟩);unfold zSt;rw[h3];exact Nat.le_max_right _ _
  |_=>exact ha.elim,fun i blk h=>by simp at h⟩
 have hkH:jV W W (A0 H W) (AtR (a4F G H w W) (fun nm=>decide (nm<64)) W) [dk] [dk]:=⟨fun l a len z n cap hl ha=>by
  cases l with
  |none=>
   refine⟨?_,fun _ _=>rfl⟩;rcases ha with ha|ha|⟨nm,_,h1,_⟩;exact .inl ha;rcases hst a len ha with h|⟨nm,q1,q2,q3⟩;exact .inr (.inl h);exact .inr (.inr ⟨nm,q1,q2,q3⟩);exfalso;by_cases e:a.block=dk;rw[e,hd.dkz]at h1;cases h1;rcases hd.zone _ e with h|⟨n,h⟩<;>rw[h]at h1<;>cases h1
  |rv s c v=>exact absurd ha (by simp[A0,At])|_=>simp[Lab.names]at hl,fun i blk h=>h⟩
 have hkw:jV w W (A0 G w) (AtR (a4F G H w W) (fun nm=>decide (nm<64)) W) G.bxB G.bxB:=⟨fun l a len z n cap hl ha=>by
  have hcell:G.Z a.block≠.out->(∀j,G.Z a.block≠.bx j)->∀j,W.cell? (a.add j)=w.cell? (a.add j):=fun h1 h2 j=>by unfold World.cell?;rw[bM,hold _ (hs.ok.lt _ h1) (hnd _ _ rfl h2)]
  cases l with
  |none=>
   rcases ha with ha|ha|⟨nm,q1,q2,q3⟩;exact⟨.inl ha,fun j hj=>by omega⟩;obtain⟨n',q1,q2⟩:=ha;exact⟨.inr (.inl ⟨n',by rw[a0P (hs.ok.lt _ (by rw[q1];simp))];exact q1,q2⟩),fun j _=>hcell (by rw[q1];simp) (by rw[q1];simp) j⟩;exact⟨.inr (.inr ⟨nm,q1,by rw[a0P (hs.ok.lt _ (by rw[q2];simp))];exact q2,q3⟩),fun j _=>hcell (by rw[q2];simp) (by rw[q2];simp) j⟩
  |rv s c v=>exact absurd ha (by simp[A0,At])|_=>simp[Lab.names]at hl,fun i blk h=>h⟩
 have hlen:i<bx.length:=(List.getElem?_eq_some_iff.1 hb).1;refine⟨⟨fun b h=>?_,fun b nm h=>?_,fun b nm h=>?_,fun b s c h=>?_,hnx.1,hnx.2⟩,⟨hd.os,hd.tape,hd.output,hd.size,fun b hbs h=>⟨hold b hbs (by rcases h with h|⟨n,h⟩<;>exact hnd b _ h (by simp)),a0P hbs⟩,fun b nm _ h=>?_,fun _ _ h=>h⟩,fun j h=>?_,?_,hflat,⟨by rw[length_set];exact hs.boxes.1,fun j ds hj=>?_⟩,by rw[length_set];exact Nat.le_refl _⟩;by_cases hbs:b<w.heap.size;exact lt_of_lt_of_le hbs hd.size;simp only[a4F,if_neg hbs]at h;split at h;assumption;exact absurd rfl h;exact hs.ok.famU b nm (a3N h (by simp) (by simp)).1;obtain⟨h,hbs⟩:=a3N h (by simp) (by simp);obtain⟨cur,e,q1,q2⟩:=hs.ok.famC b nm h;exact⟨cur,e,by rw[hold b hbs (hnd b _ h (by simp))];exact q1,q2⟩;exact hs.ok.rgU b s c (a3N h (by simp) (by simp)).1;have hbs:=hs.ok.lt b (by rw[h];simp);refine⟨fun x hx _=>?_,.inl ⟨by rw[a0P hbs];exact h,Nat.le_refl _⟩⟩;unfold World.cell?;rw[hx,hold b hbs (hnd b _ h (by simp))];simp only[decide_eq_true_eq]at h;omega
 · exact (hrel.keep ⟨fun l a len z n cap ha => by
     cases l with|none=>exact hk.1 _ _ _ _ _ _ rfl ha|_=>exact ha.elim,hk.2⟩)
 by_cases e:j=i;subst e;rw[List.getElem?_set_self hlen]at hj;cases hj;obtain⟨xs,e,k1,k2⟩:=hd.cells;refine⟨by simp only[aC,append_nil]at hn0 ⊢;rw[hn0];rfl,dk,hi,?_,xs,e,k1,RelL.nobox (RelL.keepB hkH k2 (by simp only[aC,append_nil]at hn0 ⊢;rw[hn0];rfl)) hnb⟩;rw[a0P (hs.ok.lt dk (by rw[hz];simp))];exact hz;rw[List.getElem?_set_ne (fun h=>e h.symm)]at hj;obtain⟨k1,b,k2,k3,xs,e',k4,k5⟩:=hs.boxes.2 j ds hj;have hbs:=hs.ok.lt b (by rw[k3];simp);have hne:b≠dk:=fun q=>by subst q;rw[hz]at k3;cases k3;exact e rfl
 exact⟨k1,b,k2,by rw[a0P hbs];exact k3,xs,e',by rw[hold b hbs hne];exact k4,k5.keepB hkw k1⟩
end
def dkW(bx:BX)(i:Nat):V:=match bx[i]? with
 |some (v::_)=>v|_=>.undef
theorem a7L{bx:BX}{i:Nat}{v:V}{r:List V}(h:bx[i]?=some (v::r)):dkW bx i=v:=by simp only[dkW,h]
open Classical in
noncomputable def pD(ts:List Ty){β:Type}(g:(Ty.row (a1l::ts)).den->Option (β×(List Int×Int)))(en:V->(Ty.row (a1l::ts)).den->β->List V)(vs:List V)(bx:BX):Option (V×BX):=
 match vs with
 | .bp i 0 :: vs1 => if h : i < bx.length ∧ (∀ c ∈ bx.getD i [], c.bare0) ∧ (∀ u ∈ vs1.flatMap V.cells, u.bare0) ∧ ∃ p : (Ty.row (a1l :: ts)).den × (β × (List Int × Int)), iQ (a1l :: ts) p.1 (.agg (bx.getD i []) :: vs1) ∧ g p.1 = some p.2 then
     some (packed (en (dkW bx i) h.2.2.2.choose.1 h.2.2.2.choose.2.1),bx.set i [dkW bx i,.int .i64 h.2.2.2.choose.2.2.2])
  else none
 |_=>none
theorem pD_eq{ts:List Ty}{β:Type}{g:(Ty.row (a1l::ts)).den->Option (β×(List Int×Int))}{en:V->(Ty.row (a1l::ts)).den->β->List V}{i:Nat}{vs1 ds:List V}{bx:BX}{x:(Ty.row (a1l::ts)).den}{q:β×(List Int×Int)}(hb:bx[i]?=some ds)(h1:∀c∈ds,c.bare0)(h2:∀u∈vs1.flatMap V.cells,u.bare0)(h3:iQ (a1l::ts) x (.agg ds::vs1))(h4:g x=some q) :
  pD ts g en (.bp i 0::vs1) bx=some (packed (en (dkW bx i) x q.1),bx.set i [dkW bx i,.int .i64 q.2.2]):=by
 have hd:bx.getD i []=ds:=by rw[List.getD,hb];rfl
 have h:i<bx.length/\(∀c∈bx.getD i [],c.bare0)/\(∀u∈vs1.flatMap V.cells,u.bare0)/\∃p:(Ty.row (a1l::ts)).den×(β×(List Int×Int)),iQ (a1l::ts) p.1 (.agg (bx.getD i [])::vs1)/\g p.1=some p.2:=⟨(List.getElem?_eq_some_iff.1 hb).1,by rw[hd];exact h1,h2,(x,q),by rw[hd];exact h3,h4⟩;unfold pD;simp only;rw[dif_pos h];have hc:=h.2.2.2.choose_spec;generalize h.2.2.2.choose=p at hc ⊢;obtain⟨k1,k2⟩:=hc;have e:p=(x,q):=by rw[hd]at k1;have e1:=a2Q k1 h3;rw[e1,h4]at k2;exact Prod.ext e1 (Option.some.inj k2).symm
 rw[e]
theorem a3O{d:a1l.den}{ds:List V}(h:bP a1l d ds):∃V0,ds=[V0,.int .i64 d.2]/\bP (.sl (.int .i64)) d.1 [V0]:=by obtain⟨c,d',e,h1,h2⟩:=h;have h2:d'=[.int .i64 d.2]:=h2;subst h2;rcases h1 with⟨rfl,h0⟩|⟨lb,rs,rfl,h0⟩;exact⟨_,e,.inl ⟨rfl,h0⟩⟩;exact⟨_,e,.inr ⟨lb,rs,rfl,h0⟩⟩
theorem pD_ok{P:Program}{f:Nat}{ts:List Ty}{β:Type}{g:(Ty.row (a1l::ts)).den->Option (β×(List Int×Int))}{en:V->(Ty.row (a1l::ts)).den->β->List V}{fn:Func}{c:Code}(hf:P.funcs[f]?=some fn)(hb:fn.body=some c)(hname:(fn.name == "runtime.NumGoroutine")=false)
  (hen:∀x q,g x=some q->∀V0,bP (.sl (.int .i64)) (a0y a1l ts x).1 [V0]->V0.bare0->∀v∈en V0 x q.1,aN v=false/\v.flat=true/\∀xs,v≠.tup xs)
  (hc:∀x q,g x=some q->∀V0,bP (.sl (.int .i64)) (a0y a1l ts x).1 [V0]->V0.bare0->∀vs1,iQ ts (eA a1l ts x) vs1->(∀u∈vs1.flatMap V.cells,u.bare0)->
   ∀G w cs' dk i,GOk Ω G w->G.Z dk=.bx i->RelL w (A0 G w) G.bxB vs1 cs'->DkIn G w dk V0 (G.deck dk G.lo) w (a0y a1l ts x).2->
   Calls P f (Value.pointer (some ⟨dk,0,none⟩)::cs').toArray w fun e W=>∃rcs H,e=.returned (vT rcs)/\DkIn G w dk V0 H W q.2.2/\RelL W (Adk H w W) [] (en V0 x q.1) rcs):PrimBOk Ω P f (pD ts g en):=by
 have inv:∀vs bx v bx',pD ts g en vs bx=some (v,bx')->∃i vs1 V0 q x,vs=.bp i 0::vs1/\bx[i]?=some [V0,.int .i64 (a0y a1l ts x).2]/\bP (.sl (.int .i64)) (a0y a1l ts x).1 [V0]/\V0.bare0/\iQ ts (eA a1l ts x) vs1/\(∀u∈vs1.flatMap V.cells,u.bare0)/\g x=some q/\v=packed (en V0 x q.1)/\bx'=bx.set i [V0,.int .i64 q.2.2]:=fun vs bx v bx' h=>by
  unfold pD at h;split at h;rename_i i vs1;split at h;rename_i hh;have hc:=hh.2.2.2.choose_spec;generalize hh.2.2.2.choose=p at hc h;obtain⟨⟨u,us,e,k1,k2⟩,k3⟩:=hc;cases e;obtain⟨V0,e,k4⟩:=a3O k1.1;simp only[V.cells]at e;have hb:=List.getElem?_eq_getElem hh.1;have hg:bx.getD i []=bx[i]:=by rw[List.getD,hb];rfl
  cases h;rw[hg]at e;have hW:dkW bx i=V0:=a7L (by rw[hb,e]);refine⟨i,vs1,V0,_,_,rfl,by rw[hb,e],k4,?_,k2,hh.2.2.1,k3,by rw[hW],by rw[hW]⟩;exact hh.2.1 V0 (by rw[hg,e];simp);cases h;cases h
 refine⟨fun vs bx v bx' h u hu=>?_,fun vs bx v bx' h G w cs hs=>.inl ⟨?_,?_⟩⟩;obtain⟨i,vs1,V0,q,x,_,_,k2,k3,_,_,k6,rfl,_⟩:=inv _ _ _ _ h;rw[a0A fun v hv=>(hen x q k6 V0 k2 k3 v hv).2.2]at hu;exact(hen x q k6 V0 k2 k3 u hu).1;unfold callFunc;have hp:(Go.program:Sem Program).run P w=.ok P w:=rfl;rw[Sem.run_bind,hp,Result.andThen_ok,hf];simp only;rw[if_neg (by rw[hname];simp),if_neg (by rw[hb];simp)];rfl;obtain⟨i,vs1,V0,q,x,rfl,k1,k2,k3,k4,k5,k6,rfl,rfl⟩:=inv _ _ _ _ h;have hn0:aC [V0]=[]:=by rcases k2 with⟨e,_⟩|⟨lb,rs,e,_⟩;cases e;rfl;cases e;have k3:lb=.none:=k3;subst k3;rfl
 have hnb:∀a,bO [V0,.int .i64 a]=true:=fun a=>by rcases k2 with⟨e,_⟩|⟨lb,rs,e,h0,_⟩;cases e;rfl;cases e;have:=aHB (t:=.sl (.int .i64)) (x:=(a0y a1l ts x).1) (v:=.sl lb 1 (List.length (a0y a1l ts x).1) rs) ⟨.inr ⟨lb,rs,rfl,h0,‹_›⟩,rfl⟩;simp only[bO,Bool.and_true]at this ⊢;exact Bool.and_eq_true_iff.2 ⟨this,rfl⟩
 obtain⟨cs',dk,rfl,g1,g2,g3,g4,g5⟩:=hs.deck k1 (hnb _);refine(hc x q k6 V0 k2 k3 vs1 k4 k5 G w cs' dk i hs.ok g2 g4 g5).mono fun e W ⟨rcs,H,e1,e2,e3⟩=>⟨vT rcs,e1,rcs,a4F G H w W,(fun nm=>decide (nm<64)),rfl,?_⟩
 rw[a0A fun v hv=>(hen x q k6 V0 k2 k3 v hv).2.2];exact a7c hs k1 g1 g2 hn0 (hnb _) e2 e3 fun v hv=>(hen x q k6 V0 k2 k3 v hv).2.1
theorem qD2_ok{F:Nat->Option Entry}{f:Nat}{t:Ty}{g:(List Int×Int)×Int×Bool->Option (t.den×(List Int×Int))}{en:V->(List Int×Int)×Int×Bool->t.den->List V}(hF:F f=some (.primB (pD [.int .i64,.bool] g en)))
  (hl:∀x q,g x=some q->q.2.1=x.1.1) (h:∀x q,g x=some q->∀V0,bP (.sl (.int .i64)) x.1.1 [V0]->V0.bare0->iQ [t] q.1 (en V0 x q.1)/\∀c∈(en V0 x q.1).flatMap V.cells,c.bare0) (N:Nat) :
  wZ ⟨[.p a1l,.d (.int .i64),.d .bool],[(t,[])],none⟩ [] (call F (N+1) f) g:=by
 intro x q hx vs bx hA _ hnb;obtain⟨b,ds,vs1,rfl,hb,hc,hbare,hA⟩:=hA;obtain⟨ht,hb1⟩:=a2r (ps:=[.d (.int .i64),.d .bool]) (fun p hp=>by simp only[mem_cons,List.not_mem_nil,or_false]at hp;rcases hp with rfl|rfl<;>exact⟨_,rfl⟩) hA
 obtain⟨V0,rfl,hV⟩:=a3O hc;obtain⟨h1,h2⟩:=h x q hx V0 hV (hbare _ (by simp));have hr:(packed (en V0 x q.1)).results=en V0 x q.1:=a0A fun v hv xs e=>by obtain⟨v',us,e2,k1,k2⟩:=h1;rw[e2]at hv;have k2:us=[]:=k2;subst k2;rcases mem_cons.1 hv with rfl|hv;exact(aG k1).2.2.2.1 xs e;cases hv
 refine⟨packed (en V0 x q.1),bx.set b [V0,.int .i64 q.2.2],?_,?_,fun j hj hn=>?_,by rw[length_set];exact Nat.le_refl _,?_,⟨?_,by rw[hr]⟩,fun _=>⟨by rw[hr];exact h1,?_,?_,by rw[length_set]⟩,fun u hu=>by cases hu⟩;simp only[call,hF];have:=pD_eq (ts:=[.int .i64,.bool]) (β:=t.den) (en:=en) hb hbare hb1 ⟨_,_,rfl,⟨hc,rfl⟩,ht⟩ hx;rw[a7L hb]at this;exact this;have hq:=hl x q hx;obtain⟨q1,q2,q3⟩:=q;simp only at hq;subst hq;refine⟨⟨b,[V0,.int .i64 q3],rfl,List.getElem?_set_self (List.getElem?_eq_some_iff.1 hb).1,?_,fun c hc=>?_⟩,?_⟩;exact⟨[V0],[.int .i64 q3],rfl,hV,rfl⟩;simp only[mem_cons,List.not_mem_nil,or_false]at hc;rcases hc with rfl|rfl;exact hbare _ (by simp);trivial;trivial;rw[List.getElem?_set_ne fun e=>hn (by subst e;exact List.mem_cons_self)];refine sK hnb ?_;have h0:=aAy hnb _ (List.mem_of_getElem? hb);simp only[bO,Bool.and_true,Bool.and_eq_true]at h0 ⊢;exact⟨h0.1,rfl⟩;rw[hr];exact aAQ h1;rw[hr];exact vD (rs:=[(t,[])]) (fun p hp=>by rw[mem_singleton.1 hp]) h1 h2;intro c hc c' hc' j f f' z m cs z' m' cs' e1 e2;rw[hr]at hc;have:=h2 c hc;subst e1;cases this
end Go.VM
namespace Go.VM
set_option maxRecDepth 10000
theorem a0K{α β:Type}{x v:α}{f:α->β}{r:β}(h:x=v)(h2:f v=r):aJy x f=r:=by rw[aKO,h,h2]
theorem a0T{α β:Type}{x:Option α}{v:α}{f:α->Option β}{r:Option β}(h:x=some v)(h2:f v=r):x.bind f=r:=by rw[h,aKI,h2]
theorem a4G{α:Type}{b:Bool}{x y r:α}(h:b=false)(h2:y=r):(bif b then x else y)=r:=by rw[h,aKK,h2]
theorem a3n{α:Type}{b:Bool}{x y r:α}(h:b=true)(h2:x=r):(bif b then x else y)=r:=by rw[h,aKJ,h2]
theorem jB{α R:Type}{k:α->Option R}{f:(α->Option R)->Option R}{r:Option R}(h:f k=r):aBJ k f=r:=by rw[aJY,h]
theorem a0Y{α R:Type}{x:Option R}{r:R}(h:x=some r):(lJ x:Option (α ⊕ R))=some (.inr r):=by rw[h];exact aIE r
theorem a5F{α R:Type}{body:α->Option (α ⊕ R)}(s:Nat->α)(n:Nat){r:R}{x:α}(hx:x=s 0)(h:∀k,k<n->body (s k)=some (.inl (s (k+1))))(hr:body (s n)=some (.inr r)){m:Nat}(hm:n<m):eG m body x=some r:=by rw[hx];exact aIu s n h hr hm
theorem wv{n:Int}(m:Int)(h:n=m)(h1:-9223372036854775808<=m)(h2:m<=9223372036854775807):IntKind.i64.wrap n=m:=by rw[h];exact pV h1 h2
def a4X{A:Type}(F:Nat->A->Option A):Nat->Nat->A->Option A
 |0,_,a=>some a|m+1,i,a=>(F i a).bind (a4X F m (i+1))
theorem a6e{α R A:Type}{body:α->Option (α ⊕ R)}(F:Nat->A->Option A)(P:Nat->A->Prop)(s:Nat->A->α)(n:Nat)(bad:R)(fin:A->R)
  (h:∀i,i<n->∀a,P i a->(∀b,F i a=some b->P (i+1) b/\body (s i a)=some (.inl (s (i+1) b)))/\(F i a=none->body (s i a)=some (.inr bad)))
  (he:∀a,P n a->body (s n a)=some (.inr (fin a))):∀(m i:Nat) (a:A),i+m=n->P i a->∀M,m<M->eG M body (s i a)=some (match a4X F m i a with|some b=>fin b|none=>bad)/\∀b,a4X F m i a=some b->P n b
 |0,i,a,hi,hP,M+1,hM=>by
  have:i=n:=by omega
  subst this;exact⟨by simp only[eG,he a hP,a4X],fun b hb=>by cases hb;exact hP⟩
 |m+1,i,a,hi,hP,M+1,hM=>by
  obtain⟨h1,h2⟩:=h i (by omega) a hP;cases hF:F i a with
  |none=>exact⟨by simp only[eG,h2 hF,a4X,hF,Option.bind_none],fun b hb=>by simp only[a4X,hF,Option.bind_none]at hb;cases hb⟩|some b=>obtain⟨h3,h4⟩:=h1 b hF;obtain⟨k1,k2⟩:=a6e F P s n bad fin h he m (i+1) b (by omega) h3 M (by omega);refine⟨?_,?_⟩;simp only[eG,h4,a4X,hF,Option.bind_some];exact k1;simp only[a4X,hF,Option.bind_some];exact k2
theorem a3P{α R A:Type}{body:α->Option (α ⊕ R)}(F:Nat->A->Option A)(P:Nat->A->Prop)(s:Nat->A->α)(n:Nat)(bad:R)(fin:A->R)(a:A){x:α}{r:R}{M:Nat}(hx:x=s 0 a)(hP:P 0 a)
  (h:∀i,i<n->∀a,P i a->(∀b,F i a=some b->P (i+1) b/\body (s i a)=some (.inl (s (i+1) b)))/\(F i a=none->body (s i a)=some (.inr bad)))
  (he:∀a,P n a->body (s n a)=some (.inr (fin a))) (hM:n<M) (hr:(match a4X F n 0 a with|some b=>fin b|none=>bad)=r):eG M body x=some r:=by
 rw[hx,<-hr];exact(a6e F P s n bad fin h he n 0 a (Nat.zero_add n) hP M hM).1
end Go.VM
namespace Go.VM
def Ok{R:Type}(x:Option R)(Q:R->Prop):Prop:=∃r,x=some r/\Q r
variable{A B R S:Type}
theorem a0e{r:R}{Q:R->Prop}(h:Q r):Ok (some r) Q:=⟨r,rfl,h⟩
theorem ok_eq{x:Option R}{r:R}{Q:R->Prop}(h:x=some r)(k:Q r):Ok x Q:=⟨r,h,k⟩
theorem a0b{x:Option A}{f:A->Option R}{v:A}{Q:R->Prop}(h:x=some v)(k:Ok (f v) Q):Ok (x.bind f) Q:=by subst h;exact k
theorem a0d{x:Option A}{f:A->Option R}{P:A->Prop}{Q:R->Prop}(h:Ok x P)(k:∀v,P v->Ok (f v) Q):Ok (x.bind f) Q:=by obtain⟨v,rfl,hv⟩:=h;exact k v hv
theorem a0a{v:A}{f:A->Option R}{Q:R->Prop}(k:Ok (f v) Q):Ok (aJy v f) Q:=by rw[aJl];exact k
theorem a0c{v w:A}{f:A->Option R}{Q:R->Prop}(e:v=w)(k:Ok (f w) Q):Ok (aJy v f) Q:=by subst e;exact a0a k
theorem a0n{c:Bool}{x y:Option R}{Q:R->Prop}(h:c=true->Ok x Q)(k:c=false->Ok y Q):Ok (bif c then x else y) Q:=by cases c;exact k rfl;exact h rfl
theorem a0h{f:A->Option R}{k:(A->Option R)->Option R}(P:A->Prop){Q:R->Prop}(hf:∀x,P x->Ok (f x) Q)(hk:∀g:A->Option R,(∀x,P x->Ok (g x) Q)->Ok (k g) Q):Ok (aBJ f k) Q:=by rw[aJY];exact hk f hf
def Round(n i:Nat)(I:Nat->A->Prop)(Q:R->Prop):A ⊕ R->Prop
 |.inl b=>i<n/\I (i+1) b|.inr r=>Q r
theorem a0q{n i:Nat}{I:Nat->A->Prop}{Q:R->Prop}{b:A}(h:i<n)(k:I (i+1) b):Ok (tN b) (Round n i I Q):=⟨.inl b,rfl,h,k⟩
theorem a0k{n i:Nat}{I:Nat->A->Prop}{Q:R->Prop}{x:Option R}(h:Ok x Q):Ok (lJ x) (Round n i I Q):=by obtain⟨r,rfl,hr⟩:=h;exact⟨.inr r,rfl,hr⟩
theorem a0v{body:A->Option (A ⊕ R)}(I:Nat->A->Prop)(n:Nat){Q:R->Prop}(h:∀i a,I i a->Ok (body a) (Round n i I Q)){x:A}(hx:I 0 x){M:Nat}(hM:n<M):Ok (eG M body x) Q:=by
 have key:∀(m i:Nat) (a:A) (M:Nat),I i a->n<=i+m->m<M->Ok (eG M body a) Q:=by
  intro m
  induction m with
  |zero=>
   intro i a M ha hm hM;obtain⟨M,rfl⟩:∃k,M=k+1:=⟨M-1,by omega⟩;obtain⟨s,hs,hq⟩:=h i a ha;cases s with
   |inl b=>exact absurd hq.1 (by omega)|inr r=>exact⟨r,by simp only[eG,hs],hq⟩
  |succ m ih=>
   intro i a M ha hm hM;obtain⟨M,rfl⟩:∃k,M=k+1:=⟨M-1,by omega⟩;obtain⟨s,hs,hq⟩:=h i a ha;cases s with
   |inl b=>
    obtain⟨r,hr,hq'⟩:=ih (i+1) b M hq.2 (by omega) (by omega);exact⟨r,by simp only[eG,hs,hr],hq'⟩
   |inr r=>exact⟨r,by simp only[eG,hs],hq⟩
 exact key n 0 x M hx (by omega) hM
end Go.VM
namespace Go.VM
open Go.RowKit
def a4Y(P:Program)(name:String)(k:IntKind):Bool:=match P.globalNamed name with
 |some g=>match(P.globals[g]?).map (·.type)with
  |some t=>match P.underlying t with
   |some (.array n e)=>(match P.underlying e with|some (.int k')=>decide (k'=k)|_=>false)&&(decide (P.cellsOf e=1)&&decide (P.cellsOf t=n))
   |_=>false
  |none=>false
 |none=>false
def a3Q(P:Program)(name:String):Bool:=match P.globalNamed name with
 |some g=>match(P.globals[g]?).map (·.type)with
  |some t=>match P.underlying t with
   |some (.interface _)=>true|_=>false
  |none=>false
 |none=>false
theorem a2W{P:Program}{W:World}{l:List (String×DataW Unit)}{name:String}{k:IntKind}{zs:List Int}(hL:laidMet P l W)(hty:a4Y P name k=true)(he:l.filter (fun x=>x.1==name)=[(name,Lib.tabData k zs)]):Lib.TabIs P W name k zs:=by have h:=hL.filter (fun x=>x.1==name);rw[he]at h;unfold a4Y at hty;split at hty;rename_i g hg;split at hty;rename_i t ht;split at hty;rename_i n e hu;split at hty;rename_i k' hk;simp only[Bool.and_eq_true,decide_eq_true_eq]at hty;obtain⟨rfl,h1,h2⟩:=hty;exact Lib.tabIs_of_head hg ht hu hk h1 h2 h;simp at hty;cases hty;cases hty;cases hty
theorem a2C{P:Program}{W:World}{l:List (String×DataW Unit)}{name nm:String}{d:DataW Unit}(hL:laidMet P l W)(hty:a3Q P name=true)(he:l.filter (fun x=>x.1==name)=[(name,.iface nm d)]):∃tp p,W.var? P name=some #[.iface tp p]:=by have h:=hL.filter (fun x=>x.1==name);rw[he]at h;obtain⟨ps,⟨g0,t0,cs0,f0,p0,q0,hg0,ht0,hv0,hd0,_,_⟩,_⟩:=h;unfold a3Q at hty;rw[hg0]at hty;simp only[ht0]at hty;split at hty;rename_i ms hu;obtain⟨f1,u,v,hc,_,_⟩:=iface_of_trod hu hd0;obtain⟨l0⟩:=cs0;have hc:l0=[.iface u v]:=hc;subst hc;exact⟨u,v,hv0⟩;cases hty
theorem a5G{P:Program}{W:World}{l:List (String×DataW Unit)}{pw er:Bool}{tz:Option (List Int)}(hs:W.ShapedOpen P)(hh:(l.all fun x=>x.2.handleName?.isNone)=true)(hL:laidMetH P l W)
  (h1:pw=true->a4Y P "internal/strconv.uint64pow10" .u64=true/\l.filter (fun x=>x.1 == "internal/strconv.uint64pow10")=[("internal/strconv.uint64pow10",Lib.tabData .u64 Lib.pow10Tab)])
  (h2:er=true->(a3Q P "strconv.ErrSyntax" && a3Q P "strconv.ErrRange")=true/\l.filter (fun x=>x.1 == "strconv.ErrSyntax")=[("strconv.ErrSyntax",.iface "*errors.errorString" (.ptr (.agg [.lit (.string [105,110,118,97,108,105,100,32,115,121,110,116,97,120])])))]/\l.filter (fun x=>x.1 == "strconv.ErrRange")=[("strconv.ErrRange",.iface "*errors.errorString" (.ptr (.agg [.lit (.string [118,97,108,117,101,32,111,117,116,32,111,102,32,114,97,110,103,101])])))])
  (h3:∀z,tz=some z->a4Y P "math/bits.deBruijn64tab" .u8=true/\l.filter (fun x=>x.1 == "math/bits.deBruijn64tab")=[("math/bits.deBruijn64tab",Lib.tabData .u8 z)]):Om P pw er tz W:=by
 have hL':laidMet P l W:=by have h:=(laidMetH_iff.1 hL).1;rw[List.filter_eq_self.2 fun x hx=>List.all_eq_true.1 hh x hx]at h;exact h
 refine⟨hs,fun hp=>a2W hL' (h1 hp).1 (h1 hp).2,fun he=>?_,fun z hz=>a2W hL' (h3 z hz).1 (h3 z hz).2⟩;obtain⟨ht,k1,k2⟩:=h2 he;rw[Bool.and_eq_true]at ht;exact⟨a2C hL' ht.1 k1,a2C hL' ht.2 k2⟩
end Go.VM
