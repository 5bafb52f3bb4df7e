/- Functions of the table, as contracts for a walk by hand: rows that are handed back are new, apart, and the caller's own. -/
import Derived.Test.YtbpocjclcbjggaaGreatDoorH2
namespace Go.VM
open Go.RowKit
variable{Ω:World->Prop}
/-- A value whose own rows are the caller's: each in a block of its own;'Q': where the rows within lie. -/
def HCX(w:World)(base:Nat)(Q:Nat->Prop):(t:Ty)->t.den->List Value->Prop
 |.sl t,l,cs=>(l=[]/\cs=[.slice none 0 0])\/∃g cap cur e,∃fr:Nat×Nat,cs=[.slice (some ⟨g,0,none⟩) (List.length l) cap]/\base<=g/\w.heap[g]?=some (.cells cur e fr)/\Fz fr cur.size/\List.length l<=cap/\cap<=maxLen/\0<t.size/\cur.size=cap*t.size/\HRows (HC w Q t) l (cur.toList.take (List.length l*t.size))
 |.st t,x,cs=>HCX w base Q t x cs
 |.pair a b,x,cs=>∃c d,cs=c++d/\HCX w base Q a x.1 c/\HCX w base Q b x.2 d
 |.unit,x,cs=>HC w Q .unit x cs
 |.bool,x,cs=>HC w Q .bool x cs
 |.int k,x,cs=>HC w Q (.int k) x cs
 |.str,x,cs=>HC w Q .str x cs
 |.err,x,cs=>HC w Q .err x cs
 |.av k n,x,cs=>HC w Q (.av k n) x cs
 |.fn f,x,cs=>HC w Q (.fn f) x cs
def V.data:V->Prop
 |.bool _|.int ..|.str _|.nils|.sl ..=>True
 |_=>False
/-- What is known of a value that a function of the table handed back,all of whose rows are the caller's. 'v0': the machine's words for it. -/
structure Given(G:Gh)(w W W1:World)(t:Ty)(x:t.den)(v0:V)(c:Value)(Q:Nat->Prop):Prop where
 agg:Value.isAgg c=t.agg
 val:HCX W1 W.heap.size Q t x c.cells.toList
 low:∀b,Q b->b<W1.heap.size
 mid:∀b,Q b->b<w.heap.size\/W.heap.size<=b
 off:∀(i g:Nat) n cp,c.cells.toList[i]?=some (.slice (some ⟨g,0,none⟩) n cp)->¬Q g
 one:∀(i j g:Nat) n cp n' cp',c.cells.toList[i]?=some (.slice (some ⟨g,0,none⟩) n cp)->c.cells.toList[j]?=some (.slice (some ⟨g,0,none⟩) n' cp')->i=j
 len:c.cells.toList.length=v0.cells.length
 wds:∀(i:Nat) v u (W2:World),v0.cells[i]?=some v->c.cells.toList[i]?=some u->(∀b,b<W1.heap.size->(Q b\/u.ownBlock=some b)->W2.heap[b]?=W1.heap[b]?)->RelL W2 (Abk G w W2) G.bxB [v.mapLab1 fun _=>.none] [u]
open Classical in
/-- A function that is walked by hand and may hand on what it was handed: as qI of the table. -/
noncomputable def pM(ts:List Ty){β:Type}(g:(Ty.row ts).den->Option β)(en:List V->β->List V)(vs:List V):Option V:=
 if h:∃r x,iQ ts x vs/\(∀u∈vs.flatMap V.cells,u.bare0)/\g x=some r then some (packed (en vs h.choose))else none
theorem pM_eq{ts:List Ty}{β:Type}{g:(Ty.row ts).den->Option β}{en:List V->β->List V}{vs:List V}{x:(Ty.row ts).den}{r:β}(h1:iQ ts x vs)(hb:∀u∈vs.flatMap V.cells,u.bare0)(h2:g x=some r):pM ts g en vs=some (packed (en vs r)):=by
 have h:∃r x,iQ ts x vs/\(∀u∈vs.flatMap V.cells,u.bare0)/\g x=some r:=⟨r,x,h1,hb,h2⟩;unfold pM;rw[dif_pos h];obtain⟨y,k1,_,k2⟩:=h.choose_spec;rw[trel_inj k1 h1,h2]at k2;cases k2;rfl
theorem pM_ok{P:Program}{f:Nat}{ts:List Ty}{β:Type}{g:(Ty.row ts).den->Option β}{en:List V->β->List V}{fn:Func}{c:Code}(hf:P.funcs[f]?=some fn)(hb:fn.body=some c)(hname:(fn.name == "runtime.NumGoroutine")=false)
  (hen:∀vs x r,iQ ts x vs->(∀u∈vs.flatMap V.cells,u.bare0)->g x=some r->∀v∈en vs r,aN v=false/\v.flat=true/\∀xs,v≠.tup xs)
  (hc:∀x r,g x=some r->∀vs,iQ ts x vs->(∀u∈vs.flatMap V.cells,u.bare0)->∀G w cs bx,Start Ω G w vs cs bx->
   Calls P f cs.toArray w fun e w'=>∃rcs,e=.returned (vT rcs)/\Below w.heap.size w w'/\RelL w' (Abk G w w') G.bxB (en vs r) rcs):PrimOk Ω P f [] (pM ts g en):=by
 have inv:∀vs v,pM ts g en vs=some v->∃x r,iQ ts x vs/\(∀u∈vs.flatMap V.cells,u.bare0)/\g x=some r/\v=packed (en vs r):=fun vs v h=>by
  unfold pM at h;split at h
  .rename_i hh;obtain⟨x,k1,k3,k2⟩:=hh.choose_spec;cases h;exact⟨x,_,k1,k3,k2,rfl⟩
  .cases h
 refine primOk_mix hf hb hname (fun vs v hp G w cs bx hs=>?_) fun vs v hp u hu=>?_
 .obtain⟨x,r,h1,h3,h2,rfl⟩:=inv vs v hp;rw[results_en fun v hv=>(hen vs x r h1 h3 h2 v hv).2.2];exact hc x r h2 vs h1 h3 G w cs bx hs
 .obtain⟨x,r,h1,h3,h2,rfl⟩:=inv vs v hp;rw[results_en fun v hv=>(hen vs x r h1 h3 h2 v hv).2.2]at hu;exact⟨(hen vs x r h1 h3 h2 u hu).1,(hen vs x r h1 h3 h2 u hu).2.1⟩
theorem arel_trelB:∀{ps:List PK} {bx:BX} {i:Nat} {x:(Ty.row (ps.map PK.ty)).den} {vs:List V},(∀p∈ps,∃u,p=.d u)->aAB [] bx ps i x vs->iQ (ps.map PK.ty) x vs/\∀u∈vs.flatMap V.cells,u.bare0
 |[],_,_,_,_,_,h=>⟨h,fun u hu=>by cases h;cases hu⟩
 |.d t::r,_,_,_,_,hp,⟨v,vs',e,h1,h3,_,h2⟩=>by
  subst e;obtain⟨k1,k2⟩:=arel_trelB (fun p hp'=>hp p (List.mem_cons_of_mem _ hp')) h2;refine⟨⟨v,vs',rfl,h1,k1⟩,fun u hu=>?_⟩;rw[List.flatMap_cons]at hu;rcases List.mem_append.1 hu with hu|hu
  .rcases h3 with h3|⟨h3,_⟩
   .exact h3 u hu
   .simp at h3
  .exact k2 u hu
 |.p t::r,_,_,_,_,hp,_=>by obtain⟨u,hu⟩:=hp (.p t) (by simp);cases hu
theorem qM_ok{ps:List PK}{rs:List (Ty×List (Nat×Bool))}{F:Nat->Option Entry}{f:Nat}{g:(Sg.a ⟨ps,rs,none⟩).den->Option (Sg.r ⟨ps,rs,none⟩).den}{en:List V->(Sg.r ⟨ps,rs,none⟩).den->List V}(hF:F f=some (.prim [] (pM (ps.map PK.ty) g en)))
  (hd:∀p∈ps,∃u,p=.d u) (hrs:∀p∈rs,p.2=[]) (h:∀x r,g x=some r->∀vs,iQ (ps.map PK.ty) x vs->(∀u∈vs.flatMap V.cells,u.bare0)->iQ (rs.map Prod.fst) (eR (rs.map Prod.fst) (bD ps) r) (en vs r)/\∀c∈(en vs r).flatMap V.cells,c.bare0) (N:Nat) :
  wZ ⟨ps,rs,none⟩ [] (call F (N+1) f) g:=by
 refine aGe hF hd hrs (fun x r hx vs bx hA=>?_) N;obtain⟨ht,hb⟩:=arel_trelB hd hA;obtain⟨h1,h2⟩:=h x r hx vs ht hb;have hr:(packed (en vs r)).results=en vs r:=results_en fun v hv xs e=>by
  have:∀{ts:List Ty} {x:(Ty.row ts).den} {us:List V},iQ ts x us->∀v∈us,∀xs,v≠.tup xs:=by
   intro ts
   induction ts with
   |nil=>intro x us h v hv;cases h;cases hv
   |cons t r ih=>
    intro x us ⟨u,us',e,k1,k2⟩ v hv;subst e;rcases List.mem_cons.1 hv with rfl|hv
    .exact(aG k1).2.2.2.1
    .exact ih k2 v hv
  exact this h1 v hv xs e
 exact⟨_,pM_eq ht hb hx,by rw[hr];exact h1,by rw[hr];exact h2,by rw[hr]⟩
end Go.VM
