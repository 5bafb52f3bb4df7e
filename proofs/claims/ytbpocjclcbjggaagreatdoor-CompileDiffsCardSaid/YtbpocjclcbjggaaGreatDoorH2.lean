/- Functions that are walked by hand, as entries of the table; and functions of the table, as contracts for a walk by hand. -/
import Derived.Test.YtbpocjclcbjggaaGreatDoorH1
namespace Go.VM
open Go.RowKit
variable{Ω:World->Prop}
theorem rows_inj{α:Type}{R:α->List V->Prop}{z:Nat}(hz:∀x c,R x c->c.length=z)(hR:∀x y c,R x c->R y c->x=y):∀{l m:List α} {cs:List V},l.length=m.length->aL R l cs->aL R m cs->l=m
 |[],[],_,_,_,_=>rfl
 |[],_::_,_,h,_,_=>by simp at h
 |_::_,[],_,h,_,_=>by simp at h
 |x::l,y::m,_,hl,⟨c,r,e,h1,h2⟩,⟨d,s,e',h3,h4⟩=>by
  have hc:c=d/\r=s:=List.append_inj (e.symm.trans e') (by rw[hz _ _ h1,hz _ _ h3]);obtain⟨rfl,rfl⟩:=hc;rw[hR x y c h1 h3,rows_inj hz hR (by simpa using hl) h2 h4]
theorem crel_inj:∀{t:Ty} {x y:t.den} {vs:List V},bP t x vs->bP t y vs->x=y
 |.unit,_,_,_,_,_=>rfl
 |.bool,_,_,_,h,k=>by cases h;cases k;rfl
 |.int _,_,_,_,h,k=>by cases h;cases k;rfl
 |.str,_,_,_,h,k=>by cases h;cases k;rfl
 |.err,x,y,_,h,k=>by
  rcases h with⟨rfl,h⟩|⟨_,_,rfl,_,h⟩<;>rcases k with⟨e,k⟩|⟨_,_,e,_,k⟩
  .exact(show(x:Bool)=y from h.trans k.symm)
  .cases e
  .cases e
  .exact(show(x:Bool)=y from h.trans k.symm)
 |.sl t,x,y,_,h,k=>by
  rcases h with⟨rfl,h⟩|⟨lb,rs,rfl,h,_⟩<;>rcases k with⟨e,k⟩|⟨lb',rs',e,k,_⟩
  .exact(show(x:List t.den)=y from h.trans k.symm)
  .cases e
  .cases e
  .simp only[List.cons.injEq,V.sl.injEq,and_true,true_and]at e;obtain⟨_,e1,e2⟩:=e;subst e2;exact rows_inj (z:=t.size) (fun x c hx=>aF hx) (fun x y c=>crel_inj) e1 h k
 |.st t,_,_,_,h,k=>crel_inj (t:=t) h k
 |.pair a b,x,y,_,⟨c,d,e,h1,h2⟩,⟨c',d',e',k1,k2⟩=>by
  have hc:c=c'/\d=d':=List.append_inj (e.symm.trans e') (by rw[aF h1,aF k1]);obtain⟨rfl,rfl⟩:=hc;exact Prod.ext (crel_inj h1 k1) (crel_inj h2 k2)
 |.av _ _,x,y,_,⟨_,h⟩,⟨_,k⟩=>by
  have:List.map (V.int _) x=List.map (V.int _) y:=h.symm.trans k;exact(List.map_inj_right fun a b h=>by cases h;rfl).1 this
 |.fn _,_,_,_,_,_=>rfl
theorem row_ext{t:Ty}:∀{r:List Ty} {x y:(Ty.row (t::r)).den},dT t r x=dT t r y->eA t r x=eA t r y->x=y
 |[],_,_,h,_=>h
 |_::_,_,_,h,k=>Prod.ext h k
theorem trel_inj:∀{ts:List Ty} {x y:(Ty.row ts).den} {vs:List V},iQ ts x vs->iQ ts y vs->x=y
 |[],_,_,_,_,_=>rfl
 |t::r,x,y,_,⟨v,vs,e,h1,h2⟩,⟨v',vs',e',k1,k2⟩=>by
  subst e;cases e';exact row_ext (crel_inj h1.1 k1.1) (trel_inj h2 k2)
open Classical in
/-- A function that is walked by hand: 'en': the machine's words for what it hands back. -/
noncomputable def pH(ts:List Ty){β:Type}(g:(Ty.row ts).den->Option β)(en:List V->β->List V)(vs:List V):Option V:=
 if h:∃r x,iQ ts x vs/\g x=some r then some (packed (en vs h.choose))else none
theorem pH_eq{ts:List Ty}{β:Type}{g:(Ty.row ts).den->Option β}{en:List V->β->List V}{vs:List V}{x:(Ty.row ts).den}{r:β}(h1:iQ ts x vs)(h2:g x=some r):pH ts g en vs=some (packed (en vs r)):=by
 have h:∃r x,iQ ts x vs/\g x=some r:=⟨r,x,h1,h2⟩;unfold pH;rw[dif_pos h];obtain⟨y,k1,k2⟩:=h.choose_spec;rw[trel_inj k1 h1,h2]at k2;cases k2;rfl
theorem pH_inv{ts:List Ty}{β:Type}{g:(Ty.row ts).den->Option β}{en:List V->β->List V}{vs:List V}{v:V}(h:pH ts g en vs=some v):∃x r,iQ ts x vs/\g x=some r/\v=packed (en vs r):=by
 unfold pH at h;split at h
 .rename_i hh;obtain⟨x,k1,k2⟩:=hh.choose_spec;cases h;exact⟨x,_,k1,k2,rfl⟩
 .cases h
theorem results_en{us:List V}(h:∀v∈us,∀xs,v≠.tup xs):(packed us).results=us:=by
 match us with
 |[]=>rfl
 |[v]=>
  show v.results=[v];cases v with
  |tup xs=>exact absurd rfl (h _ (by simp) xs)
  |_=>rfl
 |_::_::_=>rfl
theorem pH_ok{P:Program}{f:Nat}{ts:List Ty}{β:Type}{g:(Ty.row ts).den->Option β}{en:List V->β->List V}{fn:Func}{c:Code}(hf:P.funcs[f]?=some fn)(hb:fn.body=some c)(hname:(fn.name == "runtime.NumGoroutine")=false)
  (hen:∀vs x r,iQ ts x vs->g x=some r->∀v∈en vs r,aN v=false/\v.flat=true/\∀xs,v≠.tup xs)
  (hc:∀x r,g x=some r->∀vs,iQ ts x vs->∀(w:World) (A:Pl) (B:List Nat) (cs:List Value),(∀w':World,(∀b,b<w.heap.size->w'.heap[b]?=w.heap[b]?)->Ω w')->RelL w A B vs cs->
   Calls P f cs.toArray w fun e w'=>∃rcs,e=.returned (vT rcs)/\Below w.heap.size w w'/\RelL w' (aGu w w') [] (en vs r) rcs):PrimOk Ω P f [] (pH ts g en):=by
 refine aCo hf hb hname (fun vs v hp G w cs bx hs=>?_) fun vs v hp u hu=>?_
 .obtain⟨x,r,h1,h2,rfl⟩:=pH_inv hp;rw[results_en fun v hv=>(hen vs x r h1 h2 v hv).2.2];exact hc x r h2 vs h1 w _ _ cs (fun w' hw=>hs.ok.inv w' fun b hb=>hw b ((hs.ok.low b hb).1)) hs.args
 .obtain⟨x,r,h1,h2,rfl⟩:=pH_inv hp;rw[results_en fun v hv=>(hen vs x r h1 h2 v hv).2.2]at hu;exact⟨(hen vs x r h1 h2 u hu).1,(hen vs x r h1 h2 u hu).2.1⟩
theorem arel_trel:∀{ps:List PK} {bx:BX} {i:Nat} {x:(Ty.row (ps.map PK.ty)).den} {vs:List V},(∀p∈ps,∃u,p=.d u)->aAB [] bx ps i x vs->iQ (ps.map PK.ty) x vs
 |[],_,_,_,_,_,h=>h
 |.d t::r,_,_,_,_,hp,⟨v,vs',e,h1,_,_,h2⟩=>⟨v,vs',e,h1,arel_trel (fun p hp'=>hp p (List.mem_cons_of_mem _ hp')) h2⟩
 |.p t::r,_,_,_,_,hp,_=>by obtain⟨u,hu⟩:=hp (.p t) (by simp);cases hu
theorem qH_ok{ps:List PK}{rs:List (Ty×List (Nat×Bool))}{F:Nat->Option Entry}{f:Nat}{g:(Sg.a ⟨ps,rs,none⟩).den->Option (Sg.r ⟨ps,rs,none⟩).den}{en:List V->(Sg.r ⟨ps,rs,none⟩).den->List V}(hF:F f=some (.prim [] (pH (ps.map PK.ty) g en)))
  (hd:∀p∈ps,∃u,p=.d u) (hrs:∀p∈rs,p.2=[]) (h:∀x r,g x=some r->∀vs,iQ (ps.map PK.ty) x vs->iQ (rs.map Prod.fst) (eR (rs.map Prod.fst) (bD ps) r) (en vs r)/\∀c∈(en vs r).flatMap V.cells,c.bare0) (N:Nat) :
  wZ ⟨ps,rs,none⟩ [] (call F (N+1) f) g:=by
 refine aGe hF hd hrs (fun x r hx vs bx hA=>?_) N;have ht:=arel_trel hd hA;obtain⟨h1,h2⟩:=h x r hx vs ht;have hr:(packed (en vs r)).results=en vs r:=results_en fun v hv xs e=>by
  have:∀{ts:List Ty} {x:(Ty.row ts).den} {us:List V},iQ ts x us->∀v∈us,∀xs,v≠.tup xs:=by
   intro ts
   induction ts with
   |nil=>intro x us h v hv;cases h;cases hv
   |cons t r ih=>
    intro x us ⟨u,us',e,k1,k2⟩ v hv;subst e;rcases List.mem_cons.1 hv with rfl|hv
    .exact(aG k1).2.2.2.1
    .exact ih k2 v hv
  exact this h1 v hv xs e
 exact⟨_,pH_eq ht hx,by rw[hr];exact h1,by rw[hr];exact h2,by rw[hr]⟩
/- a function of the table,for a walk by hand -/
theorem hvs_rel{w:World}{Q:Nat->Prop}:∀{ps:List PK} {x:(Ty.row (ps.map PK.ty)).den} {cs:List Value},(∀p∈ps,∃u,p=.d u/\(u.agg=true\/u.size=1))->HVs w Q (ps.map PK.ty) x cs->∃vs,RelL w (A1 w) [] vs cs/\∀i,aAB [] [] ps i x vs
 |[],_,_,_,h=>by cases h;exact⟨[],.nil,fun _=>rfl⟩
 |.d t::r,_,_,hp,⟨c,cs',e,h1,h2⟩=>by
  subst e;obtain⟨u,hu,ht⟩:=hp (.d t) (by simp);cases hu;obtain⟨v,k1,k2,k3⟩:=hv_rel (A:=A1 w) (B:=[]) (fun a rows z n cap hr _=>zD hr z n cap) ht h1;obtain⟨vs,k4,k5⟩:=hvs_rel (fun p hp'=>hp p (List.mem_cons_of_mem _ hp')) h2;exact⟨v::vs,.cons _ _ _ _ k1 k4,fun i=>⟨v,vs,rfl,k2,.inl k3,fun h=>by simp at h,k5 (i+1)⟩⟩
 |.p t::r,_,_,hp,_=>by obtain⟨u,hu,_⟩:=hp (.p t) (by simp);cases hu
theorem trel_hvs{w:World}{A:Pl}{B:List Nat}:∀{ts:List Ty} {x:(Ty.row ts).den} {vs:List V} {cs:List Value},iQ ts x vs->RelL w A B vs cs->HVs w (fun b=>b<w.heap.size) ts x cs
 |[],_,_,_,h,hr=>by cases h;cases hr;rfl
 |t::r,_,_,_,⟨v,vs,e,h1,h2⟩,hr=>by
  subst e;cases hr with
  |cons _ c _ cs k1 k2=>
   refine⟨c,cs,rfl,⟨rel_hc h1.1 (k1.cells (aG h1).2.2.2.2 (aG h1).2.2.2.1),?_⟩,trel_hvs h2 k2⟩;rw[<-h1.2];cases k1 with
   |undef=>exact absurd rfl (aG h1).2.2.2.2
   |_=>rfl
theorem calls_typed{P:Program}{F:Nat->Option Entry}(hF:rJ Ω P F){f n:Nat}{ps:List PK}{rs:List (Ty×List (Nat×Bool))}{g:(Sg.a ⟨ps,rs,none⟩).den->Option (Sg.r ⟨ps,rs,none⟩).den}{vf:VF}(hf:F f=some (.code vf))
  (hty:wZ ⟨ps,rs,none⟩ [] (call F n f) g) (hp:∀p∈ps,∃u,p=.d u/\(u.agg=true\/u.size=1)) (hsz:gQ rs<=64) {W:World} (hΩ:∀w':World,(∀b,b<W.heap.size->w'.heap[b]?=W.heap[b]?)->Ω w') {Q:Nat->Prop}
  {x:(Sg.a ⟨ps,rs,none⟩).den} {r:(Sg.r ⟨ps,rs,none⟩).den} (hx:g x=some r) {cs:List Value} (hcs:HVs W Q (ps.map PK.ty) x cs) :
  Calls P f cs.toArray W fun e W'=>∃rcs,e=.returned (vT rcs)/\Below W.heap.size W W'/\HVs W' (fun b=>b<W'.heap.size) (rs.map Prod.fst) (eR (rs.map Prod.fst) (bD ps) r) rcs:=by
 obtain⟨fn,hh,h1,h2⟩:=hF f _ hf;obtain⟨c,hb,_,_,_,_,_,hname⟩:=iY h2;obtain⟨vs,k1,k2⟩:=hvs_rel hp hcs;have hst:Start Ω (tM W) W vs cs []:=by
  refine⟨aFz W hΩ,fun b s c h=>?_,fun b nm h=>?_,k1,rfl,fun i ds hi=>by simp at hi⟩
  all_goals
   simp only[tM]at h;split at h<;>cases h
 have hbp:gN ps vs=[]:=(dps (bx:=[]) fun p hp'=>(hp p hp').imp fun _ h=>h.1).1;obtain⟨v,bx',q1,_,_,_,_,⟨q2,q3⟩,q4,_⟩:=hty x r hx vs [] (k2 0) (by rw[hbp];exact List.nodup_nil) rfl;obtain⟨q5,q6,_,q7⟩:=q4 rfl;have h64:(newsOf v.results).all (·<64)=true:=by
  rw[List.all_eq_true];intro j hj;obtain⟨c,hc,hj⟩:=aG0 hj;obtain⟨_,k4⟩:=sO q5 q6 c hc;cases c with
  |sl l z m ds=>
   rcases k4 l z m ds rfl with rfl|⟨j',f',rfl,hlt⟩|⟨_,_,_,_,_,_,hcon,_⟩
   .simp[V.news1,Lab.news]at hj
   .simp only[V.news1,Lab.news,List.mem_singleton]at hj;subst hj;exact decide_eq_true (Nat.lt_of_lt_of_le hlt hsz)
   .simp at hcon
  |ep l ds off=>
   have:=(sO q5 q6 _ hc).1;exact this.elim
  |_=>simp[V.news1]at hj
 rcases aCn hF n f vs [] _ _ q1 h64 (tM W) W cs hst with⟨_,h3⟩|⟨c',w',h3,_⟩
 .refine h3.mono fun e W' ⟨c',e1,rcs,G',lk,e2,hR⟩=>?_
  refine⟨rcs,by rw[e1,e2],⟨hR.fr.os,hR.fr.tape,hR.fr.output,hR.fr.size,fun k hk=>(hR.fr.rest k hk ?_).1⟩,trel_hvs q5 hR.res⟩;simp only[tM];cases hw:W.heap[k]? with
  |none=>exact .inl rfl
  |some ob=>cases ob<;>exact .inr ⟨_,rfl⟩
 .exfalso;unfold callFunc at h3;have hp:(Go.program:Sem Program).run P W=.ok P W:=rfl;rw[Sem.run_bind,hp,Result.andThen_ok,h1]at h3;simp only at h3;rw[if_neg (by rw[hname];simp),if_neg (by rw[hb];simp)]at h3;cases h3
end Go.VM
