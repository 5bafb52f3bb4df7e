/- member.owned as an entry of the table. -/
import Derived.Test.YtbpocjclcbjggaaGreatDoorHOW
namespace Go.Proofs.YtbpocjclcbjggaaGreatDoor
open Go.RowKit Go.Lib Go.VM
theorem RowAt.unique{w:World}{z k:Nat}{u:Value}{xs ys:List Value}(h:RowAt w z u k xs)(h':RowAt w z u k ys):xs=ys:=by
 apply List.ext_getElem?;intro i;by_cases hi:i<xs.length
 .have hj:i<ys.length:=by rw[h'.1,<-h.1];exact hi
  rcases h.2.2 with⟨h1,h2⟩|⟨a,c,h1,_,_,h2,_⟩
  .subst h2;have:=h.1;simp at this;subst this;simp at hi
  .rcases h'.2.2 with⟨k1,k2⟩|⟨a',c',k1,_,_,k2,_⟩
   .rw[h1]at k1;cases k1
   .rw[h1]at k1;cases k1;have q1:=h2 i _ (List.getElem?_eq_getElem hi);have q2:=k2 i _ (List.getElem?_eq_getElem hj);rw[q1]at q2;rw[List.getElem?_eq_getElem hi,List.getElem?_eq_getElem hj,Option.some.inj q2]
 .rw[List.getElem?_eq_none (by omega),List.getElem?_eq_none (by rw[h'.1,<-h.1];omega)]
def poV(p:PortT)(v:V):List V:=[.int .i64 p.1,.int .i64 p.2.1,.int .i64 p.2.2.1,v,.bool (v4L p).1,.int .u64 (v4L p).2.1,.int .u64 (v4L p).2.2,.bool (v6L p).1,.int .u64 (v6L p).2.1,.int .u64 (v6L p).2.2]
def portsV:List PortT->List V->List V
 |p::L,u::us=>poV p u++portsV L us
 |_,_=>[]
theorem crel_po{p:PortT}{cs:List V}(h:bP tyPo p cs):∃v,cs=poV p v/\bP (.sl tyMac) (maL p) [v]:=by
 obtain⟨c1,r1,rfl,h1,c2,r2,rfl,h2,c3,r3,rfl,h3,c4,r4,rfl,h4,c5,r5,rfl,h5,h6⟩:=h;obtain⟨v,rfl⟩:∃v,c4=[v]:=by rcases h4 with⟨e,_⟩|⟨_,_,e,_⟩<;>exact⟨_,e⟩
 obtain⟨d1,e1,rfl,k1,d2,e2,rfl,k2,k3⟩:=h5;obtain⟨d4,e4,rfl,k4,d5,e5,rfl,k5,k6⟩:=h6;refine⟨v,?_,h4⟩;have h1:c1=[.int .i64 p.1]:=h1;have h2:c2=[.int .i64 p.2.1]:=h2;have h3:c3=[.int .i64 p.2.2.1]:=h3;have k1:d1=[.bool (v4L p).1]:=k1;have k2:d2=[.int .u64 (v4L p).2.1]:=k2;have k3:e2=[.int .u64 (v4L p).2.2]:=k3;have k4:d4=[.bool (v6L p).1]:=k4;have k5:d5=[.int .u64 (v6L p).2.1]:=k5;have k6:e5=[.int .u64 (v6L p).2.2]:=k6;rw[h1,h2,h3,k1,k2,k3,k4,k5,k6];rfl
theorem poV_rel{w:World}{A:Pl}{B:List Nat}{p:PortT}{v:V}{u:Value}(h:Rel w A B v u):RelL w A B (poV p v) (poC p u):=
 .cons _ _ _ _ (.int _ _) (.cons _ _ _ _ (.int _ _) (.cons _ _ _ _ (.int _ _) (.cons _ _ _ _ h (.cons _ _ _ _ (.bool _) (.cons _ _ _ _ (.int _ _) (.cons _ _ _ _ (.int _ _) (.cons _ _ _ _ (.bool _) (.cons _ _ _ _ (.int _ _) (.cons _ _ _ _ (.int _ _) .nil)))))))))
theorem poV_inv{w:World}{A:Pl}{B:List Nat}{p:PortT}{v:V}{cs:List Value}(h:RelL w A B (poV p v) cs):∃u,cs=poC p u/\Rel w A B v u:=by
 have hl:=h.length
 match cs,hl with
 |[c0,c1,c2,c3,c4,c5,c6,c7,c8,c9],_=>
  have g:∀{i:Nat} {v:V} {c:Value},(poV p _)[i]?=some v->[c0,c1,c2,c3,c4,c5,c6,c7,c8,c9][i]?=some c->Rel w A B v c:=fun h1 h2=>rell_get h h1 h2
  have e0:=(g (i:=0) rfl rfl).int_inv;have e1:=(g (i:=1) rfl rfl).int_inv;have e2:=(g (i:=2) rfl rfl).int_inv;have e4:=(g (i:=4) rfl rfl).bool_inv;have e5:=(g (i:=5) rfl rfl).int_inv;have e6:=(g (i:=6) rfl rfl).int_inv;have e7:=(g (i:=7) rfl rfl).bool_inv;have e8:=(g (i:=8) rfl rfl).int_inv;have e9:=(g (i:=9) rfl rfl).int_inv;subst e0;subst e1;subst e2;subst e4;subst e5;subst e6;subst e7;subst e8;subst e9;exact⟨c3,rfl,g (i:=3) rfl rfl⟩
/-- The ports of a row,in both words. -/
theorem ports_inv{w:World}{A:Pl}{B:List Nat}:∀{L:List PortT} {ws:List V} {rows:List Value},aL (bP tyPo) L ws->RelL w A B ws rows->(∀c∈ws,c.bare0)->
  ∃mvs us0,mvs.length=L.length/\us0.length=L.length/\ws=portsV L mvs/\rows=portsC L us0/\∀i (h:i<L.length) (h1:i<mvs.length) (h2:i<us0.length),Rel w A B mvs[i] us0[i]/\bP (.sl tyMac) (maL L[i]) [mvs[i]]/\mvs[i].bare0
 |[],ws,rows,h,hr,_=>by
  cases h;cases hr;exact⟨[],[],rfl,rfl,rfl,rfl,fun i h=>by simp at h⟩
 |p::L,_,rows,⟨c,r,e,h1,h2⟩,hr,hb=>by
  subst e;obtain⟨v,rfl,hv⟩:=crel_po h1;have k1:=hr.take (poV p v).length;have k2:=hr.drop (poV p v).length;rw[List.take_left]at k1;rw[List.drop_left]at k2;obtain⟨u,hu,hvu⟩:=poV_inv k1;obtain⟨mvs,us0,q1,q2,q3,q4,q5⟩:=ports_inv h2 k2 (fun c hc=>hb c (List.mem_append_right _ hc));refine⟨v::mvs,u::us0,by simp[q1],by simp[q2],by rw[q3];rfl,?_,fun i h h1 h2=>?_⟩
  .rw[<-List.take_append_drop (poV p v).length rows,hu,q4];rfl
  .cases i with
   |zero=>exact⟨hvu,hv,hb v (List.mem_append_left _ (by simp[poV]))⟩
   |succ i=>exact q5 i (by simpa using h) (by simpa using h1) (by simpa using h2)
theorem ports_rel{w:World}{A:Pl}{B:List Nat}:∀{L:List PortT} {mvs:List V} {us:List Value},mvs.length=L.length->us.length=L.length->(∀i (h1:i<mvs.length) (h2:i<us.length),Rel w A B mvs[i] us[i])->RelL w A B (portsV L mvs) (portsC L us)
 |[],[],[],_,_,_=>.nil
 |p::L,v::mvs,u::us,h1,h2,h=>(poV_rel (h 0 (by simp) (by simp))).append (ports_rel (by simpa using h1) (by simpa using h2) fun i k1 k2=>h (i+1) (by simpa using k1) (by simpa using k2))
 |[],_::_,_,h,_,_=>by simp at h
 |[],[],_::_,_,h,_=>by simp at h
 |_::_,[],_,h,_,_=>by simp at h
 |_::_,_::_,[],_,h,_=>by simp at h
theorem crel_me{m:MemT}{cs:List V}(h:bP tyMe m cs):∃v,cs=[.int .i64 m.1,.str m.2.1,.str m.2.2.1,.int .i64 m.2.2.2.1,.int .i64 m.2.2.2.2.1,v]/\bP (.sl tyPo) (poL m) [v]:=by
 obtain⟨c1,r1,rfl,h1,c2,r2,rfl,h2,c3,r3,rfl,h3,c4,r4,rfl,h4,c5,r5,rfl,h5,h6⟩:=h;obtain⟨v,rfl⟩:∃v,r5=[v]:=by rcases h6 with⟨e,_⟩|⟨_,_,e,_⟩<;>exact⟨_,e⟩
 refine⟨v,?_,h6⟩;have h1:c1=[.int .i64 m.1]:=h1;have h2:c2=[.str m.2.1]:=h2;have h3:c3=[.str m.2.2.1]:=h3;have h4:c4=[.int .i64 m.2.2.2.1]:=h4;have h5:c5=[.int .i64 m.2.2.2.2.1]:=h5;rw[h1,h2,h3,h4,h5];rfl
def gOw(m:MemT):Option MemT:=if(decide ((poL m).length<=80000)&&(poL m).all fun p=>decide ((maL p).length<=1000))=true then some m else none
def enOw(vs:List V)(_:MemT):List V:=[vs.headD .undef]
theorem gOw_inv{m r:MemT}(h:gOw m=some r):r=m/\(poL m).length<=80000/\∀p∈poL m,(maL p).length<=1000:=by
 unfold gOw at h;split at h
 .rename_i hc;cases h;simp only[Bool.and_eq_true,decide_eq_true_eq,List.all_eq_true]at hc;exact⟨rfl,hc.1,hc.2⟩
 .cases h
theorem primOw{Ω:World->Prop}:PrimOk Ω Tryz.prog 58 [] (pM [tyMe] gOw enOw):=by
 obtain⟨c,hb⟩:∃c,Tryz.f58.body=some c:=⟨_,rfl⟩;have hagg:∀{m:MemT} {v:V},gP tyMe m v->∃cs,v=.agg cs/\bP tyMe m cs:=fun{m v} h=>by
  obtain⟨h1,h2⟩:=h;cases v with
  |agg cs=>exact⟨cs,rfl,h1⟩
  |_=>cases h2
 refine pM_ok Tryz.func58 hb (by kernel_rfl) (fun vs x r ht _ _ v hv=>?_) fun m r hx vs ht hbare G w cs bx hs=>?_
 .obtain⟨v0,vs',rfl,h0,h1⟩:=ht;cases h1;obtain⟨cs,rfl,h2⟩:=hagg h0;obtain⟨v1,rfl,q⟩:=crel_me h2;rw[enOw,List.mem_singleton]at hv;subst hv;have hv1:v1=.nils\/∃lb z n rs,v1=.sl lb z n rs:=by
   rcases q with⟨e,_⟩|⟨_,_,e,_⟩<;>cases e
   .exact .inl rfl
   .exact .inr ⟨_,_,_,_,rfl⟩
  refine⟨rfl,?_,fun xs h=>by cases h⟩;rcases hv1 with rfl|⟨_,_,_,_,rfl⟩<;>rfl
 .obtain⟨rfl,hL,hmx⟩:=gOw_inv hx;obtain⟨v0,vs',rfl,h0,h1⟩:=ht;cases h1;obtain⟨ws,rfl,h2⟩:=hagg h0;obtain⟨pv,rfl,hpv⟩:=crel_me h2;have hr:=hs.args;cases hr with
  |cons _ u0 _ _ hr hnil=>
   cases hnil;obtain⟨xs,rfl,hr2⟩:=hr.agg_inv;have hl:=hr2.length;obtain⟨ys,hys⟩:∃ys,ys=xs.toList:=⟨_,rfl⟩;rw[<-hys]at hr2 hl
   match ys,hl,hr2,hys with
   |[c0,c1,c2,c3,c4,u],_,hr2,hys=>
    have g:∀{i:Nat} {v:V} {c:Value},[V.int .i64 r.1,.str r.2.1,.str r.2.2.1,.int .i64 r.2.2.2.1,.int .i64 r.2.2.2.2.1,pv][i]?=some v->[c0,c1,c2,c3,c4,u][i]?=some c->Rel w (A0 G w) G.bxB v c:=fun h1 h2=>rell_get hr2 h1 h2
    have e0:=(g (i:=0) rfl rfl).int_inv;obtain⟨t1,e1,e1'⟩:=(g (i:=1) rfl rfl).str_inv;obtain⟨t2,e2,e2'⟩:=(g (i:=2) rfl rfl).str_inv;have e3:=(g (i:=3) rfl rfl).int_inv;have e4:=(g (i:=4) rfl rfl).int_inv;have hpu:Rel w (A0 G w) G.bxB pv u:=g (i:=5) rfl rfl;subst e0;subst e1;subst e2;subst e3;subst e4;have hpb:pv.bare0:=hbare pv (by simp[V.cells]);obtain⟨rows,hrow,hrel,hrr,hrb,hrn⟩:=rel_rowAt hpu hpv hpb;have hsh:∃o n c,u=.slice o n c:=by
     obtain⟨o,c,h⟩:=hrow.shape;exact⟨_,_,_,h⟩
    obtain⟨o,n,c,rfl⟩:=hsh;obtain⟨mvs,us0,q1,q2,q3,q4,q5⟩:=ports_inv hrr hrel hrb;have hxs:xs=#[.int .i64 r.1,.string t1,.string t2,.int .i64 r.2.2.2.1,.int .i64 r.2.2.2.2.1,.slice o n c]:=by
     rw[<-Array.toArray_toList (xs:=xs),<-hys]
    subst hxs;have hmac:∀i (h:i<(poL r).length) (h':i<us0.length),HC w (fun b=>b<w.heap.size) (.sl tyMac) (maL (poL r)[i]) [us0[i]]:=fun i h h'=>by
     obtain⟨k1,k2,_⟩:=q5 i h (by rw[q1];exact h) h';exact rel_hc k2 (.cons _ _ _ _ k1 .nil)
    refine(owned_walk r.1 r.2.2.2.1 r.2.2.2.2.1 t1 t2 (poL r) o n c w rows us0 hrow q2 q4 hmac hL hmx).mono fun e w' ⟨v',e1,e2,e3⟩=>⟨[_],e1,e2,.cons _ _ _ _ (.agg _ _ ?_) .nil⟩
    have s1:Rel w' (Abk G w w') G.bxB (.str r.2.1) (.string t1):=by rw[<-e1'];exact .str t1
    have s2:Rel w' (Abk G w w') G.bxB (.str r.2.2.1) (.string t2):=by rw[<-e2'];exact .str t2
    refine .cons _ _ _ _ (.int _ _) (.cons _ _ _ _ s1 (.cons _ _ _ _ s2 (.cons _ _ _ _ (.int _ _) (.cons _ _ _ _ (.int _ _) (.cons _ _ _ _ ?_ .nil)))));have hk:=keeps_bk hs e2;rcases e3 with⟨rfl,rfl⟩|⟨hon,g',c',us,rfl,hO⟩
    · have : pv = .nils := by
        rcases hpv with⟨e,_⟩|⟨_,_,e,_⟩
        .cases e;rfl
        .cases e;obtain⟨_,_,_,e5,_⟩:=hpu.sl_inv;cases e5
      subst this;exact .nils
    .rcases hpv with⟨e,hn⟩|⟨lb,rs,e,k3,k4⟩
     .exfalso;cases e;have e6:=hpu.nils_inv;cases e6;exact hon rfl
     .cases e;have hlb:lb=.none:=hpb;subst hlb;have hrs:rs=portsV (poL r) mvs:=q3;rw[hrs];refine own_bk hO.row (Nat.le_refl _) (by decide) (ports_rel q1 hO.len fun i h1 h2=>?_) (by rw[<-hrs];exact hrn) (by simp);have hi:i<(poL r).length:=lt_of_lt_of_eq h1 q1;obtain⟨u0,ys,j1,j2,j3,j4⟩:=hO.done i h2 hi hi;have hi0:i<us0.length:=by rw[q2];exact hi
      rw[List.getElem?_eq_getElem hi0]at j1;cases j1;obtain⟨k1,k2,k5⟩:=q5 i hi h1 hi0;obtain⟨ys',m1,m2,_,_,m5⟩:=rel_rowAt k1 k2 k5;have:=RowAt.unique m1 j2;subst this;rcases k2 with⟨e,hn⟩|⟨lb,rs',e,_,_⟩
      .obtain⟨e⟩:=List.cons.inj e;rw[e]at k1 ⊢;rw[j4.2 k1.nils_inv];exact .nils
      .obtain⟨e⟩:=List.cons.inj e;rw[e]at k1 k5 m2 m5 ⊢;have hlb:lb=.none:=k5;subst hlb;refine own_bk j3 ?_ (by decide) (m2.keepB hk m5) m5 fun h=>?_
       .have:=(World.ownsRow.lt hO.row g' rfl).1;omega
       .obtain⟨_,_,_,e7,_⟩:=k1.sl_inv;have:=j4.1 h;rw[e7]at this;cases this
theorem hOw:∀x r,gOw x=some r->∀vs,iQ [tyMe] x vs->(∀u∈vs.flatMap V.cells,u.bare0)->iQ [tyMe] r (enOw vs r)/\∀c∈(enOw vs r).flatMap V.cells,c.bare0:=fun x r hx vs ht hbare=>by
 obtain⟨rfl,_⟩:=gOw_inv hx;obtain⟨v0,vs',rfl,h0,h1⟩:=ht;cases h1;exact⟨⟨v0,_,rfl,h0,rfl⟩,hbare⟩
end Go.Proofs.YtbpocjclcbjggaaGreatDoor
