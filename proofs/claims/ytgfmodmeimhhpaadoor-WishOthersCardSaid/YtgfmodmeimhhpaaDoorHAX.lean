/- The deck's attributes, as an entry of the table. -/
import Derived.Test.YtgfmodmeimhhpaaDoorHAT
open List(mem_cons)
namespace Go.Proofs.YtgfmodmeimhhpaaDoor
open Go.RowKit Go.Lib Go.VM
set_option maxRecDepth 100000
theorem swD_facts(o:Int)(p:List Int)(m r:Int)(c:List (Int×Int))(g:List (Int×Int×Int))(asn:Int)(v6:Bool)(s:Int×Dk):aComm (swD o p m r c g asn v6 s).1=c/\aLarge (swD o p m r c g asn v6 s).1=g/\(swD o p m r c g asn v6 s).2.1=s.2.1:=by unfold swD;simp only;split;exact⟨rfl,rfl,nx_list _ _⟩;split;exact⟨rfl,rfl,rfl⟩;split;exact⟨rfl,rfl,rfl⟩;split;exact⟨rfl,rfl,rfl⟩;split;exact⟨rfl,rfl,rfl⟩;split;exact⟨rfl,rfl,rfl⟩;split;exact⟨rfl,rfl,rfl⟩;split;exact⟨rfl,rfl,nx_list _ _⟩;exact⟨rfl,rfl,rfl⟩
theorem pos_facts{d:Dk}(h:DK d)(asn:Int)(v6:Bool):DK (d.1,cposD d asn)/\DK (d.1,lposD d asn)/\aComm (attrsD d asn v6).1=(commD (d.1,cposD d asn)).1/\aLarge (attrsD d asn v6).1=(largeD (d.1,lposD d asn)).1/\(attrsD d asn v6).2.1=d.1:=by
 have h1:(preD d asn).2.2.1=d.1/\DK (preD d asn).2.2:=by obtain⟨_,k2,k3⟩:=pathD_facts asn (nx (nx d 3).2 4).1.toNat [asn] (nx (nx d 3).2 4).2 (nx_DK (nx_DK h 3) 4);exact⟨k2.trans ((nx_list _ _).trans (nx_list _ _)),k3⟩
 obtain⟨o1,o2⟩:=optD_facts h1.2 3 3;obtain⟨p1,p2⟩:=optD_facts o2 6 300;have hc:(d.1,cposD d asn)=(optD (optD (preD d asn).2.2 3 3).2 6 300).2:=Prod.ext (p1.trans (o1.trans h1.1)).symm rfl;have hd1:DK (d.1,cposD d asn):=by rw[hc];exact p2
 obtain⟨_,_,c3,c4⟩:=comm_eq p2;have hl:(d.1,lposD d asn)=(commD (optD (optD (preD d asn).2.2 3 3).2 6 300).2).2:=Prod.ext ((c3.trans (p1.trans (o1.trans h1.1))).symm) rfl;have hd2:DK (d.1,lposD d asn):=by rw[hl];exact c4
 obtain⟨_,_,g3,_⟩:=large_eq c4;refine⟨hd1,hd2,?_,?_,?_⟩;rw[hc];unfold attrsD;exact(swD_facts _ _ _ _ _ _ _ _ _).1;rw[hl];unfold attrsD;exact(swD_facts _ _ _ _ _ _ _ _ _).2.1;unfold attrsD;refine(swD_facts _ _ _ _ _ _ _ _ _).2.2.trans ((nx_list _ _).trans ?_);rw[<-hl]at g3;rw[hl]at g3;exact g3.trans (c3.trans (p1.trans (o1.trans h1.1)))
theorem commW_crel{l:List Int}{a:Int}{V0:V}(hd:DK (l,a))(hV:DkV l V0):bP (.sl tyCm) (commD (l,a)).1 [commW V0 a]/\(commW V0 a).bare0/\(commW V0 a).single=true:=by
 obtain⟨v0,k1,k2,_⟩:=comm_word (d:=(l,a)) hd hV;have e:commW V0 a=v0.mapLab1 fun _=>.none:=by unfold commW;rw[k1]
 obtain⟨m1,m2,_⟩:=mapLab_rel k2;rw[e];rcases eX m1 with⟨e,h⟩|⟨lb,rs,e,h1,h2⟩;rw[e];exact⟨.inl ⟨rfl,h⟩,trivial,rfl⟩;rw[e]at m2 ⊢;exact⟨.inr ⟨lb,rs,rfl,h1,h2⟩,m2,rfl⟩
theorem largeW_crel{l:List Int}{a:Int}{V0:V}(hd:DK (l,a))(hV:DkV l V0):bP (.sl tyLg) (largeD (l,a)).1 [largeW V0 a]/\(largeW V0 a).bare0/\(largeW V0 a).single=true:=by
 obtain⟨v0,k1,k2,_⟩:=large_word (d:=(l,a)) hd hV;have e:largeW V0 a=v0.mapLab1 fun _=>.none:=by unfold largeW;rw[k1]
 obtain⟨m1,m2,_⟩:=mapLab_rel k2;rw[e];rcases eX m1 with⟨e,h⟩|⟨lb,rs,e,h1,h2⟩;rw[e];exact⟨.inl ⟨rfl,h⟩,trivial,rfl⟩;rw[e]at m2 ⊢;exact⟨.inr ⟨lb,rs,rfl,h1,h2⟩,m2,rfl⟩
theorem pathW_crel(p:List Seg):bP (.sl tySg) p [pathW p]/\(pathW p).bare0/\(pathW p).single=true:=by
 unfold pathW;cases p with
 |nil=>exact⟨.inl ⟨rfl,rfl⟩,trivial,rfl⟩|cons s p=>exact⟨pathV_crel (s::p),rfl,rfl⟩
theorem unk_rows:∀l:List Unk,aL (bP tyUn) l (l.flatMap unkW)/\∀c∈l.flatMap unkW,c.bare0
 |[]=>⟨rfl,fun c hc=>by cases hc⟩|u::l=>by
  obtain⟨h1,h2⟩:=unk_rows l;have hd:∀d:List Int,aL (bP (.int .u8)) d (d.map (V.int .u8))/\∀c∈d.map (V.int .u8),c.bare0:=fun d=>by
   induction d with|nil=>exact⟨rfl,fun c hc=>by cases hc⟩| cons x d ih => exact ⟨⟨[.int .u8 x], _, rfl, rfl, ih.1⟩, fun c hc => by rcases mem_cons.1 hc with rfl|hc;trivial;exact ih.2 c hc⟩
  refine⟨⟨unkW u,l.flatMap unkW,rfl,⟨[.int .i64 u.1],_,rfl,rfl,[.int .i64 u.2.1],_,rfl,rfl,.inr ⟨.none,_,rfl,(hd _).1,(hd _).2⟩⟩,h1⟩,fun c hc=>?_⟩;rw[List.flatMap_cons]at hc;rcases List.mem_append.1 hc with hc|hc;simp only[unkW,mem_cons,List.not_mem_nil,or_false]at hc;rcases hc with rfl|rfl|rfl;trivial;trivial;rfl;exact h2 c hc
theorem otherW_crel(l:List Unk):bP (.sl tyUn) l [otherW l]/\(otherW l).bare0/\(otherW l).single=true:=by
 unfold otherW;cases l with
 |nil=>exact⟨.inl ⟨rfl,rfl⟩,trivial,rfl⟩|cons s p=>exact⟨.inr ⟨.none,_,rfl,(unk_rows (s::p)).1,(unk_rows (s::p)).2⟩,rfl,rfl⟩
theorem gAttrs_some{x:Dk×Int×Bool}{q:Attrs×Dk}(h:gAttrs x=some q):DK x.1/\q=attrsD x.1 x.2.1 x.2.2:=by unfold gAttrs at h;split at h;rename_i hd;cases h;exact⟨dkB_iff.1 hd,rfl⟩;cases h
theorem primAttrs{Ω:World->Prop}:PrimBOk Ω Tryd.prog 20 (pD [.int .i64,.bool] gAttrs enAttrs):=by
 obtain⟨c,hb⟩:∃c,Tryd.f20.body=some c:=⟨_,rfl⟩;refine pD_ok Tryd.func20 hb (by kernel_rfl) (fun x q hg V0 h1 h2 v hv=>?_) fun x q hg V0 h1 h2 vs1 ht hbv G w cs' dk i hG hz hr hd=>?_
 obtain⟨⟨l,a0⟩,asn,v6⟩:=x;obtain⟨hdk,rfl⟩:=gAttrs_some hg;obtain⟨f1,f2,_⟩:=pos_facts hdk asn v6;have hV:DkV l V0:=⟨h1,h2⟩;have c1:=(commW_crel f1 hV).2.2;have c2:=(largeW_crel f2 hV).2.2;have c3:=fun p=>(pathW_crel p).2.2
 have c4:=fun p=>(otherW_crel p).2.2
 simp only[enAttrs,List.mem_singleton]at hv;subst hv;refine⟨rfl,?_,fun xs h=>by cases h⟩;show List.all [_,_,_,_,_,_,_,_,_,_,_] V.single=true;simp only[List.all_cons,List.all_nil,Bool.and_true,c1,c2,c3,c4,Bool.true_and];rfl
 .obtain⟨⟨l,a0⟩,asn,v6⟩:=x;obtain⟨hdk,rfl⟩:=gAttrs_some hg;have hV:DkV l V0:=⟨h1,h2⟩;obtain⟨u1,us,rfl,k1,u2,us2,rfl,k2,k3⟩:=ht;have k3:us2=[]:=k3;subst k3;have e1:u1=.int .i64 asn:=wV (k:=.i64) k1;have e2:u2=.bool v6:=by
   have h5:u2.cells=[V.bool v6]:=k2.1;have h6:=k2.2;cases u2<;>first|(cases h6;done)|simp_all[V.cells]
  subst e1;subst e2;obtain⟨cs2,rfl⟩:∃cs2,cs'=.int .i64 asn::cs2:=by
   cases hr with|cons _ c _ cs r1 r2=>rw[r1.int_inv];exact⟨_,rfl⟩
  have hr2:cs2=[.bool v6]:=by
   cases hr with|cons _ c _ cs r1 r2=>
    cases r2 with|cons _ c _ cs r3 r4=>rw[r3.bool_inv];cases r4;rfl
  subst hr2;have hG':GOk (fun _=>True) G w:=⟨hG.lt,hG.famU,hG.famC,hG.rgU,hG.low,fun _ _=>trivial⟩;refine(attrs_walk (dkC hG' hz hV) ⟨hd,fun _ _ _ h=>by cases h⟩ hdk hV).mono fun e W ⟨v,H,e1,e2,e3⟩=>⟨[v],H,e1,e2,e3⟩
theorem words_attr(r:Attrs)(cw lw:V)(c1:bP (.sl tyCm) (aComm r) [cw])(c2:cw.bare0)(g1:bP (.sl tyLg) (aLarge r) [lw])(g2:lw.bare0) :
  iQ [tyAttr] r [.agg [.int .i64 r.1,pathW r.2.1,.bool r.2.2.1.1,.int .u64 r.2.2.1.2.1,.int .u64 r.2.2.1.2.2,.int .i64 r.2.2.2.1,.int .i64 r.2.2.2.2.1,.int .i64 r.2.2.2.2.2.1,cw,lw,otherW (aOther r)]]/\∀c∈([.agg [.int .i64 r.1,pathW r.2.1,.bool r.2.2.1.1,.int .u64 r.2.2.1.2.1,.int .u64 r.2.2.1.2.2,.int .i64 r.2.2.2.1,.int .i64 r.2.2.2.2.1,.int .i64 r.2.2.2.2.2.1,cw,lw,otherW (aOther r)]]:List V).flatMap V.cells,c.bare0:=by
 have p1:=pathW_crel r.2.1;have o1:=otherW_crel (aOther r);refine⟨⟨_,_,rfl,⟨?_,rfl⟩,rfl⟩,fun c hcc=>?_⟩;exact⟨[.int .i64 r.1],_,rfl,rfl,[_],_,rfl,p1.1,[.bool r.2.2.1.1,.int .u64 r.2.2.1.2.1,.int .u64 r.2.2.1.2.2],_,rfl,⟨[.bool r.2.2.1.1],_,rfl,rfl,[.int .u64 r.2.2.1.2.1],[.int .u64 r.2.2.1.2.2],rfl,rfl,rfl⟩,[.int .i64 r.2.2.2.1],_,rfl,rfl,[.int .i64 r.2.2.2.2.1],_,rfl,rfl,[.int .i64 r.2.2.2.2.2.1],_,rfl,rfl,[_],_,rfl,c1,[_],[_],rfl,g1,o1.1⟩;have:c∈[V.int .i64 r.1,pathW r.2.1,.bool r.2.2.1.1,.int .u64 r.2.2.1.2.1,.int .u64 r.2.2.1.2.2,.int .i64 r.2.2.2.1,.int .i64 r.2.2.2.2.1,.int .i64 r.2.2.2.2.2.1,cw,lw,otherW (aOther r)]:=hcc;simp only[mem_cons,List.not_mem_nil,or_false]at this;rcases this with rfl|rfl|rfl|rfl|rfl|rfl|rfl|rfl|rfl|rfl|rfl;trivial;exact p1.2.1;trivial;trivial;trivial;trivial;trivial;trivial;exact c2;exact g2;exact o1.2.1
theorem enAttrs_eq(V0:V)(d:Dk)(asn:Int)(v6:Bool)(r:Attrs):enAttrs V0 (d,asn,v6) r=[.agg [.int .i64 r.1,pathW r.2.1,.bool r.2.2.1.1,.int .u64 r.2.2.1.2.1,.int .u64 r.2.2.1.2.2,.int .i64 r.2.2.2.1,.int .i64 r.2.2.2.2.1,.int .i64 r.2.2.2.2.2.1,commW V0 (cposD d asn),largeW V0 (lposD d asn),otherW (aOther r)]]:=rfl
theorem hAttrs0(d:Dk)(asn:Int)(v6:Bool)(V0:V)(r:Attrs)(cw lw:V)(hc:commW V0 (cposD d asn)=cw)(hl:largeW V0 (lposD d asn)=lw)(c1:bP (.sl tyCm) (aComm r) [cw])(c2:cw.bare0)(g1:bP (.sl tyLg) (aLarge r) [lw])(g2:lw.bare0):iQ [tyAttr] r (enAttrs V0 (d,asn,v6) r)/\∀c∈(enAttrs V0 (d,asn,v6) r).flatMap V.cells,c.bare0:=by have e:=enAttrs_eq V0 d asn v6 r;rw[hc,hl]at e;rw[e];exact words_attr r cw lw c1 c2 g1 g2
theorem commW_ex{l:List Int}{a:Int}{V0:V}(hd:DK (l,a))(hV:DkV l V0):∃cw,commW V0 a=cw/\bP (.sl tyCm) (commD (l,a)).1 [cw]/\cw.bare0:=by obtain⟨v0,k1,k2,_⟩:=comm_word (d:=(l,a)) hd hV;obtain⟨m1,m2,_⟩:=mapLab_rel k2;refine⟨v0.mapLab1 fun _=>.none,by unfold commW;rw[k1],?_,m2⟩;rcases eX m1 with⟨e,h⟩|⟨lb,rs,e,h1,h2⟩;rw[e];exact .inl ⟨rfl,h⟩;rw[e];exact .inr ⟨lb,rs,rfl,h1,h2⟩
theorem largeW_ex{l:List Int}{a:Int}{V0:V}(hd:DK (l,a))(hV:DkV l V0):∃cw,largeW V0 a=cw/\bP (.sl tyLg) (largeD (l,a)).1 [cw]/\cw.bare0:=by obtain⟨v0,k1,k2,_⟩:=large_word (d:=(l,a)) hd hV;obtain⟨m1,m2,_⟩:=mapLab_rel k2;refine⟨v0.mapLab1 fun _=>.none,by unfold largeW;rw[k1],?_,m2⟩;rcases eX m1 with⟨e,h⟩|⟨lb,rs,e,h1,h2⟩;rw[e];exact .inl ⟨rfl,h⟩;rw[e];exact .inr ⟨lb,rs,rfl,h1,h2⟩
theorem hAttrs3{d:Dk}{asn:Int}{V0:V}{r:Attrs}{c:List (Int×Int)}{g:List (Int×Int×Int)}(hc:∃cw,commW V0 (cposD d asn)=cw/\bP (.sl tyCm) c [cw]/\cw.bare0)(hg:∃cw,largeW V0 (lposD d asn)=cw/\bP (.sl tyLg) g [cw]/\cw.bare0)(f3:aComm r=c)(f4:aLarge r=g):∃cw lw,commW V0 (cposD d asn)=cw/\largeW V0 (lposD d asn)=lw/\bP (.sl tyCm) (aComm r) [cw]/\cw.bare0/\bP (.sl tyLg) (aLarge r) [lw]/\lw.bare0:=by subst f3;subst f4;obtain⟨cw,h1,h2,h3⟩:=hc;obtain⟨lw,k1,k2,k3⟩:=hg;exact⟨cw,lw,h1,k1,h2,h3,k2,k3⟩
theorem hAttrs6{d:Dk}{asn:Int}{v6:Bool}{V0:V}{r:Attrs}(h:∃cw lw,commW V0 (cposD d asn)=cw/\largeW V0 (lposD d asn)=lw/\bP (.sl tyCm) (aComm r) [cw]/\cw.bare0/\bP (.sl tyLg) (aLarge r) [lw]/\lw.bare0):iQ [tyAttr] r (enAttrs V0 (d,asn,v6) r)/\∀c∈(enAttrs V0 (d,asn,v6) r).flatMap V.cells,c.bare0:=by obtain⟨cw,lw,hc,hl,c1,c2,g1,g2⟩:=h;exact hAttrs0 d asn v6 V0 r cw lw hc hl c1 c2 g1 g2
theorem hAttrs:∀x q,gAttrs x=some q->∀V0,bP (.sl (.int .i64)) x.1.1 [V0]->V0.bare0->iQ [tyAttr] q.1 (enAttrs V0 x q.1)/\∀c∈(enAttrs V0 x q.1).flatMap V.cells,c.bare0:=by rintro⟨d,asn,v6⟩ ⟨r,d'⟩ hg V0 h1 h2;obtain⟨hdk,e⟩:=gAttrs_some hg;have f:=pos_facts hdk asn v6;have er:(attrsD d asn v6).1=r:=(congrArg Prod.fst e).symm;rw[er]at f;have hV:DkV d.1 V0:=⟨h1,h2⟩;exact hAttrs6 (hAttrs3 (commW_ex f.1 hV) (largeW_ex f.2.1 hV) f.2.2.1 f.2.2.2.1)
theorem gAttrs_keep:∀x q,gAttrs x=some q->q.2.1=x.1.1:=by rintro⟨d,asn,v6⟩ q hg;obtain⟨hdk,rfl⟩:=gAttrs_some hg;exact(pos_facts hdk asn v6).2.2.2.2
end Go.Proofs.YtgfmodmeimhhpaaDoor
