/- The deck's functions, as the walks by hand call them. -/
import Derived.KernelRfl
import Derived.Handy
import Derived.WalkKit
import Derived.Lib.Hide
import Derived.Deep.LoopGhost
import Derived.Shelf.RegionOpenPlain
import Derived.Lib.Walk
import Derived.Test.YtgfmodmeimhhpaaGreatDoorJD
import Derived.Deep.CutRange
import Derived.Deep.CutBlock
namespace Go.VM
theorem a4w:∀{l:List Int} {rs rs':List V},aL (bP (.int .i64)) l rs->aL (bP (.int .i64)) l rs'->rs=rs'
 |[],_,_,h,k=>by cases h;cases k;rfl|a::l,_,_,⟨c,r,e,h1,h2⟩,⟨c',r',e',k1,k2⟩=>by have h1:c=[.int .i64 a]:=h1;have k1:c'=[.int .i64 a]:=k1;rw[e,e',h1,k1,a4w h2 k2]
theorem dk_same{l:List Int}{V0 V1:V}(h:bP (.sl (.int .i64)) l [V0])(k:bP (.sl (.int .i64)) l [V1])(hl:l≠[])(b0:V0.bare0)(b1:V1.bare0):V0=V1:=by rcases h with⟨_,e⟩|⟨lb,rs,e,h1,_⟩;exact absurd e hl;rcases k with⟨_,e'⟩|⟨lb',rs',e',k1,_⟩;exact absurd e' hl;cases e;cases e';have b0:lb=.none:=b0;have b1:lb'=.none:=b1;rw[b0,b1,a4w h1 k1]
theorem a6F{V0:V}(h:bP (.sl (.int .i64)) ([]:List Int) [V0])(b0:V0.bare0):V0=.nils\/V0=.sl .none 1 0 []:=by rcases h with⟨e,_⟩|⟨lb,rs,e,h1,_⟩;cases e;exact .inl rfl;cases e;have b0:lb=.none:=b0;have h1:rs=[]:=h1;subst b0;subst h1;exact .inr rfl
theorem a6G{a:Int}(h:0<=a/\a<=(([]:List Int).length:Int)):a=0:=by have:=h.2;simp only[List.length_nil]at this;have:=h.1;omega
theorem a3f{F:Nat->Option Entry}{n f:Nat}{ps:List PK}{t:Ty}{cl:List (Nat×Bool)}{g:(Sg.a ⟨.p a1l::ps,[(t,cl)],none⟩).den->Option (Sg.r ⟨.p a1l::ps,[(t,cl)],none⟩).den}(hty:wZ ⟨.p a1l::ps,[(t,cl)],none⟩ [] (call F n f) g)
  (hd:∀p∈ps,∃u,p=.d u) {x:(Sg.a ⟨.p a1l::ps,[(t,cl)],none⟩).den} {r:(Sg.r ⟨.p a1l::ps,[(t,cl)],none⟩).den} (hx:g x=some r) {V0:V} {vs1:List V} {l:List Int} {a a':Int} (hA:aAB [] [[V0,.int .i64 a]] (.p a1l::ps) 0 x (.bp 0 0::vs1))
  (h0:bP (.sl (.int .i64)) l [V0]) (hl:l≠[]) (b0:V0.bare0) (hr:a0y a1l (bD ps) (pI [t] (bD (.p a1l::ps)) r)=(l,a')) :
  ∃v0,call F n f (.bp 0 0::vs1) [[V0,.int .i64 a]]=some (v0,[[V0,.int .i64 a']])/\gP t (eR [t] (bD (.p a1l::ps)) r) v0/\∀i c,v0.cells[i]?=some c->aHg [] (.bp 0 0::vs1) t.size cl i c:=by
 have hbp:gN (.p a1l::ps) (.bp 0 0::vs1)=[0]:=by show 0::gN ps vs1=[0];rw[(dps (bx:=[]) hd).1]
 have hnb:bX [[V0,.int .i64 a]]=true:=by
  have:=aHB (t:=.sl (.int .i64)) (x:=l) (v:=V0) (by rcases h0 with⟨e,h⟩|⟨lb,rs,e,h⟩;cases e;exact⟨.inl ⟨rfl,h⟩,rfl⟩;cases e;exact⟨.inr ⟨lb,rs,rfl,h⟩,rfl⟩)
  simp only[bX,bO,Bool.and_true];exact Bool.and_eq_true_iff.2 ⟨this,rfl⟩
 obtain⟨v,bx',q1,q2,_,_,_,⟨_,q3⟩,q4,_⟩:=hty x r hx _ _ hA (by rw[hbp];simp) hnb;obtain⟨q5,q6,_,q7⟩:=q4 rfl;obtain⟨⟨b,cells,e1,e2,e3,e4⟩,_⟩:=q2;cases e1;have hbx:bx'=[cells]:=by
  match bx',q7,e2 with
  |[c],_,e2=>simp at e2;rw[e2]
 subst hbx;have e3:bP a1l (a0y a1l (bD ps) (pI [t] (bD (.p a1l::ps)) r)) cells:=e3;rw[hr]at e3;obtain⟨V1,rfl,h1⟩:=a3O e3;have:V1=V0:=dk_same h1 h0 hl (e4 _ (by simp)) b0;subst this;obtain⟨v0,us,e5,k1,k2⟩:=q5;have k2:us=[]:=k2;subst k2;have hv:v=v0:=by rw[q3,e5];rfl
 subst hv;rw[e5]at q6;obtain⟨v',rs',e6,k3,_⟩:=q6;cases e6;exact⟨v,q1,k1,fun i c hc=>by simpa[gQ]using k3 i c hc⟩
end Go.VM
namespace Go.Proofs.YtgfmodmeimhhpaaGreatDoor
open Go.RowKit Go.Lib Go.VM
theorem tNext:wZ ⟨[.p a1l,.d (.int .i64)],[(.int .i64,[])],none⟩ [] (call Z.FT 60 8) (Z.n8 60):=by have h:=Z.typed 60 8;unfold aF7 at h;rw[Z.sigOk 8]at h;exact h
theorem tComm:wZ ⟨[.p a1l],[(.sl a4H,[(0,true)])],none⟩ [] (call Z.FT 60 65) (Z.n65 60):=by have h:=Z.typed 60 65;unfold aF7 at h;rw[Z.sigOk 65]at h;exact h
theorem tLarge:wZ ⟨[.p a1l],[(.sl a4I,[(0,true)])],none⟩ [] (call Z.FT 60 66) (Z.n66 60):=by have h:=Z.typed 60 66;unfold aF7 at h;rw[Z.sigOk 66]at h;exact h
theorem a5o(b:Int):call Z.FT 60 8 [.bp 0 0,.int .i64 b] [[.nils,.int .i64 0]]=some (.int .i64 0,[[.nils,.int .i64 0]])/\call Z.FT 60 8 [.bp 0 0,.int .i64 b] [[.sl .none 1 0 [],.int .i64 0]]=some (.int .i64 0,[[.sl .none 1 0 [],.int .i64 0]]):=⟨by kernel_rfl,by kernel_rfl⟩
theorem a5p:call Z.FT 60 65 [.bp 0 0] [[.nils,.int .i64 0]]=some (.nils,[[.nils,.int .i64 0]])/\call Z.FT 60 65 [.bp 0 0] [[.sl .none 1 0 [],.int .i64 0]]=some (.nils,[[.sl .none 1 0 [],.int .i64 0]]):=⟨by kernel_rfl,by kernel_rfl⟩
theorem a4x:call Z.FT 60 66 [.bp 0 0] [[.nils,.int .i64 0]]=some (.nils,[[.nils,.int .i64 0]])/\call Z.FT 60 66 [.bp 0 0] [[.sl .none 1 0 [],.int .i64 0]]=some (.nils,[[.sl .none 1 0 [],.int .i64 0]]):=⟨by kernel_rfl,by kernel_rfl⟩
structure DkV(l:List Int)(V0:V):Prop where
 rel:bP (.sl (.int .i64)) l [V0]
 bare:V0.bare0
theorem DkV.names{l:List Int}{V0:V}(h:DkV l V0):aC [V0]=[]:=by obtain⟨h,b⟩:=h;rcases h with⟨e,_⟩|⟨lb,rs,e,h1,_⟩;cases e;rfl;cases e;have b:lb=.none:=b;subst b;rfl
theorem DkV.dk{l:List Int}{V0:V}(h:DkV l V0)(a:Int):bP a1l (l,a) [V0,.int .i64 a]/\∀c∈[V0,V.int .i64 a],c.bare0:=
 ⟨⟨[V0],[.int .i64 a],rfl,h.rel,rfl⟩,fun c hc=>by simp only[List.mem_cons,List.not_mem_nil,or_false]at hc;rcases hc with rfl|rfl;exact h.bare;trivial⟩
theorem a6H{d:Dk}(hd:DK d){V0:V}(h:DkV d.1 V0){b:Int}(hb:0<b)(hb2:b<=9223372036854775807):call Z.FT 60 8 [.bp 0 0,.int .i64 b] [[V0,.int .i64 d.2]]=some (.int .i64 (nx d b).1,[[V0,.int .i64 (nx d b).2.2]]):=by
 obtain⟨l,a⟩:=d;by_cases hl:l=[];subst hl;have h0:=a6G ⟨hd.1,hd.2.1⟩;simp only at h0;subst h0;have e:nx (([]:List Int),0) b=(0,[],0):=rfl;rw[e];rcases a6F h.rel h.bare with rfl|rfl;exact(a5o b).1;exact(a5o b).2
 · obtain ⟨v0, k1, k2, _⟩ := a3f (a' := (nx (l, a) b).2.2) tNext (fun p hp => ⟨_, List.mem_singleton.1 hp⟩) (x := ((l, a), b)) (Z.next_eq 58 hd hb hb2) (vs1 := [.int .i64 b]) ⟨0, _, _, rfl, rfl, (h.dk a).1, (h.dk a).2, _, _, rfl, ⟨rfl, rfl⟩, .inl fun c hc => by rw [List.mem_singleton.1 hc]; trivial, fun h => by simp at h, rfl⟩ h.rel hl h.bare (by
     show(nx (l,a) b).2=_;exact Prod.ext (a0I _ _) rfl)
   have:=wV (k:=.i64) k2;rw[this]at k1;exact k1
noncomputable def a0U(d:Dk):List (Int×Int)×Dk:=(Z.n65 60 d).getD ([],d)
noncomputable def a0D(d:Dk):List (Int×Int×Int)×Dk:=(Z.n66 60 d).getD ([],d)
theorem a2y{d:Dk}(hd:DK d):Z.n65 60 d=some (a0U d)/\(a0U d).1.Sublist Z.allC/\(a0U d).2.1=d.1/\DK (a0U d).2:=by
 obtain⟨r,h,k⟩:=Z.comm_ok 57 (by decide) hd;have e:a0U d=r:=by unfold a0U;rw[h];rfl
 rw[e];exact⟨h,k⟩
theorem a1K{d:Dk}(hd:DK d):Z.n66 60 d=some (a0D d)/\(a0D d).1.Sublist Z.allL/\(a0D d).2.1=d.1/\DK (a0D d).2:=by
 obtain⟨r,h,k⟩:=Z.large_ok 57 (by decide) hd;have e:a0D d=r:=by unfold a0D;rw[h];rfl
 rw[e];exact⟨h,k⟩
theorem a6I{t:Ty}{x:(Ty.sl t).den}{v:V}{vs:List V}{n:Nat}{cl:List (Nat×Bool)}(h:gP (.sl t) x v)(hr:∀i c,v.cells[i]?=some c->aHg [] vs n cl i c)(hn:n<=64):resV v:=by
 have:=h.1;cases v with
 |sl l z m ws=>
  have k:=(hr 0 _ rfl).1;rcases k with rfl|⟨j,f,rfl,hj⟩|⟨_,_,_,_,_,_,hc,_⟩;trivial;show j<64;omega;simp at hc
 |nils=>trivial|_=>rcases eX h with⟨e,_⟩|⟨_,_,e,_⟩<;>cases e
theorem a2g{d:Dk}(hd:DK d){V0:V}(h:DkV d.1 V0):∃v0,call Z.FT 60 65 [.bp 0 0] [[V0,.int .i64 d.2]]=some (v0,[[V0,.int .i64 (a0U d).2.2]])/\gP (.sl a4H) (a0U d).1 v0/\resV v0:=by
 obtain⟨l,a⟩:=d;obtain⟨c1,c2,c3,c4⟩:=a2y hd;by_cases hl:l=[];subst hl;have h0:=a6G ⟨hd.1,hd.2.1⟩;simp only at h0;subst h0;have e:a0U (([]:List Int),0)=([],[],0):=by kernel_rfl
 rw[e];rcases a6F h.rel h.bare with rfl|rfl;exact⟨_,a5p.1,⟨.inl ⟨rfl,rfl⟩,rfl⟩,trivial⟩;exact⟨_,a5p.2,⟨.inl ⟨rfl,rfl⟩,rfl⟩,trivial⟩;generalize a0U (l,a)=r at c1 c2 c3 c4 ⊢;obtain⟨v0,k1,k2,k3⟩:=a3f (a':=r.2.2) tComm (fun p hp=>by cases hp) (x:=(l,a)) c1 (vs1:=[]) ⟨0,_,_,rfl,rfl,(h.dk a).1,(h.dk a).2,rfl⟩ h.rel hl h.bare (by show r.2=_;exact Prod.ext c3 rfl)
 exact⟨v0,k1,k2,a6I k2 k3 (by decide)⟩
theorem a1L{d:Dk}(hd:DK d){V0:V}(h:DkV d.1 V0):∃v0,call Z.FT 60 66 [.bp 0 0] [[V0,.int .i64 d.2]]=some (v0,[[V0,.int .i64 (a0D d).2.2]])/\gP (.sl a4I) (a0D d).1 v0/\resV v0:=by
 obtain⟨l,a⟩:=d;obtain⟨c1,c2,c3,c4⟩:=a1K hd;by_cases hl:l=[];subst hl;have h0:=a6G ⟨hd.1,hd.2.1⟩;simp only at h0;subst h0;have e:a0D (([]:List Int),0)=([],[],0):=by kernel_rfl
 rw[e];rcases a6F h.rel h.bare with rfl|rfl;exact⟨_,a4x.1,⟨.inl ⟨rfl,rfl⟩,rfl⟩,trivial⟩;exact⟨_,a4x.2,⟨.inl ⟨rfl,rfl⟩,rfl⟩,trivial⟩;generalize a0D (l,a)=r at c1 c2 c3 c4 ⊢;obtain⟨v0,k1,k2,k3⟩:=a3f (a':=r.2.2) tLarge (fun p hp=>by cases hp) (x:=(l,a)) c1 (vs1:=[]) ⟨0,_,_,rfl,rfl,(h.dk a).1,(h.dk a).2,rfl⟩ h.rel hl h.bare (by show r.2=_;exact Prod.ext c3 rfl)
 exact⟨v0,k1,k2,a6I k2 k3 (by decide)⟩
end Go.Proofs.YtgfmodmeimhhpaaGreatDoor
namespace Go.VM
open Go.RowKit
theorem a2h(w:World)(o:Obj):(w.alloc o).heap.size=w.heap.size+1:=Array.size_push _
structure AS(G:Gh)(w:World)(dk:Nat)(V0:V)(W:World)(a:Int)(L:List (Nat×Array Value×TypeId))(H:Gh):Prop where
 deck:DkIn G w dk V0 H W a
 own:∀b cs t,(b,cs,t)∈L->W.heap[b]?=some (.cells cs t (0,0))/\H.Z b=.out/\w.heap.size<=b/\b≠dk
section
variable{G H:Gh}{w W:World}{dk i:Nat}{V0:V}{a:Int}{L:List (Nat×Array Value×TypeId)}
theorem AS.lt(h:AS G w dk V0 W a L H){b:Nat}{cs:Array Value}{t:TypeId}(hb:(b,cs,t)∈L):b<W.heap.size:=(Array.getElem?_eq_some_iff.1 (h.own b cs t hb).1).1
theorem AS.dlt(h:AS G w dk V0 W a L H):dk<W.heap.size:=h.deck.lt dk (by rw[h.deck.dkz];simp)
theorem AS.quiet{W':World}(h:AS G w dk V0 W a L H)(hb:Below W.heap.size W W'):AS G w dk V0 W' a L H:=
 ⟨h.deck.move (fun b hb' _=>hb.block b hb') hb.size hb.os hb.tape hb.output,fun b cs t hm=>by obtain⟨k1,k2⟩:=h.own b cs t hm;exact⟨by rw[hb.block b (h.lt hm)];exact k1,k2⟩⟩
theorem AS.alloc(h:AS G w dk V0 W a L H)(cs:Array Value)(t:TypeId):AS G w dk V0 (W.alloc (.cells cs t)) a ((W.heap.size,cs,t)::L) H:=by have q:=h.quiet (((Below.refl W.heap.size W).alloc (Nat.le_refl _) (.cells cs t)));refine⟨q.deck,fun b cs' t' hm=>?_⟩;rcases List.mem_cons.1 hm with e|hm;cases e;refine⟨heap_alloc_new _ _,?_,h.deck.size,fun e=>?_⟩;by_cases ho:H.Z W.heap.size=.out;exact ho;exact absurd (h.deck.lt _ ho) (Nat.lt_irrefl _);have:=h.dlt;omega;exact q.own b cs' t' hm
theorem AS.sub{L':List (Nat×Array Value×TypeId)}(h:AS G w dk V0 W a L H)(hs:∀x∈L',x∈L):AS G w dk V0 W a L' H:=⟨h.deck,fun b cs t hm=>h.own b cs t (hs _ hm)⟩
theorem AS.wr{W':World}(h:AS G w dk V0 W a L H){b:Nat}{cs ds:Array Value}{t:TypeId}(hm:(b,cs,t)∈L)(hW:W'.heap[b]?=some (.cells ds t (0,0)))(hr:∀k,k≠b->W'.heap[k]?=W.heap[k]?)(hs:W'.heap.size=W.heap.size)(h1:W'.os=W.os)(h2:W'.tape=W.tape)(h3:W'.output=W.output)
  {L':List (Nat×Array Value×TypeId)} (hL:∀x∈L',x=(b,ds,t)\/(x∈L/\x.1≠b)):AS G w dk V0 W' a L' H:=by
 obtain⟨k1,k2,k3,k4⟩:=h.own b cs t hm;refine⟨h.deck.move (fun c hc hz=>hr c fun e=>?_) (by omega) h1 h2 h3,fun c cs' t' hc=>?_⟩;subst e;rcases hz with hz|hz;exact hz k2;omega;rcases hL _ hc with e|⟨hc,hne⟩;cases e;exact⟨hW,k2,k3,k4⟩;obtain⟨q1,q2⟩:=h.own c cs' t' hc;exact⟨by rw[hr c hne];exact q1,q2⟩
theorem AS.set(h:AS G w dk V0 W a L H){b j:Nat}{v:Value}{cs ds:Array Value}{t:TypeId}(hm:(b,cs,t)∈L)(hd:cs.setIfInBounds j v=ds){L':List (Nat×Array Value×TypeId)}(hL:∀x∈L',x=(b,ds,t)\/(x∈L/\x.1≠b)):AS G w dk V0 (W.setCell ⟨b,j,none⟩ v) a L' H:=
 h.wr hm (by rw[<-hd];exact heap_setCell_same W b j cs t v (h.own b cs t hm).1) (fun k hk=>Below.heap_setCell _ _ _ _ hk) (World.size_setCell ..) rfl rfl rfl hL
theorem AS.cell(h:AS G w dk V0 W a L H){b j:Nat}{v:Value}{cs:Array Value}{t:TypeId}(hm:(b,cs,t)∈L)(hj:cs[j]?=some v):W.cell? ⟨b,j,none⟩=some v:=by simp only[World.cell?,(h.own b cs t hm).1];simpa using hj
theorem AS.frozen(h:AS G w dk V0 W a L H){b j:Nat}{cs:Array Value}{t:TypeId}(hm:(b,cs,t)∈L):W.frozen? ⟨b,j,none⟩=false:=by simp only[World.frozen?,(h.own b cs t hm).1];simp
theorem AS.after{W':World}{H':Gh}{a':Int}(h:AS G w dk V0 W a L H)(hd:DkIn G w dk V0 H' W' a')(hk:∀b,b<W.heap.size->b≠dk->W'.heap[b]?=W.heap[b]?/\H'.Z b=H.Z b):AS G w dk V0 W' a' L H':=
 ⟨hd,fun b cs t hm=>by obtain⟨k1,k2,k3,k4⟩:=h.own b cs t hm;obtain⟨q1,q2⟩:=hk b (h.lt hm) k4;exact⟨by rw[q1];exact k1,by rw[q2];exact k2,k3,k4⟩⟩
theorem AS.keep{W':World}{H':Gh}{v:V}{c:Value}(h:AS G w dk V0 W a L H)(hr:Rel W (A0 H W) [] v c)(hn:v.names=[])(hk:∀k n,k≠dk->H.Z k=.st n->H'.Z k=.st n/\W'.heap[k]?=W.heap[k]?):Rel W' (A0 H' W') [] v c:=by
 have hK:jV W W' (A0 H W) (A0 H' W') [] []:=⟨fun l a len z n cap hl ha=>by
  cases l with
  |none=>
   rcases ha with ha|⟨n',q1,q2⟩|⟨nm,_,q,_⟩;exact⟨.inl ha,fun j hj=>by omega⟩;have hne:a.block≠dk:=fun e=>by rw[e,h.deck.dkz]at q1;cases q1
   obtain⟨g1,g2⟩:=hk _ _ hne q1;refine⟨.inr (.inl ⟨n',g1,q2⟩),fun j _=>?_⟩;unfold World.cell?;rw[bM,g2];exfalso;by_cases e:a.block=dk;rw[e,h.deck.dkz]at q;cases q;rcases h.deck.zone _ e with h2|⟨n,h2⟩<;>rw[h2]at q<;>cases q
  |rv s c v=>exact absurd ha (by simp[A0,At])|_=>simp[Lab.names]at hl,fun i blk h=>h⟩
 exact Rel.keepB hK hr hn
theorem a6J{A:Pl}{B:List Nat}{v:V}{c:Value}(h:RelL W A B [v] [c]):Rel W A B v c:=by cases h;assumption
end
end Go.VM
namespace Go.Proofs.YtgfmodmeimhhpaaGreatDoor
open Go.RowKit Go.Lib Go.VM
section
variable{G:Gh}{w:World}{dk i:Nat}{V0:V}{l:List Int}{L:List (Nat×Array Value×TypeId)}
noncomputable def a1j(V0:V)(a:Int):V:=match call Z.FT 60 65 [.bp 0 0] [[V0,.int .i64 a]]with
 |some (v,_)=>v.mapLab1 fun _=>.none|none=>.undef
noncomputable def a0E(V0:V)(a:Int):V:=match call Z.FT 60 66 [.bp 0 0] [[V0,.int .i64 a]]with
 |some (v,_)=>v.mapLab1 fun _=>.none|none=>.undef
theorem a3W{α:Type}{p:α×Dk}{l:List Int}(h:p.2.1=l):p=(p.1,l,p.2.2):=by obtain⟨p1,p2,p3⟩:=p;simp only at h;subst h;rfl
structure DkC(G:Gh)(w:World)(dk:Nat)(V0:V)(l:List Int):Prop where
 next:∀(W:World) (H:Gh) (a b:Int) (L:List (Nat×Array Value×TypeId)),AS G w dk V0 W a L H->DK (l,a)->0<b->b<=9223372036854775807->Calls Tryz.prog 8 #[.pointer (some ⟨dk,0,none⟩),.int .i64 b] W fun e W'=>∃H' v a',e=.returned (.int .i64 v)/\Aside (nx (l,a) b=(v,l,a'))/\AS G w dk V0 W' a' L H'/\Aside (∀k n,k≠dk->H.Z k=.st n->H'.Z k=.st n/\W'.heap[k]?=W.heap[k]?)
 comm:∀(W:World) (H:Gh) (a:Int) (L:List (Nat×Array Value×TypeId)),AS G w dk V0 W a L H->DK (l,a)->Calls Tryz.prog 65 #[.pointer (some ⟨dk,0,none⟩)] W fun e W'=>∃H' o n c x a',e=.returned (.slice o n c)/\Aside (a0U (l,a)=(x,l,a'))/\AS G w dk V0 W' a' L H'/\Aside (Rel W' (A0 H' W') [] (a1j V0 a) (.slice o n c))
 large:∀(W:World) (H:Gh) (a:Int) (L:List (Nat×Array Value×TypeId)),AS G w dk V0 W a L H->DK (l,a)->Calls Tryz.prog 66 #[.pointer (some ⟨dk,0,none⟩)] W fun e W'=>∃H' o n c x a',e=.returned (.slice o n c)/\Aside (a0D (l,a)=(x,l,a'))/\AS G w dk V0 W' a' L H'/\Aside (Rel W' (A0 H' W') [] (a0E V0 a) (.slice o n c))/\Aside (∀k n,k≠dk->H.Z k=.st n->H'.Z k=.st n/\W'.heap[k]?=W.heap[k]?)
theorem a5q{t:Ty}{x:(Ty.sl t).den}{v:V}{W:World}{A:Pl}{B:List Nat}{c:Value}(h:gP (.sl t) x v)(hr:Rel W A B v c):∃o n k,c=.slice o n k:=by rcases eX h with⟨rfl,_⟩|⟨lb,rs,rfl,_⟩;exact⟨_,_,_,hr.nils_inv⟩;obtain⟨a,cap,xs,e,_⟩:=hr.sl_inv;exact⟨_,_,_,e⟩
theorem a0X{t:Ty}{x:(Ty.sl t).den}{v:V}(h:gP (.sl t) x v):gP (.sl t) x (v.mapLab1 fun _=>.none)/\(v.mapLab1 fun _=>.none).bare0/\bO [v.mapLab1 fun _=>.none]=true:=by
 have hv:gP (.sl t) x (v.mapLab1 fun _=>.none):=by rcases eX h with⟨rfl,e⟩|⟨lb,rs,rfl,h1,h2⟩;exact⟨.inl ⟨rfl,e⟩,rfl⟩;exact⟨.inr ⟨.none,rs,rfl,h1,h2⟩,rfl⟩
 refine⟨hv,?_,?_⟩;rcases eX h with⟨rfl,e⟩|⟨lb,rs,rfl,h1,h2⟩;trivial;rfl;simp only[bO,aHB hv,Bool.and_true]
theorem dkC(hG:GOk (fun _=>True) G w)(hz:G.Z dk=.bx i)(hV:DkV l V0):DkC G w dk V0 l where
 next W H a b L h hd hb hb2:=by
  refine(DkIn.call (i:=i) Z.tableOk (f:=8) (vf:=Z.vf8) rfl (a6H (d:=(l,a)) hd hV hb hb2) trivial hV.names hG hz h.deck (cs1:=[.int .i64 b]) (.cons _ _ _ _ (.int _ _) .nil)).mono fun e W' ⟨c,H',e1,e2,e3,e4,_⟩=>⟨H',(nx (l,a) b).1,(nx (l,a) b).2.2,?_,a3W (a0I (l,a) b),h.after e2 e4,fun k n hk hz=>?_⟩
  rw[e1,Rel.int_inv e3];obtain⟨q1,q2⟩:=e4 k (h.deck.lt k (by rw[hz];simp)) hk;exact⟨by rw[q2];exact hz,q1⟩
 comm W H a L h hd:=by
  obtain⟨v0,k1,k2,k3⟩:=a2g (d:=(l,a)) hd hV;refine(DkIn.call (i:=i) Z.tableOk (f:=65) (vf:=Z.vf65) rfl k1 k3 hV.names hG hz h.deck (cs1:=[]) .nil).mono fun e W' ⟨c,H',e1,e2,e3,e4,_⟩=>?_
  obtain⟨m1,m2,m3⟩:=a0X k2;obtain⟨o,n,k,rfl⟩:=a5q m1 e3;have hW:a1j V0 a=v0.mapLab1 fun _=>.none:=by unfold a1j;rw[k1]
  refine⟨H',o,n,k,(a0U (l,a)).1,(a0U (l,a)).2.2,e1,a3W (a2y hd).2.2.1,h.after e2 e4,?_⟩;rw[hW];exact a6J (RelL.nobox (.cons _ _ _ _ e3 .nil) m3)
 large W H a L h hd:=by
  obtain⟨v0,k1,k2,k3⟩:=a1L (d:=(l,a)) hd hV;refine(DkIn.call (i:=i) Z.tableOk (f:=66) (vf:=Z.vf66) rfl k1 k3 hV.names hG hz h.deck (cs1:=[]) .nil).mono fun e W' ⟨c,H',e1,e2,e3,e4,_⟩=>?_
  obtain⟨m1,m2,m3⟩:=a0X k2;obtain⟨o,n,k,rfl⟩:=a5q m1 e3;have hW:a0E V0 a=v0.mapLab1 fun _=>.none:=by unfold a0E;rw[k1]
  refine⟨H',o,n,k,(a0D (l,a)).1,(a0D (l,a)).2.2,e1,a3W (a1K hd).2.2.1,h.after e2 e4,by rw[hW];exact a6J (RelL.nobox (.cons _ _ _ _ e3 .nil) m3),fun k n hk hz=>?_⟩;obtain⟨q1,q2⟩:=e4 k (h.deck.lt k (by rw[hz];simp)) hk;exact⟨by rw[q2];exact hz,q1⟩
end
theorem a5P{l:List Int}{a:Int}{V0:V}(hd:DK (l,a))(hV:DkV l V0):(a1j V0 a).names=[]:=by obtain⟨v0,k1,k2,_⟩:=a2g (d:=(l,a)) hd hV;unfold a1j;rw[k1];rcases eX k2 with⟨rfl,_⟩|⟨lb,rs,rfl,_⟩<;>rfl
theorem a4L{l:List Int}{a:Int}{V0:V}(hd:DK (l,a))(hV:DkV l V0):(a0E V0 a).names=[]:=by obtain⟨v0,k1,k2,_⟩:=a1L (d:=(l,a)) hd hV;unfold a0E;rw[k1];rcases eX k2 with⟨rfl,_⟩|⟨lb,rs,rfl,_⟩<;>rfl
end Go.Proofs.YtgfmodmeimhhpaaGreatDoor
namespace Go.Proofs.YtgfmodmeimhhpaaGreatDoor
open Go.RowKit Go.Lib Go.VM
theorem res28(W:World)(b:Nat)(tmps:Array Value)(x0 x1 x2 x3 x4 x5 x6 x7 x8 x9 x10:Value)(ht:tmps[6]?.getD Go.undef=.pointer (some ⟨b,0,none⟩))(h:a1S W b x0 x1 x2 x3 x4 x5 x6 x7 x8 x9 x10):(results Tryz.f28 tmps).run Tryz.prog W=.ok (.agg #[x0,x1,x2,x3,x4,x5,x6,x7,x8,x9,x10]) W:=by obtain⟨q0,q1,q2,q3,q4,q5,q6,q7,q8,q9,q10⟩:=(a0j h).1;simp[results,Tryz.results28,ht,go_sem,q0,q1,q2,q3,q4,q5,q6,q7,q8,q9,q10]
theorem res63(W:World)(b:Nat)(tmps:Array Value)(x0 x1 x2 x3 x4 x5 x6 x7 x8 x9 x10:Value)(ht:tmps[0]?.getD Go.undef=.pointer (some ⟨b,0,none⟩))(h:a1S W b x0 x1 x2 x3 x4 x5 x6 x7 x8 x9 x10):(results Tryz.f63 tmps).run Tryz.prog W=.ok (.agg #[x0,x1,x2,x3,x4,x5,x6,x7,x8,x9,x10]) W:=by obtain⟨q0,q1,q2,q3,q4,q5,q6,q7,q8,q9,q10⟩:=(a0j h).1;simp[results,Tryz.results63,ht,go_sem,q0,q1,q2,q3,q4,q5,q6,q7,q8,q9,q10]
abbrev a3X:Array Value:=#[.int .i64 (-1),.slice none 0 0,.bool false,.int .u64 0,.int .u64 0,.int .i64 (-1),.int .i64 (-1),.int .i64 (-1),.slice none 0 0,.slice none 0 0,.slice none 0 0]
abbrev a0z:Array Value:=#[.int .i64 0,.slice none 0 0,.bool false,.int .u64 0,.int .u64 0,.int .i64 0,.int .i64 0,.int .i64 0,.slice none 0 0,.slice none 0 0,.slice none 0 0]
set_option maxHeartbeats 4000000 in
set_option maxRecDepth 100000 in
theorem a5Q(w:World):Calls Tryz.prog 63 #[] w fun e w'=>e=.returned (.agg a3X)/\Below w.heap.size w w':=by
 go_enter Tryz.func63,Tryz.ntmps63
 go_wp2
 refine bodyPost_ret (v:=.agg a3X) ?_ rfl ?_
 .exact res63 _ w.heap.size _ _ _ _ _ _ _ _ _ _ _ _ rfl (heap_alloc_new _ _)
 .exact⟨rfl,(Below.refl _ w).alloc (Nat.le_refl _) _⟩
end Go.Proofs.YtgfmodmeimhhpaaGreatDoor
namespace Go.Proofs.YtgfmodmeimhhpaaGreatDoor
open Go.VM
def a0p(a:Int)(b:Bool):Bool×Int×Int:=if b=true then(true,2306139568115613695,IntKind.u64.wrap a)else(false,0,bits .or IntKind.u64 3221225984 (IntKind.u64.wrap (IntKind.i64.wrap (Int.tmod a 250+1))))
def a2J(asn:Int)(k:Int):Int:=[asn,101,102,201,202,203,301].getD k.toNat 0
def a1G(asn:Int):Nat->List Int->Dk->List Int×Dk
 |0,p,d=>(p,d)|k+1,p,d=>a1G asn k (p++[a2J asn (nx d 7).1]) (nx d 7).2
def a1w(d:Dk)(b n:Int):Int×Dk:=if(nx d b).1=0 then nx (nx d b).2 n else(-1,(nx d b).2)
def a2o(d:Dk)(asn:Int):Int×List Int×Dk:=
 let o:=nx d 3;let k:=nx o.2 4;let p:=a1G asn k.1.toNat [asn] k.2
 (o.1,p.1,p.2)
def swD(o:Int)(p:List Int)(m r:Int)(c:List (Int×Int))(g:List (Int×Int×Int))(asn:Int)(v6:Bool)(s:Int×Dk):a0s×Dk:=
 let A:=fun(path:List Seg) next otc other=>((o,path,next,m,r,otc,c,g,other):a0s)
 let P:=a0p asn v6
 if s.1=0 then(A [(false,p)] P (1+(nx s.2 300).1) [],(nx s.2 300).2)
 else if s.1=1 then(A [(false,p.set 0 103)] P (-1) [],s.2)
 else if s.1=2 then(A [(false,p),(true,[7,9])] P (-1) [],s.2)
 else if s.1=3 then(A [(false,p++[99])] P (-1) [],s.2)
 else if s.1=4 then(A [(false,p)] (a0p 104 v6) (-1) [],s.2)
 else if s.1=5 then(A [(false,p++[64512,701])] P (-1) [],s.2)
 else if s.1=6 then(A [] P (-1) [],s.2)
 else if s.1=7 then(A [(false,p)] P (-1) [(224,99,[1,(nx s.2 256).1])],(nx s.2 256).2)
 else(A [(false,p)] P (-1) [],s.2)
noncomputable def a0F(d:Dk)(asn:Int)(v6:Bool):a0s×Dk:=
 let a:=a2o d asn;let m:=a1w a.2.2 3 3;let r:=a1w m.2 6 300;let c:=a0U r.2;let g:=a0D c.2
 swD a.1 a.2.1 m.1 r.1 c.1 g.1 asn v6 (nx g.2 24)
noncomputable def a1P(x:Dk×Int×Bool):Option (a0s×Dk):=if dkB x.1=true then some (a0F x.1 x.2.1 x.2.2)else none
theorem a1c(asn:Int):∀(k:Nat) (p:List Int) (d:Dk),DK d->(a1G asn k p d).1.length=p.length+k/\(a1G asn k p d).2.1=d.1/\DK (a1G asn k p d).2
 |0,p,d,h=>⟨rfl,rfl,h⟩|k+1,p,d,h=>by obtain⟨h1,h2,h3⟩:=a1c asn k (p++[a2J asn (nx d 7).1]) (nx d 7).2 (a1E h 7);refine⟨?_,?_,h3⟩;show(a1G asn k (p++[a2J asn (nx d 7).1]) (nx d 7).2).1.length=_;rw[h1,List.length_append];simp;omega;show(a1G asn k (p++[a2J asn (nx d 7).1]) (nx d 7).2).2.1=_;rw[h2];exact a0I _ _
theorem a1M{d:Dk}(h:DK d)(b n:Int):(a1w d b n).2.1=d.1/\DK (a1w d b n).2:=by unfold a1w;split;exact⟨(a0I _ _).trans (a0I _ _),a1E (a1E h b) n⟩;exact⟨a0I _ _,a1E h b⟩
end Go.Proofs.YtgfmodmeimhhpaaGreatDoor
open List(mem_cons not_mem_nil mem_cons_self mem_cons_of_mem length_append length_set)
open Nat(zero_add)
namespace Go.Proofs.YtgfmodmeimhhpaaGreatDoor
open Go.RowKit Go.Lib Go.VM
theorem a4y(a:Int)(b:Bool)(W:World):Calls Tryz.prog 64 #[.int .i64 a,.bool b] W fun e W'=>e=.returned (.agg #[.bool (a0p a b).1,.int .u64 (a0p a b).2.1,.int .u64 (a0p a b).2.2])/\Below W.heap.size W W':=by
 have hty:wZ ⟨[.d (.int .i64),.d .bool],[(tyAd,[])],none⟩ [] (call Z.FT 60 64) (Z.n64 60):=by have h:=Z.typed 60 64;unfold aF7 at h;rw[Z.sigOk 64]at h;exact h
 have hx:Z.n64 60 (a,b)=some (a0p a b):=by rw[Z.e64];cases b<;>rfl
 refine(a1o (Z.tableOk) (f:=64) (ps:=[.d (.int .i64),.d .bool]) (rs:=[(tyAd,[])]) (vf:=Z.vf64) rfl hty (fun p hp=>by simp only[mem_cons,not_mem_nil,or_false]at hp;rcases hp with rfl|rfl<;>exact⟨_,rfl,.inr rfl⟩) (by decide) (fun _ _=>trivial) (Q:=fun _=>True) hx (cs:=[.int .i64 a,.bool b]) ⟨_,_,rfl,⟨rfl,rfl⟩,_,_,rfl,⟨rfl,rfl⟩,rfl⟩).mono fun e W' ⟨rcs,e1,e2,e3⟩=>⟨?_,e2⟩
 obtain⟨c1,cs1,rfl,h1,rfl⟩:=e3;obtain⟨⟨x,y,hc,k1,z0,z1,rfl,k2,k3⟩,hag⟩:=h1;have k1:x=[.bool (a0p a b).1]:=k1;have k2:z0=[.int .u64 (a0p a b).2.1]:=k2;have k3:z1=[.int .u64 (a0p a b).2.2]:=k3;subst k1;subst k2;subst k3;rw[e1];cases c1 with
 |agg ys=>have:ys=#[.bool (a0p a b).1,.int .u64 (a0p a b).2.1,.int .u64 (a0p a b).2.2]:=Array.ext' hc;rw[this];rfl|_=>cases hag
abbrev a0i(o:Int)(p:Value)(v6:Bool)(hi lo m r c:Int)(cm lg ot:Value):Array Value:=#[.int .i64 o,p,.bool v6,.int .u64 hi,.int .u64 lo,.int .i64 m,.int .i64 r,.int .i64 c,cm,lg,ot]
abbrev a0u:Value:=.slice none 0 0
theorem as_one{G:Gh}{w:World}{dk:Nat}{V0:V}{a0:Int}{H0:Gh}(h:AS G w dk V0 w a0 [] H0)(w1:World)(hb:Below (w.alloc (.cells a0z 35)).heap.size (w.alloc (.cells a0z 35)) w1):AS G w dk V0 (w1.alloc (.cells a3X 35)) a0 [(w1.heap.size,a3X,35),(w.heap.size,a0z,35)] H0:=
 ((h.alloc a0z 35).quiet hb).alloc a3X 35
theorem as_two{G:Gh}{w w2:World}{dk ab:Nat}{V0:V}{a:Int}{H:Gh}(h:AS G w dk V0 w2 a [(ab,a3X,35),(w.heap.size,a0z,35)] H)(hne:w.heap.size≠ab)(o asn:Int) :
  AS G w dk V0 ((w2.setCell ⟨ab,0,none⟩ (.int .i64 o)).alloc (.cells #[.int .i64 asn] 3)) a [(w2.heap.size,#[.int .i64 asn],3),(ab,a0i o a0u false 0 0 (-1) (-1) (-1) a0u a0u a0u,35),(w.heap.size,a0z,35)] H:=by
 have h1:=h.set (b:=ab) (j:=0) (v:=.int .i64 o) (cs:=a3X) (ds:=a0i o a0u false 0 0 (-1) (-1) (-1) a0u a0u a0u) (t:=35) (by simp) rfl (L':=[(ab,a0i o a0u false 0 0 (-1) (-1) (-1) a0u a0u a0u,35),(w.heap.size,a0z,35)]) (fun x hx=>by simp only[mem_cons,not_mem_nil,or_false]at hx;rcases hx with rfl|rfl;exact .inl rfl;exact .inr ⟨by simp,hne⟩)
 have h2:=h1.alloc #[.int .i64 asn] 3;rw[World.size_setCell]at h2;exact h2
theorem _root_.Go.VM.AS.app{G:Gh}{w W W':World}{dk:Nat}{V0:V}{a:Int}{H:Gh}{b b':Nat}{cs ds:Array Value}{t:TypeId}{L:List (Nat×Array Value×TypeId)}(h:AS G w dk V0 W a ((b,cs,t)::L) H)(hg:W.grownBy W' (some b))(hW:W'.heap[b']?=some (.cells ds t (0,0)))(hb:b'=b\/b'=W.heap.size)(hL:∀x∈L,x.1≠b) :
  AS G w dk V0 W' a ((b',ds,t)::L) H:=by
 obtain⟨k1,k2,k3,k4⟩:=h.own b cs t mem_cons_self;refine⟨h.deck.move (fun c hc hz=>hg.block c hc fun e=>?_) hg.size hg.os hg.tape hg.output,fun c cs' t' hc=>?_⟩;cases e;rcases hz with hz|hz;exact hz k2;omega;rcases mem_cons.1 hc with e|hc;cases e;refine⟨hW,?_,?_,?_⟩;rcases hb with rfl|rfl;exact k2;by_cases ho:H.Z W.heap.size=.out;exact ho;exact absurd (h.deck.lt _ ho) (Nat.lt_irrefl _);rcases hb with rfl|rfl;exact k3;exact h.deck.size;rcases hb with rfl|rfl;exact k4;have:=h.dlt;omega;obtain⟨q1,q2⟩:=h.own c cs' t' (mem_cons_of_mem _ hc);exact⟨by rw[hg.block c (h.lt (mem_cons_of_mem _ hc)) fun e=>hL _ hc (Option.some.inj e)];exact q1,q2⟩
structure PRow(cur:Array Value)(cap:Nat)(p:List Int):Prop where
 le:p.length<=cap
 max:cap<=maxLen
 size:cur.size=cap
 row:cur.toList.take p.length=a1f p
theorem _root_.Go.VM.AS.push{G:Gh}{w W:World}{dk:Nat}{V0:V}{a:Int}{H:Gh}{b cap:Nat}{cur:Array Value}{p:List Int}{L:List (Nat×Array Value×TypeId)}(h:AS G w dk V0 W a ((b,cur,3)::L) H)(hp:PRow cur cap p)(hs:p.length<=1000)(hL:∀x∈L,x.1≠b)(xs:List Int)(hx:xs.length<=1000)(ad:Addr)(m c:Nat)(hm:xs.length=m)
  (hn:∀j u,(a1f xs)[j]?=some u->W.cell? (ad.add j)=some u) (ty:TypeId) :
  ∃v' W',(Builtin.append_ #[22,22] ty #[.slice (some ⟨b,0,none⟩) p.length cap,.slice (some ad) m c]).run Tryz.prog W=.ok v' W'/\∃b' cap' cur',v'=.slice (some ⟨b',0,none⟩) (p.length+m) cap'/\AS G w dk V0 W' a ((b',cur',3)::L) H/\PRow cur' cap' (p++xs)/\(b'=b\/b'=W.heap.size)/\W.grownBy W' (some b):=by
 obtain⟨i0,hi0,hz0,hzs,hzb⟩:=info_parts a5j;obtain⟨k1,k2,k3,k4⟩:=h.own b cur 3 mem_cons_self;obtain⟨v',W',q1,q2,q3,q4,q5⟩:=run_append_own_at (P:=Tryz.prog) W w.heap.size 22 ty 3 i0 (.int .i64 0) 1 8 Tryz.underlying22 hi0 hz0 hzs hzb rfl (by decide) (.slice (some ⟨b,0,none⟩) p.length cap) p.length (a1f p)
  ⟨by rw[a1r];omega,.inr ⟨b,cap,cur,rfl,k3,k1,hp.le,hp.max,by rw[hp.size];omega,by rw[Nat.mul_one];exact hp.row⟩⟩ ad m c (a1f xs) (by rw[a1r];omega) hn (fun u hu=>by simp only[a1f,List.mem_map]at hu;obtain⟨x,_,rfl⟩:=hu;rfl) (by unfold maxLen;omega) (by omega) h.deck.size
 rcases q2.2 with⟨e,_⟩|⟨b',cap',cur',rfl,g1,g2,g3,g4,g5,g6⟩;have:=(q4.1 e).1;cases this
 · have hb' : b' = b ∨ b' = W.heap.size := by
     rcases q5 with q5|q5;exact .inl (Option.some.inj q5);exact .inr (Option.some.inj q5)
   exact⟨_,W',q1,b',cap',cur',rfl,h.app q3 g2 hb' hL,⟨by rw[length_append];omega,g4,by rw[g5];omega,by rw[length_append,hm,<-Nat.mul_one (p.length+m),g6];exact(List.map_append ..).symm⟩,hb',q3⟩
def LInv(G:Gh)(w:World)(dk:Nat)(V0:V)(l:List Int)(ab:Nat)(o asn:Int)(P:List Int×Dk)(wr:World)(pb cap:Nat)(p:List Int)(j:Nat):Prop:=
 ∃cur a H,AS G w dk V0 wr a [(pb,cur,3),(ab,a0i o a0u false 0 0 (-1) (-1) (-1) a0u a0u a0u,35),(w.heap.size,a0z,35)] H/\DK (l,a)/\PRow cur cap p/\p.length+j<=4/\a1G asn j p (l,a)=P/\pb≠ab/\pb≠w.heap.size/\ab≠w.heap.size
theorem a7P{w w1:World}{o:Obj}(hb:Below (w.alloc o).heap.size (w.alloc o) w1):w.heap.size≠w1.heap.size:=by have:=hb.size;rw[a2h]at this;omega
theorem a0N{l:List Int}{a a' v b:Int}(h:DK (l,a))(hn:nx (l,a) b=(v,l,a')):DK (l,a'):=by have:=a1E h b;rw[hn]at this;exact this
theorem a5r{l:List Int}{a a' v b:Int}(hn:nx (l,a) b=(v,l,a'))(hb:0<b):∃k:Nat,v=k/\(k:Int)<b:=by have:=a3y (l,a) hb;rw[hn]at this;exact⟨v.toNat,by have:=this.1;simp only at this;omega,by have h1:=this.1;have h2:=this.2;simp only at h1 h2;omega⟩
theorem a5R{G:Gh}{w w1 w2 w3:World}{dk kk:Nat}{V0:V}{l:List Int}{o asn a1 a2:Int}{H2 H3:Gh}{ob:Obj}(h:AS G w dk V0 w3 a2 [(w2.heap.size,#[.int .i64 asn],3),(w1.heap.size,a0i o a0u false 0 0 (-1) (-1) (-1) a0u a0u a0u,35),(w.heap.size,a0z,35)] H3)(hb:Below (w.alloc ob).heap.size (w.alloc ob) w1)
  (h2:AS G w dk V0 w2 a1 [(w1.heap.size,a3X,35),(w.heap.size,a0z,35)] H2) (hd:DK (l,a2)) (hk:(kk:Int)<4):LInv G w dk V0 l w1.heap.size o asn (a1G asn kk [asn] (l,a2)) w3 w2.heap.size 1 [asn] kk:=by
 have e1:=a7P hb;have e2:=h2.lt (b:=w1.heap.size) (cs:=a3X) (t:=35) (by simp);have e3:=h2.lt (b:=w.heap.size) (cs:=a0z) (t:=35) (by simp);exact⟨_,a2,H3,h,hd,⟨Nat.le_refl _,by decide,rfl,rfl⟩,by simp;omega,rfl,by omega,by omega,by omega⟩
abbrev arr7(asn:Int):Array Value:=#[.int .i64 asn,.int .i64 101,.int .i64 102,.int .i64 201,.int .i64 202,.int .i64 203,.int .i64 301]
theorem a6K{G:Gh}{w W:World}{dk b:Nat}{V0:V}{a asn:Int}{H:Gh}{L:List (Nat×Array Value×TypeId)}(h:AS G w dk V0 W a ((b,arr7 asn,3)::L) H){k:Nat}(hk:(k:Int)<7):W.cell? ⟨b,k,none⟩=some (.int .i64 (a2J asn k)):=by
 refine h.cell mem_cons_self ?_;have hk:k<7:=by omega
 match k,hk with
 |0,_=>rfl|1,_=>rfl|2,_=>rfl|3,_=>rfl|4,_=>rfl|5,_=>rfl|6,_=>rfl
theorem a5S{G:Gh}{w wr w4:World}{dk:Nat}{V0:V}{l:List Int}{ab pb cap j vn:Nat}{o asn a a':Int}{P:List Int×Dk}{p:List Int}{cur:Array Value}{H H4:Gh}{b7:Nat}(hS:AS G w dk V0 wr a [(pb,cur,3),(ab,a0i o a0u false 0 0 (-1) (-1) (-1) a0u a0u a0u,35),(w.heap.size,a0z,35)] H)
  (h:AS G w dk V0 w4 a' [(b7,arr7 asn,3),(pb,cur,3),(ab,a0i o a0u false 0 0 (-1) (-1) (-1) a0u a0u a0u,35),(w.heap.size,a0z,35)] H4) (hd:DK (l,a)) (hn:nx (l,a) 7=((vn:Int),l,a')) (hp:PRow cur cap p) (hl:p.length+(j+1)<=4) (hP:a1G asn (j+1) p (l,a)=P) (n1:pb≠ab) (n2:pb≠w.heap.size) (n3:ab≠w.heap.size) (ty:TypeId) :
  ∃ v' W',(Builtin.append_ #[22,22] ty #[.slice (some ⟨pb,0,none⟩) p.length cap,.slice (some ⟨w4.heap.size,0,none⟩) 1 1]).run Tryz.prog (w4.alloc (.cells #[.int .i64 (a2J asn vn)] 3))=.ok v' W' ∧
    ∃pb' cap',v'=.slice (some ⟨pb',0,none⟩) (p.length+1) cap'/\LInv G w dk V0 l ab o asn P W' pb' cap' (p++[a2J asn vn]) j:=by
 have h1:=(h.alloc #[.int .i64 (a2J asn vn)] 3).sub (L':=[(pb,cur,3),(ab,a0i o a0u false 0 0 (-1) (-1) (-1) a0u a0u a0u,35),(w.heap.size,a0z,35)]) fun x hx=>mem_cons_of_mem _ (mem_cons_of_mem _ hx)
 have hlt:=h.lt (b:=ab) (cs:=a0i o a0u false 0 0 (-1) (-1) (-1) a0u a0u a0u) (t:=35) (by simp);have hlt2:=h.lt (b:=w.heap.size) (cs:=a0z) (t:=35) (by simp);obtain⟨v',W',q1,b',cap',cur',e,q2,q3,q4,_⟩:=h1.push hp (by omega) (fun x hx=>by
  simp only[mem_cons,not_mem_nil,or_false]at hx;rcases hx with rfl|rfl;exact fun e=>n1 e.symm
  exact fun e=>n2 e.symm) [a2J asn vn] (by simp) ⟨w4.heap.size,0,none⟩ 1 1 rfl (fun j u hj=>by
  rw[Addr.add_lit,zero_add];simp only[World.cell?];rw[heap_alloc_new w4 (.cells #[.int .i64 (a2J asn vn)] 3)];simpa[a1f]using hj) ty
 refine⟨v',W',q1,b',cap',e,cur',a',H4,q2,a0N hd hn,q3,by rw[length_append];simp;omega,?_,?_,?_,n3⟩;rw[<-hP];show _=a1G asn j (p++[a2J asn (nx (l,a) 7).1]) (nx (l,a) 7).2;rw[hn];rcases q4 with rfl|rfl;exact n1;rw[a2h];omega;rcases q4 with rfl|rfl;exact n2;rw[a2h];omega
structure mG(G:Gh)(w:World)(dk:Nat)(V0:V)(l:List Int)(ab sb pb cap:Nat)(cur:Array Value)(p:List Int)(A:Array Value)(wr:World)(a:Int)(H:Gh):Prop where
 st:AS G w dk V0 wr a [(ab,A,35),(sb,#[.bool false,.slice (some ⟨pb,0,none⟩) p.length cap],80),(pb,cur,3),(w.heap.size,a0z,35)] H
 dk:DK (l,a)
 row:PRow cur cap p
 len:p.length<=4
 sp:sb≠pb
 sa:sb≠ab
 sr:sb≠w.heap.size
 pa:pb≠ab
 pr:pb≠w.heap.size
 ar:ab≠w.heap.size
theorem a6L{l:List Int}{a a1 a2 v b n:Int}(h1:nx (l,a) b=(0,l,a1))(h2:nx (l,a1) n=(v,l,a2)):a1w (l,a) b n=(v,l,a2):=by unfold a1w;rw[h1];exact h2
theorem a7Q{l:List Int}{a a1 u b n:Int}(h1:nx (l,a) b=(u,l,a1))(h:u≠0):a1w (l,a) b n=(-1,l,a1):=by unfold a1w;rw[h1];exact if_neg h
section
variable{G H:Gh}{w wr:World}{dk ab sb pb cap:Nat}{V0:V}{l p:List Int}{cur A:Array Value}{a:Int}
theorem mG.set(h:mG G w dk V0 l ab sb pb cap cur p A wr a H){j:Nat}{v:Value}{A':Array Value}(e:A.setIfInBounds j v=A'):mG G w dk V0 l ab sb pb cap cur p A' (wr.setCell ⟨ab,j,none⟩ v) a H:=
 ⟨h.st.set mem_cons_self e fun x hx=>by rcases mem_cons.1 hx with rfl|hx;exact .inl rfl;refine .inr ⟨mem_cons_of_mem _ hx,?_⟩;simp only[mem_cons,not_mem_nil,or_false]at hx;rcases hx with rfl|rfl|rfl;exact h.sa;exact h.pa;exact fun e=>h.ar e.symm,h.dk,h.row,h.len,h.sp,h.sa,h.sr,h.pa,h.pr,h.ar⟩
theorem mG.quiet(h:mG G w dk V0 l ab sb pb cap cur p A wr a H){W:World}(hb:Below wr.heap.size wr W):mG G w dk V0 l ab sb pb cap cur p A W a H:=⟨h.st.quiet hb,h.dk,h.row,h.len,h.sp,h.sa,h.sr,h.pa,h.pr,h.ar⟩
theorem mG.step(h:mG G w dk V0 l ab sb pb cap cur p A wr a H){W:World}{H':Gh}{a':Int}(hs:AS G w dk V0 W a' [(ab,A,35),(sb,#[.bool false,.slice (some ⟨pb,0,none⟩) p.length cap],80),(pb,cur,3),(w.heap.size,a0z,35)] H')(hd:DK (l,a')):mG G w dk V0 l ab sb pb cap cur p A W a' H':=⟨hs,hd,h.row,h.len,h.sp,h.sa,h.sr,h.pa,h.pr,h.ar⟩
theorem m_start{o:Int}(hS:AS G w dk V0 wr a [(pb,cur,3),(ab,a0i o a0u false 0 0 (-1) (-1) (-1) a0u a0u a0u,35),(w.heap.size,a0z,35)] H)(hd:DK (l,a))(hp:PRow cur cap p)(hl:p.length+0<=4)(n1:pb≠ab)(n2:pb≠w.heap.size)(n3:ab≠w.heap.size) :
  mG G w dk V0 l ab wr.heap.size pb cap cur p (a0i o (.slice (some ⟨wr.heap.size,0,none⟩) 1 1) false 0 0 (-1) (-1) (-1) a0u a0u a0u) ((wr.alloc (.cells #[.bool false,.slice (some ⟨pb,0,none⟩) p.length cap] 80)).setCell ⟨ab,1,none⟩ (.slice (some ⟨wr.heap.size,0,none⟩) 1 1)) a H:=by
 have l1:=hS.lt (b:=pb) (cs:=cur) (t:=3) (by simp);have l2:=hS.lt (b:=ab) (cs:=a0i o a0u false 0 0 (-1) (-1) (-1) a0u a0u a0u) (t:=35) (by simp);have l3:=hS.lt (b:=w.heap.size) (cs:=a0z) (t:=35) (by simp);have h1:=(hS.alloc #[.bool false,.slice (some ⟨pb,0,none⟩) p.length cap] 80).sub (L':=[(ab,a0i o a0u false 0 0 (-1) (-1) (-1) a0u a0u a0u,35),(wr.heap.size,#[.bool false,.slice (some ⟨pb,0,none⟩) p.length cap],80),(pb,cur,3),(w.heap.size,a0z,35)]) (fun x hx=>by simp only[mem_cons,not_mem_nil,or_false]at hx ⊢;rcases hx with rfl|rfl|rfl|rfl<;>simp)
 exact mG.set ⟨h1,hd,hp,hl,by omega,by omega,by omega,n1,n2,n3⟩ rfl
theorem a7R{o m r c:Int}{pv cm lg ot:Value}(h:mG G w dk V0 l ab sb pb cap cur p (a0i o pv false 0 0 m r c cm lg ot) wr a H)(b:Bool)(hi lo:Int) :
  mG G w dk V0 l ab sb pb cap cur p (a0i o pv b hi lo m r c cm lg ot) (((wr.setCell ⟨ab,2,none⟩ (.bool b)).setCell ⟨ab,3,none⟩ (.int .u64 hi)).setCell ⟨ab,4,none⟩ (.int .u64 lo)) a H:=
 ((h.set (A':=a0i o pv b 0 0 m r c cm lg ot) rfl).set (A':=a0i o pv b hi 0 m r c cm lg ot) rfl).set (A':=a0i o pv b hi lo m r c cm lg ot) rfl
theorem m_cl{o m r c hi lo:Int}{b:Bool}{pv cm0 lg0 ot:Value}(h:mG G w dk V0 l ab sb pb cap cur p (a0i o pv b hi lo m r c cm0 lg0 ot) wr a H)(cm lg:Value) :
  mG G w dk V0 l ab sb pb cap cur p (a0i o pv b hi lo m r c cm lg ot) ((wr.setCell ⟨ab,8,none⟩ cm).setCell ⟨ab,9,none⟩ lg) a H:=
 (h.set (A':=a0i o pv b hi lo m r c cm lg0 ot) rfl).set (A':=a0i o pv b hi lo m r c cm lg ot) rfl
end
theorem dk_comm{l:List Int}{a a':Int}{x:List (Int×Int)}(h:DK (l,a))(hn:a0U (l,a)=(x,l,a')):DK (l,a'):=by have:=(a2y h).2.2.2;rw[hn]at this;exact this
theorem a7u{l:List Int}{a a':Int}{x:List (Int×Int×Int)}(h:DK (l,a))(hn:a0D (l,a)=(x,l,a')):DK (l,a'):=by have:=(a1K h).2.2.2;rw[hn]at this;exact this
section
variable{G H:Gh}{w W:World}{dk:Nat}{V0:V}{a:Int}{L:List (Nat×Array Value×TypeId)}
theorem a2z(h:AS G w dk V0 W a L H){b n cap z:Nat}{cs:Array Value}{t:TypeId}(hm:(b,cs,t)∈L){ws:List V}{xs:List Value}(hz:0<z)(hl:xs.length=n*z)(hn:n<=cap)(hmax:cap<=maxLen)(hsz:xs.length<=cs.size)(hx:cs.toList.take xs.length=xs)
  (hr:RelL W (Adk H w W) [] ws xs) (hnm:aC ws=[]):Rel W (Adk H w W) [] (.sl .none z n ws) (.slice (some ⟨b,0,none⟩) n cap):=by
 obtain⟨k1,_,k3,_⟩:=h.own b cs t hm;refine .sl .none z n ws ⟨b,0,none⟩ cap xs (.inr (.inr ⟨k3,cs,t,(0,0),k1,by simpa using hsz⟩)) hz hl hn hmax (fun j u hj=>?_) hr hnm;rw[Addr.add_lit,zero_add];simp only[World.cell?,k1];rw[<-hx,List.getElem?_take]at hj;split at hj;simpa using hj;cases hj
theorem a5s(h:AS G w dk V0 W a L H){b cap:Nat}{cur:Array Value}{p:List Int}(hm:(b,cur,3)∈L)(hp:PRow cur cap p)(h0:0<p.length):Rel W (Adk H w W) [] (a5g p) (.slice (some ⟨b,0,none⟩) p.length cap):=by unfold a5g;rw[if_neg (by cases p with|nil=>simp at h0|cons x r=>simp)];exact a2z h hm (by decide) (by rw[a1r];omega) hp.le hp.max (by rw[a1r,hp.size];exact hp.le) (by rw[a1r];exact hp.row) (a3T p) (a2v p)
theorem a3Y(h:AS G w dk V0 W a L H){sb b cap:Nat}{cur:Array Value}{p:List Int}(hs:(sb,#[.bool false,.slice (some ⟨b,0,none⟩) p.length cap],80)∈L)(hm:(b,cur,3)∈L)(hp:PRow cur cap p)(h0:0<p.length) :
  Rel W (Adk H w W) [] (a2I [(false,p)]) (.slice (some ⟨sb,0,none⟩) 1 1):=
 a2z h hs (by decide) (xs:=[.bool false,.slice (some ⟨b,0,none⟩) p.length cap]) rfl (Nat.le_refl _) (by decide) (by simp) rfl (.cons _ _ _ _ (.bool _) (.cons _ _ _ _ (a5s h hm hp h0) .nil)) (a1s [(false,p)])
theorem a7S{v:V}{c:Value}(h:AS G w dk V0 W a L H)(hr:Rel W (A0 H W) [] v c)(hn:v.names=[]):Rel W (Adk H w W) [] v c:=by
 have hK:jV W W (A0 H W) (Adk H w W) [] []:=⟨fun l a len z n cap hl ha=>by
  cases l with
  |none=>
   refine⟨?_,fun _ _=>rfl⟩;rcases ha with ha|ha|⟨nm,_,q,_⟩;exact .inl ha;exact .inr (.inl ha);exfalso;by_cases e:a.block=dk;rw[e,h.deck.dkz]at q;cases q;rcases h.deck.zone _ e with h2|⟨n,h2⟩<;>rw[h2]at q<;>cases q
  |rv s c v=>exact absurd ha (by simp[A0,At])|_=>simp[Lab.names]at hl,fun i blk h=>h⟩
 exact Rel.keepB hK hr hn
theorem AS.rest{W':World}{v:V}{c:Value}{a':Int}{L':List (Nat×Array Value×TypeId)}(h:AS G w dk V0 W a L H)(h':AS G w dk V0 W' a' L' H)(hb:∀b,b<W.heap.size->H.Z b≠.out->b≠dk->W'.heap[b]?=W.heap[b]?)(hr:Rel W (A0 H W) [] v c)(hn:v.names=[]):Rel W' (A0 H W') [] v c:=
 h.keep hr hn fun k n hk hz=>⟨hz,hb k (h.deck.lt k (by rw[hz];simp)) (by rw[hz];simp) hk⟩
end
def a2K(L:List Seg):V:=if L.isEmpty=true then .nils else a2I L
def unkW(u:Unk):List V:=[.int .i64 u.1,.int .i64 u.2.1,.sl .none 1 u.2.2.length (u.2.2.map (V.int .u8))]
def a1x(l:List Unk):V:=if l.isEmpty=true then .nils else .sl .none 3 l.length (l.flatMap unkW)
structure SwInv(G:Gh)(w:World)(dk:Nat)(V0:V)(ab:Nat)(o m r:Int)(cm lg:Value)(cw lw:V)(W:World)(a:Int)(path:List Seg)(P:Bool×Int×Int)(c:Int)(other:List Unk)(pv ot:Value)(H:Gh)(L:List (Nat×Array Value×TypeId)):Prop where
 st:AS G w dk V0 W a ((ab,a0i o pv P.1 P.2.1 P.2.2 m r c cm lg ot,35)::(w.heap.size,a0z,35)::L) H
 ar:ab≠w.heap.size
 ne:∀x∈L,x.1≠w.heap.size
 rel:∀W',AS G w dk V0 W' a L H->Rel W' (Adk H w W') [] (a2K path) pv/\Rel W' (Adk H w W') [] (a1x other) ot
 cmR:Rel W (A0 H W) [] cw cm
 lgR:Rel W (A0 H W) [] lw lg
section
variable{G H:Gh}{w wr:World}{dk ab sb pb cap:Nat}{V0 cw lw:V}{l p:List Int}{cur A:Array Value}{a o m r c hi lo:Int}{b:Bool}{cm lg ot pv:Value}
theorem m_port2(h:mG G w dk V0 l ab sb pb cap cur p (a0i o pv b hi lo m r c cm lg ot) wr a H)(b':Bool)(hi' lo':Int) :
  mG G w dk V0 l ab sb pb cap cur p (a0i o pv b' hi' lo' m r c cm lg ot) (((wr.setCell ⟨ab,2,none⟩ (.bool b')).setCell ⟨ab,3,none⟩ (.int .u64 hi')).setCell ⟨ab,4,none⟩ (.int .u64 lo')) a H:=
 ((h.set (A':=a0i o pv b' hi lo m r c cm lg ot) rfl).set (A':=a0i o pv b' hi' lo m r c cm lg ot) rfl).set (A':=a0i o pv b' hi' lo' m r c cm lg ot) rfl
theorem a3Z{P:Bool×Int×Int}(h:mG G w dk V0 l ab sb pb cap cur p (a0i o (.slice (some ⟨sb,0,none⟩) 1 1) P.1 P.2.1 P.2.2 m r c cm lg a0u) wr a H)(h0:0<p.length)(h1:Rel wr (A0 H wr) [] cw cm)(h2:Rel wr (A0 H wr) [] lw lg) :
  SwInv G w dk V0 ab o m r cm lg cw lw wr a [(false,p)] P c [] (.slice (some ⟨sb,0,none⟩) 1 1) a0u H [(sb,#[.bool false,.slice (some ⟨pb,0,none⟩) p.length cap],80),(pb,cur,3)]:=
 ⟨h.st.sub (fun x hx=>by
  simp only[mem_cons,not_mem_nil,or_false]at hx ⊢;rcases hx with rfl|rfl|rfl|rfl<;>simp),h.ar,fun x hx=>by
  simp only[mem_cons,not_mem_nil,or_false]at hx;rcases hx with rfl|rfl;exact h.sr;exact h.pr,fun W' hW=>⟨a3Y (sb:=sb) (b:=pb) (cap:=cap) (cur:=cur) hW (by simp) (by simp) h.row h0,.nils⟩,h1,h2⟩
theorem sw_nil{P:Bool×Int×Int}(h:mG G w dk V0 l ab sb pb cap cur p (a0i o a0u P.1 P.2.1 P.2.2 m r c cm lg a0u) wr a H)(h1:Rel wr (A0 H wr) [] cw cm)(h2:Rel wr (A0 H wr) [] lw lg) :
  SwInv G w dk V0 ab o m r cm lg cw lw wr a [] P c [] a0u a0u H []:=
 ⟨h.st.sub (fun x hx=>by simp only[mem_cons,not_mem_nil,or_false]at hx ⊢;rcases hx with rfl|rfl<;>simp),h.ar,fun x hx=>(by cases hx),fun W' hW=>⟨.nils,.nils⟩,h1,h2⟩
theorem a0J(h:mG G w dk V0 l ab sb pb cap cur p A wr a H){j:Nat}{u:Value}{v:V}{q:Value}(hr:Rel wr (A0 H wr) [] v q)(hn:v.names=[]):Rel (wr.setCell ⟨ab,j,none⟩ u) (A0 H (wr.setCell ⟨ab,j,none⟩ u)) [] v q:=
 h.st.keep hr hn fun k n hk hz=>⟨hz,Below.heap_setCell _ _ _ _ fun e=>by have:=(h.st.own ab A 35 mem_cons_self).2.1;have e:k=ab:=e;rw[<-e,hz]at this;cases this⟩
theorem a3H(h:mG G w dk V0 l ab sb pb cap cur p A wr a H){W:World}(hb:Below wr.heap.size wr W){v:V}{q:Value}(hr:Rel wr (A0 H wr) [] v q)(hn:v.names=[]):Rel W (A0 H W) [] v q:=
 h.st.keep hr hn fun k n hk hz=>⟨hz,hb.block k (h.st.deck.lt k (by rw[hz];simp))⟩
theorem m_set0(h:mG G w dk V0 l ab sb pb cap cur p A wr a H)(h0:0<p.length)(x:Int) :
  (∃q,wr.cell? ⟨pb,0,none⟩=some (.int .i64 q))/\wr.frozen? ⟨pb,0,none⟩=false/\mG G w dk V0 l ab sb pb cap (cur.setIfInBounds 0 (.int .i64 x)) (p.set 0 x) A (wr.setCell ⟨pb,0,none⟩ (.int .i64 x)) a H:=by
 have hm:(pb,cur,(3:TypeId))∈[(ab,A,(35:TypeId)),(sb,#[.bool false,.slice (some ⟨pb,0,none⟩) p.length cap],80),(pb,cur,3),(w.heap.size,a0z,35)]:=by simp
 obtain⟨q,ps,rfl⟩:∃q ps,p=q::ps:=by
  cases p with|nil=>simp at h0|cons q ps=>exact⟨q,ps,rfl⟩
 have hc:cur[0]?=some (.int .i64 q):=by
  have:=h.row.row;have h1:(cur.toList.take (q::ps).length)[0]?=some (.int .i64 q):=by rw[this];rfl
  rw[List.getElem?_take,if_pos (by simp)]at h1;simpa using h1
 refine⟨⟨q,h.st.cell hm hc⟩,h.st.frozen hm,⟨?_,h.dk,⟨by rw[length_set];exact h.row.le,h.row.max,by rw[Array.size_setIfInBounds];exact h.row.size,?_⟩,by rw[length_set];exact h.len,h.sp,h.sa,h.sr,h.pa,h.pr,h.ar⟩⟩;rw[length_set];exact h.st.set hm rfl fun y hy=>by simp only[mem_cons,not_mem_nil,or_false]at hy;rcases hy with rfl|rfl|rfl|rfl;exact .inr ⟨by simp,fun e=>h.pa e.symm⟩;exact .inr ⟨by simp,h.sp⟩;exact .inl rfl;exact .inr ⟨by simp,fun e=>h.pr e.symm⟩
 rw[length_set,Array.toList_setIfInBounds,List.take_set,h.row.row];rfl
theorem a4z{b' j:Nat}{A':Array Value}{t':TypeId}(h:mG G w dk V0 l ab sb pb cap cur p A wr a H)(hm:(b',A',t')∈[(ab,A,(35:TypeId)),(sb,#[.bool false,.slice (some ⟨pb,0,none⟩) p.length cap],80),(pb,cur,3),(w.heap.size,a0z,35)]){u:Value}{v:V}{q:Value}(hr:Rel wr (A0 H wr) [] v q)(hn:v.names=[]):Rel (wr.setCell ⟨b',j,none⟩ u) (A0 H (wr.setCell ⟨b',j,none⟩ u)) [] v q:=
 h.st.keep hr hn fun k n hk hz=>⟨hz,Below.heap_setCell _ _ _ _ fun e=>by have:=(h.st.own b' A' t' hm).2.1;have e:k=b':=e;rw[<-e,hz]at this;cases this⟩
theorem a4A(h:mG G w dk V0 l ab sb pb cap cur p (a0i o pv b hi lo m r c cm lg ot) wr a H)(b':Bool)(hi' lo':Int){v:V}{q:Value}(hr:Rel wr (A0 H wr) [] v q)(hn:v.names=[]) :
  Rel (((wr.setCell ⟨ab,2,none⟩ (.bool b')).setCell ⟨ab,3,none⟩ (.int .u64 hi')).setCell ⟨ab,4,none⟩ (.int .u64 lo')) (A0 H (((wr.setCell ⟨ab,2,none⟩ (.bool b')).setCell ⟨ab,3,none⟩ (.int .u64 hi')).setCell ⟨ab,4,none⟩ (.int .u64 lo'))) [] v q:=
 a0J ((h.set (A':=a0i o pv b' hi lo m r c cm lg ot) rfl).set (A':=a0i o pv b' hi' lo m r c cm lg ot) rfl) (a0J (h.set (A':=a0i o pv b' hi lo m r c cm lg ot) rfl) (a0J h hr hn) hn) hn
end
section
variable{o m r asn a a' v:Int}{p:List Int}{c:List (Int×Int)}{g:List (Int×Int×Int)}{v6:Bool}{l:List Int}
theorem sw0(h:nx (l,a) 300=(v,l,a')):swD o p m r c g asn v6 (0,l,a)=((o,[(false,p)],a0p asn v6,m,r,1+v,c,g,[]),l,a'):=by simp[swD,h]
theorem sw1:swD o p m r c g asn v6 (1,l,a)=((o,[(false,p.set 0 103)],a0p asn v6,m,r,-1,c,g,[]),l,a):=by simp[swD]
theorem sw2:swD o p m r c g asn v6 (2,l,a)=((o,[(false,p),(true,[7,9])],a0p asn v6,m,r,-1,c,g,[]),l,a):=by simp[swD]
theorem sw3:swD o p m r c g asn v6 (3,l,a)=((o,[(false,p++[99])],a0p asn v6,m,r,-1,c,g,[]),l,a):=by simp[swD]
theorem sw4:swD o p m r c g asn v6 (4,l,a)=((o,[(false,p)],a0p 104 v6,m,r,-1,c,g,[]),l,a):=by simp[swD]
theorem sw5:swD o p m r c g asn v6 (5,l,a)=((o,[(false,p++[64512,701])],a0p asn v6,m,r,-1,c,g,[]),l,a):=by simp[swD]
theorem sw6:swD o p m r c g asn v6 (6,l,a)=((o,[],a0p asn v6,m,r,-1,c,g,[]),l,a):=by simp[swD]
theorem sw7(h:nx (l,a) 256=(v,l,a')):swD o p m r c g asn v6 (7,l,a)=((o,[(false,p)],a0p asn v6,m,r,-1,c,g,[(224,99,[1,v])]),l,a'):=by simp[swD,h]
theorem swE{s:Int}(h0:s≠0)(h1:s≠1)(h2:s≠2)(h3:s≠3)(h4:s≠4)(h5:s≠5)(h6:s≠6)(h7:s≠7):swD o p m r c g asn v6 (s,l,a)=((o,[(false,p)],a0p asn v6,m,r,-1,c,g,[]),l,a):=by simp[swD,h0,h1,h2,h3,h4,h5,h6,h7]
end
section
variable{G H:Gh}{w wr:World}{dk ab sb pb cap:Nat}{V0 cw lw:V}{l p:List Int}{cur A:Array Value}{a o m r c hi lo:Int}{b:Bool}{cm lg ot pv:Value}
theorem sw_oth{P:Bool×Int×Int}(h:mG G w dk V0 l ab sb pb cap cur p (a0i o (.slice (some ⟨sb,0,none⟩) 1 1) P.1 P.2.1 P.2.2 m r c cm lg a0u) wr a H)(h0:0<p.length)(h1:Rel wr (A0 H wr) [] cw cm)(h2:Rel wr (A0 H wr) [] lw lg)(n1:cw.names=[])(n2:lw.names=[])(v:Int) :
  SwInv G w dk V0 ab o m r cm lg cw lw (((wr.alloc (.cells #[.int .u8 1,.int .u8 v] 5)).alloc (.cells #[.int .i64 224,.int .i64 99,.slice (some ⟨wr.heap.size,0,none⟩) 2 2] 84)).setCell ⟨ab,10,none⟩ (.slice (some ⟨wr.heap.size+1,0,none⟩) 1 1)) a [(false,p)] P c [(224,99,[1,v])] (.slice (some ⟨sb,0,none⟩) 1 1) (.slice (some ⟨wr.heap.size+1,0,none⟩) 1 1) H
   [(sb,#[.bool false,.slice (some ⟨pb,0,none⟩) p.length cap],80),(pb,cur,3),(wr.heap.size+1,#[.int .i64 224,.int .i64 99,.slice (some ⟨wr.heap.size,0,none⟩) 2 2],84),(wr.heap.size,#[.int .u8 1,.int .u8 v],5)]:=by
 have l1:=h.st.lt (b:=ab) (cs:=a0i o (.slice (some ⟨sb,0,none⟩) 1 1) P.1 P.2.1 P.2.2 m r c cm lg a0u) (t:=35) (by simp);have l2:=h.st.lt (b:=w.heap.size) (cs:=a0z) (t:=35) (by simp);have q1:=(h.st.alloc #[.int .u8 1,.int .u8 v] 5).alloc #[.int .i64 224,.int .i64 99,.slice (some ⟨wr.heap.size,0,none⟩) 2 2] 84;rw[a2h]at q1;have hz:=(h.st.own ab _ 35 mem_cons_self).2.1;have hk:∀k n,k≠dk->H.Z k=.st n->H.Z k=.st n/\(((wr.alloc (.cells #[.int .u8 1,.int .u8 v] 5)).alloc (.cells #[.int .i64 224,.int .i64 99,.slice (some ⟨wr.heap.size,0,none⟩) 2 2] 84)).setCell ⟨ab,10,none⟩ (.slice (some ⟨wr.heap.size+1,0,none⟩) 1 1)).heap[k]?=wr.heap[k]?:=fun k n _ q=>by have hlt:=h.st.deck.lt k (by rw[q];simp);refine⟨q,?_⟩;rw[Below.heap_setCell _ _ _ _ (fun e=>by have e:k=ab:=e;rw[e,hz]at q;cases q),Go.heap_alloc_old _ _ (by rw[a2h];omega),Go.heap_alloc_old _ _ hlt]
 refine⟨q1.set (b:=ab) (j:=10) (t:=35) (cs:=a0i o (.slice (some ⟨sb,0,none⟩) 1 1) P.1 P.2.1 P.2.2 m r c cm lg a0u) (ds:=a0i o (.slice (some ⟨sb,0,none⟩) 1 1) P.1 P.2.1 P.2.2 m r c cm lg (.slice (some ⟨wr.heap.size+1,0,none⟩) 1 1)) (by simp) rfl fun x hx=>?_,h.ar,fun x hx=>?_,fun W' hW=>⟨a3Y (sb:=sb) (b:=pb) (cap:=cap) (cur:=cur) hW (by simp) (by simp) h.row h0,?_⟩,h.st.keep h1 n1 hk,h.st.keep h2 n2 hk⟩;simp only[mem_cons,not_mem_nil,or_false]at hx;rcases hx with rfl|rfl|rfl|rfl|rfl|rfl;exact .inl rfl;exact .inr ⟨by simp,fun e=>h.ar e.symm⟩;exact .inr ⟨by simp,h.sa⟩;exact .inr ⟨by simp,h.pa⟩;exact .inr ⟨by simp,by show wr.heap.size+1≠ab;omega⟩;exact .inr ⟨by simp,by show wr.heap.size≠ab;omega⟩;simp only[mem_cons,not_mem_nil,or_false]at hx;rcases hx with rfl|rfl|rfl|rfl;exact h.sr;exact h.pr;show wr.heap.size+1≠_;omega;show wr.heap.size≠_;omega
 have hd:=a2z hW (b:=wr.heap.size) (cs:=#[.int .u8 1,.int .u8 v]) (t:=5) (n:=2) (cap:=2) (z:=1) (by simp) (xs:=[.int .u8 1,.int .u8 v]) (ws:=[.int .u8 1,.int .u8 v]) (by decide) rfl (Nat.le_refl _) (by decide) (by simp) rfl (.cons _ _ _ _ (.int _ _) (.cons _ _ _ _ (.int _ _) .nil)) rfl;exact a2z hW (b:=wr.heap.size+1) (cs:=#[.int .i64 224,.int .i64 99,.slice (some ⟨wr.heap.size,0,none⟩) 2 2]) (t:=84) (n:=1) (cap:=1) (z:=3) (by simp) (xs:=[.int .i64 224,.int .i64 99,.slice (some ⟨wr.heap.size,0,none⟩) 2 2]) (ws:=[.int .i64 224,.int .i64 99,.sl .none 1 2 [.int .u8 1,.int .u8 v]]) (by decide) rfl (Nat.le_refl _) (by decide) (by simp) rfl (.cons _ _ _ _ (.int _ _) (.cons _ _ _ _ (.int _ _) (.cons _ _ _ _ hd .nil))) rfl
end
section
variable{G H:Gh}{w wr:World}{dk ab sb pb cap:Nat}{V0 cw lw:V}{l p:List Int}{cur A:Array Value}{a o m r c hi lo:Int}{b:Bool}{cm lg ot pv:Value}
structure TwoSeg(G:Gh)(w:World)(dk:Nat)(V0:V)(ab pb nb cap:Nat)(cur:Array Value)(p:List Int)(A:Array Value)(wr W:World)(a:Int)(H:Gh)(s2 cap2:Nat)(cs:Array Value):Prop where
 st:AS G w dk V0 W a [(ab,A,35),(s2,cs,80),(pb,cur,3),(nb,#[.int .i64 7,.int .i64 9],3),(w.heap.size,a0z,35)] H
 le:2<=cap2
 max:cap2<=maxLen
 size:cs.size=cap2*2
 row:cs.toList.take 4=[.bool false,.slice (some ⟨pb,0,none⟩) p.length cap,.bool true,.slice (some ⟨nb,0,none⟩) 2 2]
 sa:s2≠ab
 sr:s2≠w.heap.size
 na:nb≠ab
 nr:nb≠w.heap.size
 same:∀k n,k≠dk->H.Z k=.st n->W.heap[k]?=wr.heap[k]?
theorem a7v(h:mG G w dk V0 l ab sb pb cap cur p A wr a H)(ty:TypeId):∃v' W',(Builtin.append_ #[30,30] ty #[.slice (some ⟨sb,0,none⟩) 1 1,.slice (some ⟨wr.heap.size+1,0,none⟩) 1 1]).run Tryz.prog ((wr.alloc (.cells #[.int .i64 7,.int .i64 9] 3)).alloc (.cells #[.bool true,.slice (some ⟨wr.heap.size,0,none⟩) 2 2] 80))=.ok v' W'/\
  ∃s2 cap2 cs,v'=.slice (some ⟨s2,0,none⟩) 2 cap2/\TwoSeg G w dk V0 ab pb wr.heap.size cap cur p A wr W' a H s2 cap2 cs:=by
 obtain⟨i0,hi0,hz0,hzs,hzb⟩:=info_parts a6q;have l1:=h.st.lt (b:=ab) (cs:=A) (t:=35) (by simp);have l2:=h.st.lt (b:=w.heap.size) (cs:=a0z) (t:=35) (by simp);have l3:=h.st.lt (b:=sb) (cs:=#[.bool false,.slice (some ⟨pb,0,none⟩) p.length cap]) (t:=80) (by simp);have l4:=h.st.lt (b:=pb) (cs:=cur) (t:=3) (by simp);have q1:=(h.st.alloc #[.int .i64 7,.int .i64 9] 3).alloc #[.bool true,.slice (some ⟨wr.heap.size,0,none⟩) 2 2] 80;have hsz:wr.heap.size+1=(wr.alloc (.cells #[.int .i64 7,.int .i64 9] 3)).heap.size:=(Array.size_push _).symm;rw[hsz];generalize hW2:(wr.alloc (.cells #[.int .i64 7,.int .i64 9] 3)).alloc (.cells #[.bool true,.slice (some ⟨wr.heap.size,0,none⟩) 2 2] 80)=W2 at q1;have hnew:W2.heap[(wr.alloc (.cells #[.int .i64 7,.int .i64 9] 3)).heap.size]?=some (.cells #[.bool true,.slice (some ⟨wr.heap.size,0,none⟩) 2 2] 80 (0,0)):=by rw[<-hW2];exact heap_alloc_new _ _
 have hs2:W2.heap.size=wr.heap.size+2:=by rw[<-hW2,a2h,a2h]
 have hold:∀k,k<wr.heap.size->W2.heap[k]?=wr.heap[k]?:=fun k hk=>by rw[<-hW2,Go.heap_alloc_old _ _ (by rw[a2h];omega),Go.heap_alloc_old _ _ hk]
 obtain⟨k1,_,k3,_⟩:=q1.own sb #[.bool false,.slice (some ⟨pb,0,none⟩) p.length cap] 80 (by simp);obtain⟨v',W',e1,e2,e3,e4,e5⟩:=run_append_own_at (P:=Tryz.prog) W2 w.heap.size 30 ty 80 i0 (.agg #[.bool false,.slice none 0 0]) 2 32 Tryz.underlying30 hi0 hz0 hzs hzb rfl (by decide) (.slice (some ⟨sb,0,none⟩) 1 1) 1 [.bool false,.slice (some ⟨pb,0,none⟩) p.length cap]
  ⟨rfl,.inr ⟨sb,1,_,rfl,k3,k1,Nat.le_refl _,by decide,rfl,rfl⟩⟩ ⟨(wr.alloc (.cells #[.int .i64 7,.int .i64 9] 3)).heap.size,0,none⟩ 1 1 [.bool true,.slice (some ⟨wr.heap.size,0,none⟩) 2 2] rfl (fun j u hj=>by
   rw[Addr.add_lit,zero_add];simp only[World.cell?,hnew];simpa using hj) (fun u hu=>by
   simp only[mem_cons,not_mem_nil,or_false]at hu;rcases hu with rfl|rfl<;>rfl) (by unfold maxLen;omega) (by omega) q1.deck.size
 rcases e2.2 with⟨q,_⟩|⟨s2,cap2,cs,rfl,g1,g2,g3,g4,g5,g6⟩;have:=(e4.1 q).1;cases this
 · have hb : s2 = sb ∨ s2 = W2.heap.size := by
     rcases e5 with e5|e5;exact .inl (Option.some.inj e5);exact .inr (Option.some.inj e5)
   have q2:=(q1.sub (L':=[(sb,#[.bool false,.slice (some ⟨pb,0,none⟩) p.length cap],80),(ab,A,35),(pb,cur,3),(wr.heap.size,#[.int .i64 7,.int .i64 9],3),(w.heap.size,a0z,35)]) (fun x hx=>by
    simp only[mem_cons,not_mem_nil,or_false]at hx ⊢;rcases hx with rfl|rfl|rfl|rfl|rfl<;>simp)).app e3 g2 hb (fun x hx=>by
    simp only[mem_cons,not_mem_nil,or_false]at hx;rcases hx with rfl|rfl|rfl|rfl;exact fun e=>h.sa e.symm
    exact fun e=>h.sp e.symm
    show wr.heap.size≠sb;omega;exact fun e=>h.sr e.symm)
   refine⟨_,W',e1,s2,cap2,cs,rfl,⟨q2.sub (fun x hx=>by simp only[mem_cons,not_mem_nil,or_false]at hx ⊢;rcases hx with rfl|rfl|rfl|rfl|rfl<;>simp),g3,g4,g5,g6,?_,?_,by omega,by omega,fun k n hk hz=>?_⟩⟩
   rcases hb with rfl|rfl;exact h.sa;omega;rcases hb with rfl|rfl;exact h.sr;omega;have hlt:=h.st.deck.lt k (by rw[hz];simp);rw[e3.block k (by omega) (fun e=>by have e:k=sb:=Option.some.inj e;have:=(h.st.own sb #[.bool false,.slice (some ⟨pb,0,none⟩) p.length cap] 80 (by simp)).2.1;rw[<-e,hz]at this;cases this),hold k hlt]
theorem sw_two{P:Bool×Int×Int}(h:mG G w dk V0 l ab sb pb cap cur p (a0i o (.slice (some ⟨sb,0,none⟩) 1 1) P.1 P.2.1 P.2.2 m r c cm lg a0u) wr a H)(h0:0<p.length){W:World}{s2 cap2:Nat}{cs:Array Value}(t:TwoSeg G w dk V0 ab pb wr.heap.size cap cur p (a0i o (.slice (some ⟨sb,0,none⟩) 1 1) P.1 P.2.1 P.2.2 m r c cm lg a0u) wr W a H s2 cap2 cs)
  (h1:Rel wr (A0 H wr) [] cw cm) (h2:Rel wr (A0 H wr) [] lw lg) (n1:cw.names=[]) (n2:lw.names=[]) :
  SwInv G w dk V0 ab o m r cm lg cw lw (W.setCell ⟨ab,1,none⟩ (.slice (some ⟨s2,0,none⟩) 2 cap2)) a [(false,p),(true,[7,9])] P c [] (.slice (some ⟨s2,0,none⟩) 2 cap2) a0u H [(s2,cs,80),(pb,cur,3),(wr.heap.size,#[.int .i64 7,.int .i64 9],3)]:=by
 have hz:=(h.st.own ab _ 35 mem_cons_self).2.1;have hk:∀k n,k≠dk->H.Z k=.st n->H.Z k=.st n/\(W.setCell ⟨ab,1,none⟩ (.slice (some ⟨s2,0,none⟩) 2 cap2)).heap[k]?=wr.heap[k]?:=fun k n hk q=>by refine⟨q,?_⟩;rw[Below.heap_setCell _ _ _ _ (fun e=>by have e:k=ab:=e;rw[e,hz]at q;cases q)];exact t.same k n hk q
 refine⟨t.st.set (b:=ab) (j:=1) (t:=35) (cs:=a0i o (.slice (some ⟨sb,0,none⟩) 1 1) P.1 P.2.1 P.2.2 m r c cm lg a0u) (ds:=a0i o (.slice (some ⟨s2,0,none⟩) 2 cap2) P.1 P.2.1 P.2.2 m r c cm lg a0u) (by simp) rfl fun x hx=>?_,h.ar,fun x hx=>?_,fun W' hW=>⟨?_,.nils⟩,h.st.keep h1 n1 hk,h.st.keep h2 n2 hk⟩;simp only[mem_cons,not_mem_nil,or_false]at hx;rcases hx with rfl|rfl|rfl|rfl|rfl;exact .inl rfl;exact .inr ⟨by simp,fun e=>h.ar e.symm⟩;exact .inr ⟨by simp,t.sa⟩;exact .inr ⟨by simp,h.pa⟩;exact .inr ⟨by simp,t.na⟩;simp only[mem_cons,not_mem_nil,or_false]at hx;rcases hx with rfl|rfl|rfl;exact t.sr;exact h.pr;exact t.nr;have hd:=a2z hW (b:=wr.heap.size) (cs:=#[.int .i64 7,.int .i64 9]) (t:=3) (n:=2) (cap:=2) (z:=1) (by simp) (xs:=[.int .i64 7,.int .i64 9]) (ws:=[.int .i64 7,.int .i64 9]) (by decide) rfl (Nat.le_refl _) (by decide) (by simp) rfl (.cons _ _ _ _ (.int _ _) (.cons _ _ _ _ (.int _ _) .nil)) rfl;exact a2z hW (b:=s2) (cs:=cs) (t:=80) (n:=2) (cap:=cap2) (z:=2) (by simp) (xs:=[.bool false,.slice (some ⟨pb,0,none⟩) p.length cap,.bool true,.slice (some ⟨wr.heap.size,0,none⟩) 2 2]) (by decide) rfl t.le t.max (by have:=t.size;have:=t.le;simp;omega) t.row (.cons _ _ _ _ (.bool _) (.cons _ _ _ _ (a5s hW (by simp) h.row h0) (.cons _ _ _ _ (.bool _) (.cons _ _ _ _ hd .nil)))) (a1s [(false,p),(true,[7,9])])
end
section
variable{G H:Gh}{w wr:World}{dk ab sb pb cap:Nat}{V0 cw lw:V}{l p:List Int}{cur A:Array Value}{a o m r c hi lo:Int}{b:Bool}{cm lg ot pv:Value}
theorem _root_.Go.VM.AS.drew{W:World}{L:List (Nat×Array Value×TypeId)}(h:AS G w dk V0 W a L H):AS G w dk V0 W.drew a L H:=
 ⟨h.deck.move (fun _ _ _=>rfl) (Nat.le_refl _) rfl rfl rfl,fun b cs t hm=>h.own b cs t hm⟩
structure Pushed(G:Gh)(w:World)(dk:Nat)(V0:V)(ab sb pb cap:Nat)(p xs:List Int)(A:Array Value)(wr W:World)(a:Int)(H:Gh)(b2 cap2:Nat)(cs:Array Value):Prop where
 st:AS G w dk V0 W a [(sb,#[.bool false,.slice (some ⟨pb,0,none⟩) p.length cap],80),(b2,cs,3),(ab,A,35),(w.heap.size,a0z,35)] H
 row:PRow cs cap2 (p++xs)
 sa:sb≠ab
 sr:sb≠w.heap.size
 sp:b2≠sb
 pr:b2≠w.heap.size
 same:∀k n,k≠dk->H.Z k=.st n->W.heap[k]?=wr.heap[k]?
theorem a5t(h:mG G w dk V0 l ab sb pb cap cur p A wr a H)(xs:List Int)(hx:xs.length<=1000){n:Nat}(hn:xs.length=n){ds:Array Value}(hd:ds=(a1f xs).toArray)(ty:TypeId):∃v' W',(Builtin.append_ #[22,22] ty #[.slice (some ⟨pb,0,none⟩) p.length cap,.slice (some ⟨wr.heap.size,0,none⟩) n n]).run Tryz.prog (wr.alloc (.cells ds 3)).drew=.ok v' W'/\
  ∃b2 cap2 cs,v'=.slice (some ⟨b2,0,none⟩) (p.length+n) cap2/\Pushed G w dk V0 ab sb pb cap p xs A wr W' a H b2 cap2 cs:=by
 subst hd;have l1:=h.st.lt (b:=ab) (cs:=A) (t:=35) (by simp);have l2:=h.st.lt (b:=w.heap.size) (cs:=a0z) (t:=35) (by simp);have l3:=h.st.lt (b:=sb) (cs:=#[.bool false,.slice (some ⟨pb,0,none⟩) p.length cap]) (t:=80) (by simp);have q1:=((h.st.alloc (a1f xs).toArray 3).drew).sub (L':=[(pb,cur,3),(ab,A,35),(sb,#[.bool false,.slice (some ⟨pb,0,none⟩) p.length cap],80),(w.heap.size,a0z,35)]) (fun x hx=>by simp only[mem_cons,not_mem_nil,or_false]at hx ⊢;rcases hx with rfl|rfl|rfl|rfl<;>simp)
 obtain⟨v',W',e1,b2,cap2,cs,e2,q2,q3,q4,q5⟩:=q1.push h.row (by have:=h.len;omega) (fun x hx=>by
  simp only[mem_cons,not_mem_nil,or_false]at hx;rcases hx with rfl|rfl|rfl;exact fun e=>h.pa e.symm
  exact h.sp;exact fun e=>h.pr e.symm) xs hx ⟨wr.heap.size,0,none⟩ n n hn (fun j u hj=>by
  rw[Addr.add_lit,zero_add];show(wr.alloc (.cells (a1f xs).toArray 3)).cell? ⟨wr.heap.size,j,none⟩=_;simp only[World.cell?,heap_alloc_new];simpa using hj) ty
 have hsz:(wr.alloc (.cells (a1f xs).toArray 3)).drew.heap.size=wr.heap.size+1:=a2h _ _;refine⟨v',W',e1,b2,cap2,cs,e2,⟨q2.sub (fun x hx=>by simp only[mem_cons,not_mem_nil,or_false]at hx ⊢;rcases hx with rfl|rfl|rfl|rfl<;>simp),q3,h.sa,h.sr,?_,?_,fun k n hk hz=>?_⟩⟩
 rcases q4 with rfl|rfl;exact fun e=>h.sp e.symm
 rw[hsz];omega;rcases q4 with rfl|rfl;exact h.pr;rw[hsz];omega;have hlt:=h.st.deck.lt k (by rw[hz];simp);rw[q5.block k (by rw[hsz];omega) (fun e=>by have e:k=pb:=Option.some.inj e;have:=(h.st.own pb cur 3 (by simp)).2.1;rw[<-e,hz]at this;cases this)]
 exact Go.heap_alloc_old _ _ hlt
theorem a6M{P:Bool×Int×Int}{xs:List Int}(h:mG G w dk V0 l ab sb pb cap cur p (a0i o (.slice (some ⟨sb,0,none⟩) 1 1) P.1 P.2.1 P.2.2 m r c cm lg a0u) wr a H)(h0:0<p.length){W:World}{b2 cap2 n:Nat}{cs:Array Value}(hn:xs.length=n)
  (t:Pushed G w dk V0 ab sb pb cap p xs (a0i o (.slice (some ⟨sb,0,none⟩) 1 1) P.1 P.2.1 P.2.2 m r c cm lg a0u) wr W a H b2 cap2 cs)
  (h1:Rel wr (A0 H wr) [] cw cm) (h2:Rel wr (A0 H wr) [] lw lg) (n1:cw.names=[]) (n2:lw.names=[]) :
  SwInv G w dk V0 ab o m r cm lg cw lw (W.setCell ⟨sb,1,none⟩ (.slice (some ⟨b2,0,none⟩) (p.length+n) cap2)) a [(false,p++xs)] P c [] (.slice (some ⟨sb,0,none⟩) 1 1) a0u H [(sb,#[.bool false,.slice (some ⟨b2,0,none⟩) (p++xs).length cap2],80),(b2,cs,3)]:=by
 have e:(p++xs).length=p.length+n:=by rw[length_append,hn]
 rw[e];have hz:=(t.st.own sb _ 80 mem_cons_self).2.1;have hk:∀k n',k≠dk->H.Z k=.st n'->H.Z k=.st n'/\(W.setCell ⟨sb,1,none⟩ (.slice (some ⟨b2,0,none⟩) (p.length+n) cap2)).heap[k]?=wr.heap[k]?:=fun k n' hk q=>by refine⟨q,?_⟩;rw[Below.heap_setCell _ _ _ _ (fun e=>by have e:k=sb:=e;rw[e,hz]at q;cases q)];exact t.same k n' hk q
 refine⟨t.st.set (b:=sb) (j:=1) (t:=80) (cs:=#[.bool false,.slice (some ⟨pb,0,none⟩) p.length cap]) (ds:=#[.bool false,.slice (some ⟨b2,0,none⟩) (p.length+n) cap2]) (by simp) rfl fun x hx=>?_,h.ar,fun x hx=>?_,fun W' hW=>⟨?_,.nils⟩,h.st.keep h1 n1 hk,h.st.keep h2 n2 hk⟩;simp only[mem_cons,not_mem_nil,or_false]at hx;rcases hx with rfl|rfl|rfl|rfl;exact .inr ⟨by simp,fun e=>t.sa e.symm⟩;exact .inr ⟨by simp,fun e=>t.sr e.symm⟩;exact .inl rfl;exact .inr ⟨by simp,t.sp⟩;simp only[mem_cons,not_mem_nil,or_false]at hx;rcases hx with rfl|rfl;exact t.sr;exact t.pr;rw[<-e]at hW;exact a3Y (sb:=sb) (b:=b2) (cap:=cap2) (cur:=cs) hW (by simp) (by simp) t.row (by rw[e];omega)
end
noncomputable def a2L(d:Dk)(asn:Int):Int:=(a1w (a1w (a2o d asn).2.2 3 3).2 6 300).2.2
noncomputable def a2M(d:Dk)(asn:Int):Int:=(a0U (a1w (a1w (a2o d asn).2.2 3 3).2 6 300).2).2.2
noncomputable def a0O(V0:V)(x:Dk×Int×Bool)(r:a0s):List V:=[.agg [.int .i64 r.1,a2K r.2.1,.bool r.2.2.1.1,.int .u64 r.2.2.1.2.1,.int .u64 r.2.2.1.2.2,.int .i64 r.2.2.2.1,.int .i64 r.2.2.2.2.1,.int .i64 r.2.2.2.2.2.1,a1j V0 (a2L x.1 x.2.1),a0E V0 (a2M x.1 x.2.1),a1x (a0r r)]]
theorem a4M{l p:List Int}{o asn a0 a1 a2 a a7 a9 a10 a11 a12 a' m rr sv:Int}{kk:Nat}{xc:List (Int×Int)}{xl:List (Int×Int×Int)}{v6:Bool}{R:a0s}(N1:nx (l,a0) 3=(o,l,a1))(N2:nx (l,a1) 4=((kk:Int),l,a2))(I5:a1G asn 0 p (l,a)=a1G asn kk [asn] (l,a2))(O7:a1w (l,a) 3 3=(m,l,a7))(O9:a1w (l,a7) 6 300=(rr,l,a9))
  (N10:a0U (l,a9)=(xc,l,a10)) (N11:a0D (l,a10)=(xl,l,a11)) (N12:nx (l,a11) 24=(sv,l,a12)) (E1:swD o p m rr xc xl asn v6 (sv,l,a12)=(R,l,a')):a0F (l,a0) asn v6=(R,l,a')/\a2L (l,a0) asn=a9/\a2M (l,a0) asn=a10:=by
 have hpre:a2o (l,a0) asn=(o,p,(l,a)):=by unfold a2o;rw[N1];simp only;rw[N2];simp only[Int.toNat_natCast];rw[<-I5];rfl
 refine⟨?_,?_,?_⟩;unfold a0F;simp only[hpre,O7,O9,N10,N11,N12,E1];unfold a2L;simp only[hpre,O7,O9];unfold a2M;simp only[hpre,O7,O9,N10]
section
variable{G H:Gh}{w W Wf:World}{dk ab:Nat}{V0 cw lw:V}{o m r a c:Int}{cm lg pv ot:Value}{path:List Seg}{P:Bool×Int×Int}{other:List Unk}{L:List (Nat×Array Value×TypeId)}
theorem SwInv.shape(h:SwInv G w dk V0 ab o m r cm lg cw lw W a path P c other pv ot H L):(∃x n k,pv=.slice x n k)/\∃x n k,ot=.slice x n k:=by obtain⟨h1,h2⟩:=h.rel W (h.st.sub fun x hx=>mem_cons_of_mem _ (mem_cons_of_mem _ hx));constructor;unfold a2K at h1;split at h1;exact⟨_,_,_,h1.nils_inv⟩;obtain⟨_,_,_,e,_⟩:=h1.sl_inv;exact⟨_,_,_,e⟩;unfold a1x at h2;split at h2;exact⟨_,_,_,h2.nils_inv⟩;obtain⟨_,_,_,e,_⟩:=h2.sl_inv;exact⟨_,_,_,e⟩
theorem SwInv.fin(h:SwInv G w dk V0 ab o m r cm lg cw lw W a path P c other pv ot H L)(hf:∃ds,Wf.heap[w.heap.size]?=some (.cells ds 35 (0,0)))(hb:But w.heap.size W Wf)(n1:cw.names=[])(n2:lw.names=[]) :
  DkIn G w dk V0 H Wf a/\RelL Wf (Adk H w Wf) [] [.agg [.int .i64 o,a2K path,.bool P.1,.int .u64 P.2.1,.int .u64 P.2.2,.int .i64 m,.int .i64 r,.int .i64 c,cw,lw,a1x other]] [.agg (a0i o pv P.1 P.2.1 P.2.2 m r c cm lg ot)]:=by
 obtain⟨ds,hf⟩:=hf;have hA:AS G w dk V0 Wf a L H:=h.st.wr (b:=w.heap.size) (cs:=a0z) (ds:=ds) (t:=35) (by simp) hf hb.rest hb.size hb.os hb.tape hb.output fun x hx=>.inr ⟨mem_cons_of_mem _ (mem_cons_of_mem _ hx),h.ne x hx⟩
 obtain⟨k1,k2⟩:=h.rel Wf hA;have hz:=(h.st.own w.heap.size a0z 35 (by simp)).2.1;have hk:∀k n,k≠dk->H.Z k=.st n->H.Z k=.st n/\Wf.heap[k]?=W.heap[k]?:=fun k n _ q=>⟨q,hb.rest k fun e=>by rw[e,hz]at q;cases q⟩
 have r1:=a7S hA (h.st.keep h.cmR n1 hk) n1;have r2:=a7S hA (h.st.keep h.lgR n2 hk) n2;exact⟨hA.deck,.cons _ _ _ _ (.agg _ _ (.cons _ _ _ _ (.int _ _) (.cons _ _ _ _ k1 (.cons _ _ _ _ (.bool _) (.cons _ _ _ _ (.int _ _) (.cons _ _ _ _ (.int _ _) (.cons _ _ _ _ (.int _ _) (.cons _ _ _ _ (.int _ _) (.cons _ _ _ _ (.int _ _) (.cons _ _ _ _ r1 (.cons _ _ _ _ r2 (.cons _ _ _ _ k2 .nil)))))))))))) .nil⟩
end
end Go.Proofs.YtgfmodmeimhhpaaGreatDoor
open List(mem_cons_self mem_cons_of_mem)
namespace Go.Proofs.YtgfmodmeimhhpaaGreatDoor
open Go.RowKit Go.Lib Go.VM
def a7T(G:Gh)(w:World)(dk:Nat)(V0:V)(l:List Int)(a0 asn:Int)(v6:Bool)(e:Ending)(W:World):Prop:=∃v H,e=.returned v/\DkIn G w dk V0 H W (a0F (l,a0) asn v6).2.2/\RelL W (Adk H w W) [] (a0O V0 ((l,a0),asn,v6) (a0F (l,a0) asn v6).1) [v]
set_option maxHeartbeats 8000000 in
set_option maxRecDepth 100000 in
theorem a5T{G:Gh}{w:World}{dk:Nat}{V0:V}{l:List Int}{a0 asn:Int}{v6:Bool}{H0:Gh}(hC:DkC G w dk V0 l)(hA:AS G w dk V0 w a0 [] H0)(hd:DK (l,a0))(hv:DkV l V0) :
  Calls Tryz.prog 28 #[.pointer (some ⟨dk,0,none⟩),.int .i64 asn,.bool v6] w (a7T G w dk V0 l a0 asn v6):=by
 have e8:∀args w,(callFunc 8 args).run Tryz.prog w=.ok (.enter 8 args) w:=fun args w=>by kernel_rfl
 have e63:∀args w,(callFunc 63 args).run Tryz.prog w=.ok (.enter 63 args) w:=fun args w=>by kernel_rfl
 have e64:∀args w,(callFunc 64 args).run Tryz.prog w=.ok (.enter 64 args) w:=fun args w=>by kernel_rfl
 have e65:∀args w,(callFunc 65 args).run Tryz.prog w=.ok (.enter 65 args) w:=fun args w=>by kernel_rfl
 have e66:∀args w,(callFunc 66 args).run Tryz.prog w=.ok (.enter 66 args) w:=fun args w=>by kernel_rfl
 have HC:Aside _:=hC;have HA:Aside _:=hA;have HD:Aside _:=hd;have HV:Aside _:=hv;clear hC hA hd hv
 go_enter Tryz.func28,Tryz.ntmps28
 have T1:=Lib.hid (trivial:True);have T2:=Lib.hid (trivial:True)
 go_wp2_with (first
  |(go_at_fn 63;refine(a5Q _).mono ?_;rintro r w1 ⟨rfl,hb⟩;have K1:=Lib.hid hb;clear hb)
  |(go_at_fn 8;clear T1;refine(HC.out.next _ _ _ 3 _ (as_one HA.out w1 K1.out) HD.out (by decide) (by decide)).mono ?_;rintro r w2 ⟨H2,o,a1,rfl,N1,hq,_⟩;obtain⟨q0,q1,q2,q3,q4,q5,q6,q7,q8,q9,q10⟩:=(a0j (hq.own _ _ _ (mem_cons_self)).1).1;have qf:=(a0j (hq.own _ _ _ (mem_cons_self)).1).2 0;have K2:=Lib.hid hq;clear hq)
  |(go_at_fn 8;clear T2;refine(HC.out.next _ _ _ 4 _ (as_two K2.out (a7P K1.out) o asn) (a0N HD.out N1.out) (by decide) (by decide)).mono ?_;rintro r w3 ⟨H3,k,a2,rfl,N2,hq,_⟩;obtain⟨kk,rfl,hk4⟩:=a5r N2.out (by decide);have K3:=Lib.hid hq;clear hq))
 have HL0:Aside (LInv G w dk V0 l w1.heap.size o asn (a1G asn kk [asn] (l,a2)) w3 w2.heap.size 1 [asn] kk):=a5R K3.out K1.out K2.out (a0N (a0N HD.out N1.out) N2.out) hk4
 go_loopg [8,9] kk (fun gg s8 s9 wr=>∃(j pb cap:Nat) (p:List Int),s9=.int .i64 j/\s8=.slice (some ⟨pb,0,none⟩) p.length cap/\j<=gg/\Aside (LInv G w dk V0 l w1.heap.size o asn (a1G asn kk [asn] (l,a2)) wr pb cap p j))
 case atStart=>exact⟨kk,_,1,[asn],rfl,rfl,Nat.le_refl _,HL0⟩
 case round=>
  obtain⟨j,pb,cap,p,rfl,rfl,hgg,I⟩:=hrel;obtain⟨cur,a,H,hS,hdk,hrow,hlen,hpath,n1,n2,n3⟩:=I.out;clear I;have I1:=Lib.hid hS;have I2:Aside _:=hdk;have I3:=Lib.hid hrow;have I4:Aside _:=hlen;have I5:Aside _:=hpath;have I6:Aside _:=n1;have I7:Aside _:=n2;have I8:Aside _:=n3;clear hS hdk hrow hlen hpath n1 n2 n3;cases j with
  |succ j=>
   have hgt:(0:Int)<(j:Int)+1:=by omega
   have hw9:IntKind.i64.wrap (j:Int)=(j:Int):=by rw[IntKind.wrap_i64];have:=I4.out;omega
   go_wp2_with (first
    |(go_at_fn 8;refine(HC.out.next _ _ _ 7 _ (I1.out.alloc (arr7 asn) 3) I2.out (by decide) (by decide)).mono ?_;rintro r w4 ⟨H4,v,a4,rfl,N4,hq,_⟩;obtain⟨vn,rfl,hv7⟩:=a5r N4.out (by decide);have hv0:(0:Int)<=(vn:Int):=Int.natCast_nonneg _;have l4:=a6K hq hv7;have K4:=Lib.hid hq;clear hq)
    |(at_builtin;refine a1v (by rfl) _ _ 22 22 (by rfl) _ _ (by rfl) (by rfl) (a5S I1.out K4.out I2.out N4.out I3.out I4.out I5.out I6.out I7.out I8.out _) ?_;rintro v7 w7 ⟨pb',cap',rfl,hp7⟩;have K7:Aside _:=hp7;clear hp7))
   go_roundg j
   case measure=>omega
   case rel=>exact⟨j,pb',cap',p++[a2J asn vn],rfl,by rw[List.length_append];rfl,Nat.le_refl _,(show Aside _ from K7)⟩
  |zero=>
   obtain⟨q0,q1,q2,q3,q4,q5,q6,q7,q8,q9,q10⟩:=(a0j ((I1.out.alloc #[.bool false,.slice (some ⟨pb,0,none⟩) p.length cap] 80).own w1.heap.size (a0i o a0u false 0 0 (-1) (-1) (-1) a0u a0u a0u) 35 (by simp)).1).1;have qf:=(a0j ((I1.out.alloc #[.bool false,.slice (some ⟨pb,0,none⟩) p.length cap] 80).own w1.heap.size (a0i o a0u false 0 0 (-1) (-1) (-1) a0u a0u a0u) 35 (by simp)).1).2 1;have T3:=Lib.hid (trivial:True);have M0:Aside _:=m_start I1.out I2.out I3.out I4.out I6.out I7.out I8.out
   go_upto_if 41 with(first
    |(go_at_fn 64;refine(a4y asn v6 _).mono ?_;rintro r w5 ⟨rfl,hb⟩;have M1:=M0.out.quiet hb;obtain⟨t0,t1,t2,t3,t4,t5,t6,t7,t8,t9,t10⟩:=(a0j (M1.st.own _ _ _ mem_cons_self).1).1;have tf2:=(a0j (M1.st.own _ _ _ mem_cons_self).1).2 2;have tf3:=(a0j (M1.st.own _ _ _ mem_cons_self).1).2 3;have tf4:=(a0j (M1.st.own _ _ _ mem_cons_self).1).2 4;have M2:=Lib.hid M1;clear M1 hb)
    |(go_at_fn 8;clear T3;refine(HC.out.next _ _ _ 3 _ (a7R M2.out _ _ _).st M2.out.dk (by decide) (by decide)).mono ?_;rintro r w6 ⟨H6,vm,a6,rfl,N6,hq,_⟩;have M6:=Lib.hid ((a7R M2.out _ _ _).step hq (a0N M2.out.dk N6.out));clear hq))
   go_cut []from 41 (fun wx=>∃m a7 H7,Aside (a1w (l,a) 3 3=(m,l,a7))/\Aside (mG G w dk V0 l w1.heap.size wr.heap.size pb cap cur p (a0i o (.slice (some ⟨wr.heap.size,0,none⟩) 1 1) (a0p asn v6).1 (a0p asn v6).2.1 (a0p asn v6).2.2 m (-1) (-1) a0u a0u a0u) wx a7 H7))
   case first=>
    by_cases hv:vm=0
    .subst hv
     go_wp2_with (go_at_fn 8;refine(HC.out.next _ _ _ 3 _ M6.out.st M6.out.dk (by decide) (by decide)).mono ?_;rintro r w7 ⟨H7,vx,a7,rfl,N7,hq,_⟩;have M7:=M6.out.step hq (a0N M6.out.dk N7.out);obtain⟨y0,y1,y2,y3,y4,y5,y6,y7,y8,y9,y10⟩:=(a0j (M7.st.own _ _ _ mem_cons_self).1).1;have yf:=(a0j (M7.st.own _ _ _ mem_cons_self).1).2 5;have M8:=Lib.hid M7;clear M7 hq)
     go_meet
     exact⟨vx,a7,H7,a6L N6.out N7.out,M8.out.set rfl⟩
    .go_wp2_with fail
     go_meet
     exact⟨-1,a6,H6,a7Q N6.out hv,M6.out⟩
   case rest=>
    obtain⟨m,a7,H7,O7,M7⟩:=hcut;have M8:=Lib.hid M7.out;clear M7;have T4:=Lib.hid (trivial:True)
    go_upto_if 47 with(go_at_fn 8;clear T4;refine(HC.out.next _ _ _ 6 _ M8.out.st M8.out.dk (by decide) (by decide)).mono ?_;rintro r w8 ⟨H8,vm8,a8,rfl,N8,hq,_⟩;have M9:=Lib.hid (M8.out.step hq (a0N M8.out.dk N8.out));clear hq)
    go_cut []from 47 (fun wx=>∃rr a9 H9,Aside (a1w (l,a7) 6 300=(rr,l,a9))/\Aside (mG G w dk V0 l w1.heap.size wr.heap.size pb cap cur p (a0i o (.slice (some ⟨wr.heap.size,0,none⟩) 1 1) (a0p asn v6).1 (a0p asn v6).2.1 (a0p asn v6).2.2 m rr (-1) a0u a0u a0u) wx a9 H9))
    case first=>
     by_cases hv:vm8=0
     .subst hv
      go_wp2_with (go_at_fn 8;refine(HC.out.next _ _ _ 300 _ M9.out.st M9.out.dk (by decide) (by decide)).mono ?_;rintro r w9 ⟨H9,vx,a9,rfl,N9,hq,_⟩;have M10:=M9.out.step hq (a0N M9.out.dk N9.out);obtain⟨y0,y1,y2,y3,y4,y5,y6,y7,y8,y9,y10⟩:=(a0j (M10.st.own _ _ _ mem_cons_self).1).1;have yf:=(a0j (M10.st.own _ _ _ mem_cons_self).1).2 6;have M11:=Lib.hid M10;clear M10 hq)
      go_meet
      exact⟨vx,a9,H9,a6L N8.out N9.out,M11.out.set rfl⟩
     .go_wp2_with fail
      go_meet
      exact⟨-1,a8,H8,a7Q N8.out hv,M9.out⟩
    case rest=>
     obtain⟨rr,a9,H9,O9,M9'⟩:=hcut;have M10:=Lib.hid M9'.out;clear M9';have T5:=Lib.hid (trivial:True)
     go_upto_block 2 with(first
      |(go_at_fn 65;refine(HC.out.comm _ _ _ _ M10.out.st M10.out.dk).mono ?_;rintro r w10 ⟨H10,oc,nc,cc,xc,a10,rfl,N10,hq,R10⟩;have M11:=Lib.hid (M10.out.step hq (dk_comm M10.out.dk N10));clear hq)
      |(go_at_fn 66;refine(HC.out.large _ _ _ _ M11.out.st M11.out.dk).mono ?_;rintro r w11 ⟨H11,ol,nl,cl,xl,a11,rfl,N11,hq,R11,S11⟩;have M12:=M11.out.step hq (a7u M11.out.dk N11);obtain⟨y0,y1,y2,y3,y4,y5,y6,y7,y8,y9,y10⟩:=(a0j (M12.st.own _ _ _ mem_cons_self).1).1;have yf8:=(a0j (M12.st.own _ _ _ mem_cons_self).1).2 8;have yf9:=(a0j (M12.st.own _ _ _ mem_cons_self).1).2 9;have M13:=Lib.hid M12;clear M12 hq)
      |(go_at_fn 8;clear T5;refine(HC.out.next _ _ _ 24 _ (m_cl M13.out _ _).st M13.out.dk (by decide) (by decide)).mono ?_;rintro r w12 ⟨H12,sv,a12,rfl,N12,hq,S12⟩;have M14:=Lib.hid ((m_cl M13.out _ _).step hq (a0N M13.out.dk N12.out));clear hq))
     have hp0:0<p.length:=by have e:=(a1c asn kk [asn] (l,a2) (a0N (a0N HD.out N1.out) N2.out)).1;rw[<-I5.out]at e;have e:p.length=_:=e;rw[e];simp;omega
     have HCN:Aside ((a1j V0 a9).names=[]/\(a0E V0 a10).names=[]):=⟨a5P M10.out.dk HV.out,a4L M11.out.dk HV.out⟩;have RC:Aside (Rel w12 (A0 H12 w12) [] (a1j V0 a9) (.slice oc nc cc)):=(m_cl M13.out _ _).st.keep (a0J (M13.out.set rfl) (a0J M13.out (M11.out.st.keep R10.out HCN.out.1 S11.out) HCN.out.1) HCN.out.1) HCN.out.1 S12.out;have RL:Aside (Rel w12 (A0 H12 w12) [] (a0E V0 a10) (.slice ol nl cl)):=(m_cl M13.out _ _).st.keep (a0J (M13.out.set rfl) (a0J M13.out R11.out HCN.out.2) HCN.out.2) HCN.out.2 S12.out;clear R10 R11 S11 S12 M10 M11 M13
     go_cut []from 59 (fun wx=>∃a' path P c other pv ot H' L,Aside (swD o p m rr xc xl asn v6 (sv,l,a12)=((o,path,P,m,rr,c,xc,xl,other),l,a'))/\Aside (SwInv G w dk V0 w1.heap.size o m rr (.slice oc nc cc) (.slice ol nl cl) (a1j V0 a9) (a0E V0 a10) wx a' path P c other pv ot H' L))
     case first=>
      have hs:sv=0\/sv=1\/sv=2\/sv=3\/sv=4\/sv=5\/sv=6\/sv=7\/(sv≠0/\sv≠1/\sv≠2/\sv≠3/\sv≠4/\sv≠5/\sv≠6/\sv≠7):=by omega
      rcases hs with rfl|rfl|rfl|rfl|rfl|rfl|rfl|rfl|⟨s0,s1,s2,s3,s4,s5,s6,s7⟩
      .go_wp2_with (go_at_fn 8;refine(HC.out.next _ _ _ 300 _ M14.out.st M14.out.dk (by decide) (by decide)).mono ?_;rintro r w13 ⟨H13,vx,a13,rfl,N13,hq,S13⟩;obtain⟨vn,rfl,hv3⟩:=a5r N13.out (by decide);have hw1:IntKind.i64.wrap (1+(vn:Int))=1+(vn:Int):=(by rw[IntKind.wrap_i64];omega);have M15:=M14.out.step hq (a0N M14.out.dk N13.out);obtain⟨y0,y1,y2,y3,y4,y5,y6,y7,y8,y9,y10⟩:=(a0j (M15.st.own _ _ _ mem_cons_self).1).1;have yf:=(a0j (M15.st.own _ _ _ mem_cons_self).1).2 7;have M16:=Lib.hid M15;clear M15 hq)
       go_meet
       exact⟨a13,_,a0p asn v6,_,_,_,_,H13,_,sw0 N13.out,a3Z (M16.out.set rfl) hp0 (a0J M16.out (M14.out.st.keep RC.out HCN.out.1 S13.out) HCN.out.1) (a0J M16.out (M14.out.st.keep RL.out HCN.out.2 S13.out) HCN.out.2)⟩
      .obtain⟨z0,z1,z2,z3,z4,z5,z6,z7,z8,z9,z10⟩:=(a0j (M14.out.st.own _ _ _ mem_cons_self).1).1;have zf1:=(a0j (M14.out.st.own _ _ _ mem_cons_self).1).2 1;have hp0z:(0:Int)<(p.length:Int):=by omega
       have c1:=M14.out.st.cell (b:=wr.heap.size) (j:=1) (v:=.slice (some ⟨pb,0,none⟩) p.length cap) (cs:=#[.bool false,.slice (some ⟨pb,0,none⟩) p.length cap]) (t:=80) (by simp) rfl;obtain⟨⟨pq,c2⟩,c3,hm0⟩:=m_set0 M14.out hp0 103;have M15:=Lib.hid hm0;clear hm0
       go_wp2_with fail
       go_meet
       exact⟨a12,[(false,p.set 0 103)],a0p asn v6,-1,[],_,_,H12,_,sw1,a3Z M15.out (by rw[List.length_set];exact hp0) (a4z M14.out (b':=pb) (A':=cur) (t':=3) (by simp) RC.out HCN.out.1) (a4z M14.out (b':=pb) (A':=cur) (t':=3) (by simp) RL.out HCN.out.2)⟩
      .have c1:=M14.out.st.alloc #[.int .i64 7,.int .i64 9] 3;have c2:=(c1.alloc #[.bool true,.slice (some ⟨w12.heap.size,0,none⟩) 2 2] 80);have d1:w12.cell? ⟨w1.heap.size,1,none⟩=some (.slice (some ⟨wr.heap.size,0,none⟩) 1 1):=((a0j (M14.out.st.own _ _ _ mem_cons_self).1).1).2.1;clear c1 c2
       go_wp2_with (at_builtin;refine a1v (by rfl) _ _ 30 30 (by rfl) _ _ (by rfl) (by rfl) (a7v M14.out _) ?_;rintro v7 w7 ⟨sq,cap2,cs,rfl,hp7⟩;obtain⟨y0,y1,y2,y3,y4,y5,y6,y7,y8,y9,y10⟩:=(a0j (hp7.st.own _ _ _ mem_cons_self).1).1;have yf:=(a0j (hp7.st.own _ _ _ mem_cons_self).1).2 1;have K7:=Lib.hid hp7;clear hp7)
       go_meet
       exact⟨a12,_,a0p asn v6,-1,[],_,_,H12,_,sw2,sw_two M14.out hp0 K7.out RC.out RL.out HCN.out.1 HCN.out.2⟩
      .have hp0z:(0:Int)<(p.length:Int):=by omega
       have mixed:Tryz.prog.follows Departure.mixedOrders=true:=by kernel_rfl
       have hSB:(wr.heap.size,#[Value.bool false,.slice (some ⟨pb,0,none⟩) p.length cap],(80:TypeId))∈[(w1.heap.size,a0i o (.slice (some ⟨wr.heap.size,0,none⟩) 1 1) (a0p asn v6).1 (a0p asn v6).2.1 (a0p asn v6).2.2 m rr (-1) (.slice oc nc cc) (.slice ol nl cl) a0u,(35:TypeId)),(wr.heap.size,#[.bool false,.slice (some ⟨pb,0,none⟩) p.length cap],80),(pb,cur,3),(w.heap.size,a0z,35)]:=by simp
       have z1:w12.cell? ⟨w1.heap.size,1,none⟩=some (.slice (some ⟨wr.heap.size,0,none⟩) 1 1):=M14.out.st.cell mem_cons_self rfl;have c1:w12.cell? ⟨wr.heap.size,1,none⟩=some (.slice (some ⟨pb,0,none⟩) p.length cap):=M14.out.st.cell hSB rfl;have z2:(w12.alloc (.cells #[.int .i64 99] 3)).cell? ⟨w1.heap.size,1,none⟩=some (.slice (some ⟨wr.heap.size,0,none⟩) 1 1):=(M14.out.st.alloc #[.int .i64 99] 3).cell (mem_cons_of_mem _ mem_cons_self) rfl;have c2:(w12.alloc (.cells #[.int .i64 99] 3)).cell? ⟨wr.heap.size,1,none⟩=some (.slice (some ⟨pb,0,none⟩) p.length cap):=(M14.out.st.alloc #[.int .i64 99] 3).cell (mem_cons_of_mem _ hSB) rfl;clear hSB
       go_upto_region 23 with fail
       go_region_law_o (refine a0Q (by rfl) _ _ 22 22 (by rfl) _ _ (by rfl) (by rfl) (a5t M14.out [99] (by decide) (n:=1) rfl (ds:=#[.int .i64 99]) rfl _) ?_;rintro v7 w7 ⟨b2,cap2,cs,rfl,hp7⟩;have y1:=hp7.st.cell (b:=wr.heap.size) (j:=1) mem_cons_self rfl;have y2:=hp7.st.frozen (b:=wr.heap.size) (j:=1) mem_cons_self;have y3:=hp7.st.cell (b:=w1.heap.size) (j:=1) (v:=.slice (some ⟨wr.heap.size,0,none⟩) 1 1) (mem_cons_of_mem _ (mem_cons_of_mem _ mem_cons_self)) rfl;have K7:=Lib.hid hp7;clear hp7)
       all_goals
        go_wp2_with fail
        go_meet
        exact⟨a12,_,a0p asn v6,-1,[],_,_,H12,_,sw3,a6M M14.out hp0 rfl K7.out RC.out RL.out HCN.out.1 HCN.out.2⟩
      .go_wp2_with (go_at_fn 64;refine(a4y 104 v6 _).mono ?_;rintro r w13 ⟨rfl,hb⟩;have M15:=M14.out.quiet hb;have RC2:Aside _:=a3H M14.out hb RC.out HCN.out.1;have RL2:Aside _:=a3H M14.out hb RL.out HCN.out.2;obtain⟨y0,y1,y2,y3,y4,y5,y6,y7,y8,y9,y10⟩:=(a0j (M15.st.own _ _ _ mem_cons_self).1).1;have yf2:=(a0j (M15.st.own _ _ _ mem_cons_self).1).2 2;have yf3:=(a0j (M15.st.own _ _ _ mem_cons_self).1).2 3;have yf4:=(a0j (M15.st.own _ _ _ mem_cons_self).1).2 4;have M16:=Lib.hid M15;clear M15 hb)
       go_meet
       exact⟨a12,_,a0p 104 v6,_,_,_,_,H12,_,sw4,a3Z (m_port2 M16.out _ _ _) hp0 (a4A M16.out _ _ _ RC2.out HCN.out.1) (a4A M16.out _ _ _ RL2.out HCN.out.2)⟩
      .have hp0z:(0:Int)<(p.length:Int):=by omega
       have mixed:Tryz.prog.follows Departure.mixedOrders=true:=by kernel_rfl
       have hSB:(wr.heap.size,#[Value.bool false,.slice (some ⟨pb,0,none⟩) p.length cap],(80:TypeId))∈[(w1.heap.size,a0i o (.slice (some ⟨wr.heap.size,0,none⟩) 1 1) (a0p asn v6).1 (a0p asn v6).2.1 (a0p asn v6).2.2 m rr (-1) (.slice oc nc cc) (.slice ol nl cl) a0u,(35:TypeId)),(wr.heap.size,#[.bool false,.slice (some ⟨pb,0,none⟩) p.length cap],80),(pb,cur,3),(w.heap.size,a0z,35)]:=by simp
       have z1:w12.cell? ⟨w1.heap.size,1,none⟩=some (.slice (some ⟨wr.heap.size,0,none⟩) 1 1):=M14.out.st.cell mem_cons_self rfl;have c1:w12.cell? ⟨wr.heap.size,1,none⟩=some (.slice (some ⟨pb,0,none⟩) p.length cap):=M14.out.st.cell hSB rfl;have z2:(w12.alloc (.cells #[.int .i64 64512,.int .i64 701] 3)).cell? ⟨w1.heap.size,1,none⟩=some (.slice (some ⟨wr.heap.size,0,none⟩) 1 1):=(M14.out.st.alloc #[.int .i64 64512,.int .i64 701] 3).cell (mem_cons_of_mem _ mem_cons_self) rfl;have c2:(w12.alloc (.cells #[.int .i64 64512,.int .i64 701] 3)).cell? ⟨wr.heap.size,1,none⟩=some (.slice (some ⟨pb,0,none⟩) p.length cap):=(M14.out.st.alloc #[.int .i64 64512,.int .i64 701] 3).cell (mem_cons_of_mem _ hSB) rfl;clear hSB
       go_upto_region 27 with fail
       go_region_law_o (refine a0Q (by rfl) _ _ 22 22 (by rfl) _ _ (by rfl) (by rfl) (a5t M14.out [64512,701] (by decide) (n:=2) rfl (ds:=#[.int .i64 64512,.int .i64 701]) rfl _) ?_;rintro v7 w7 ⟨b2,cap2,cs,rfl,hp7⟩;have y1:=hp7.st.cell (b:=wr.heap.size) (j:=1) mem_cons_self rfl;have y2:=hp7.st.frozen (b:=wr.heap.size) (j:=1) mem_cons_self;have y3:=hp7.st.cell (b:=w1.heap.size) (j:=1) (v:=.slice (some ⟨wr.heap.size,0,none⟩) 1 1) (mem_cons_of_mem _ (mem_cons_of_mem _ mem_cons_self)) rfl;have K7:=Lib.hid hp7;clear hp7)
       all_goals
        go_wp2_with fail
        go_meet
        exact⟨a12,_,a0p asn v6,-1,[],_,_,H12,_,sw5,a6M M14.out hp0 rfl K7.out RC.out RL.out HCN.out.1 HCN.out.2⟩
      .obtain⟨z0,z1,z2,z3,z4,z5,z6,z7,z8,z9,z10⟩:=(a0j (M14.out.st.own _ _ _ mem_cons_self).1).1;have zf1:=(a0j (M14.out.st.own _ _ _ mem_cons_self).1).2 1
       go_wp2_with fail
       go_meet
       exact⟨a12,[],a0p asn v6,-1,[],a0u,a0u,H12,[],sw6,sw_nil (M14.out.set rfl) (a0J M14.out RC.out HCN.out.1) (a0J M14.out RL.out HCN.out.2)⟩
      .go_wp2_with (go_at_fn 8;refine(HC.out.next _ _ _ 256 _ M14.out.st M14.out.dk (by decide) (by decide)).mono ?_;rintro r w13 ⟨H13,vx,a13,rfl,N13,hq,S13⟩;obtain⟨vn,rfl,hv3⟩:=a5r N13.out (by decide);have hw8:IntKind.u8.wrap (vn:Int)=(vn:Int):=(by rw[IntKind.wrap_u8];omega);have M15:=M14.out.step hq (a0N M14.out.dk N13.out);obtain⟨y0,y1,y2,y3,y4,y5,y6,y7,y8,y9,y10⟩:=(a0j (((M15.st.alloc #[.int .u8 1,.int .u8 (vn:Int)] 5).alloc #[.int .i64 224,.int .i64 99,.slice (some ⟨w13.heap.size,0,none⟩) 2 2] 84).own w1.heap.size (a0i o (.slice (some ⟨wr.heap.size,0,none⟩) 1 1) (a0p asn v6).1 (a0p asn v6).2.1 (a0p asn v6).2.2 m rr (-1) (.slice oc nc cc) (.slice ol nl cl) a0u) 35 (by simp)).1).1;have yf:=(a0j (((M15.st.alloc #[.int .u8 1,.int .u8 (vn:Int)] 5).alloc #[.int .i64 224,.int .i64 99,.slice (some ⟨w13.heap.size,0,none⟩) 2 2] 84).own w1.heap.size (a0i o (.slice (some ⟨wr.heap.size,0,none⟩) 1 1) (a0p asn v6).1 (a0p asn v6).2.1 (a0p asn v6).2.2 m rr (-1) (.slice oc nc cc) (.slice ol nl cl) a0u) 35 (by simp)).1).2 10;have M16:=Lib.hid M15;clear M15 hq)
       go_meet
       exact⟨a13,_,a0p asn v6,_,_,_,_,H13,_,sw7 N13.out,sw_oth M16.out hp0 (M14.out.st.keep RC.out HCN.out.1 S13.out) (M14.out.st.keep RL.out HCN.out.2 S13.out) HCN.out.1 HCN.out.2 _⟩
      .have b0:(sv==0)=false:=beq_eq_false_iff_ne.2 s0;have b1:(sv==1)=false:=beq_eq_false_iff_ne.2 s1;have b2:(sv==2)=false:=beq_eq_false_iff_ne.2 s2;have b3:(sv==3)=false:=beq_eq_false_iff_ne.2 s3;have b4:(sv==4)=false:=beq_eq_false_iff_ne.2 s4;have b5:(sv==5)=false:=beq_eq_false_iff_ne.2 s5;have b6:(sv==6)=false:=beq_eq_false_iff_ne.2 s6;have b7:(sv==7)=false:=beq_eq_false_iff_ne.2 s7;have SE:Aside (swD o p m rr xc xl asn v6 (sv,l,a12)=_):=swE s0 s1 s2 s3 s4 s5 s6 s7;clear s0 s1 s2 s3 s4 s5 s6 s7
       go_wp2_with fail
       go_meet
       exact⟨a12,_,a0p asn v6,-1,[],_,_,H12,_,SE.out,a3Z M14.out hp0 RC.out RL.out⟩
     case rest=>
      obtain⟨a',path,P,c,other,pv,ot,H',L,E1,SI⟩:=hcut;obtain⟨⟨x1,x2,x3,rfl⟩,⟨x4,x5,x6,rfl⟩⟩:=SI.out.shape;obtain⟨s0,s1,s2,s3,s4,s5,s6,s7,s8,s9,s10⟩:=(a0j (SI.out.st.own _ _ _ mem_cons_self).1).1;obtain⟨⟨u0,u1,u2,u3,u4,u5,u6,u7,u8,u9,u10⟩,uf⟩:=a0j (SI.out.st.own w.heap.size a0z 35 (by simp)).1;have uf0:=uf 0;have uf1:=uf 1;have uf2:=uf 2;have uf3:=uf 3;have uf4:=uf 4;have uf5:=uf 5;have uf6:=uf 6;have uf7:=uf 7;have uf8:=uf 8;have uf9:=uf 9;have uf10:=uf 10;clear uf
      go_wp2_with fail
      (try simp only[Exit.inBlock,Exit.then])
      have hz:a1S wc w.heap.size (.int .i64 0) (.slice none 0 0) (.bool false) (.int .u64 0) (.int .u64 0) (.int .i64 0) (.int .i64 0) (.int .i64 0) (.slice none 0 0) (.slice none 0 0) (.slice none 0 0):=(SI.out.st.own w.heap.size a0z 35 (by simp)).1;have hset:=set11 wc w.heap.size (.int .i64 o) (.slice x1 x2 x3) (.bool P.1) (.int .u64 P.2.1) (.int .u64 P.2.2) (.int .i64 m) (.int .i64 rr) (.int .i64 c) (.slice oc nc cc) (.slice ol nl cl) (.slice x4 x5 x6) _ _ _ _ _ _ _ _ _ _ _ hz;refine bodyPost_ret (v:=.agg #[.int .i64 o,.slice x1 x2 x3,.bool P.1,.int .u64 P.2.1,.int .u64 P.2.2,.int .i64 m,.int .i64 rr,.int .i64 c,.slice oc nc cc,.slice ol nl cl,.slice x4 x5 x6]) ?_ rfl ?_
      .exact res28 _ w.heap.size _ (.int .i64 o) (.slice x1 x2 x3) (.bool P.1) (.int .u64 P.2.1) (.int .u64 P.2.2) (.int .i64 m) (.int .i64 rr) (.int .i64 c) (.slice oc nc cc) (.slice ol nl cl) (.slice x4 x5 x6) rfl hset
      .have hrest:=a3z wc w.heap.size (.int .i64 o) (.slice x1 x2 x3) (.bool P.1) (.int .u64 P.2.1) (.int .u64 P.2.2) (.int .i64 m) (.int .i64 rr) (.int .i64 c) (.slice oc nc cc) (.slice ol nl cl) (.slice x4 x5 x6);obtain⟨f1,f2,f3⟩:=a4M N1.out N2.out I5.out O7.out O9.out N10.out N11.out N12.out E1.out;obtain⟨g1,g2⟩:=SI.out.fin ⟨_,hset⟩ hrest HCN.out.1 HCN.out.2;unfold a7T;rw[f1];refine⟨_,H',rfl,g1,?_⟩;unfold a0O;rw[f2,f3];exact g2
end Go.Proofs.YtgfmodmeimhhpaaGreatDoor
open List(mem_cons)
namespace Go.Proofs.YtgfmodmeimhhpaaGreatDoor
open Go.RowKit Go.Lib Go.VM
set_option maxRecDepth 100000
theorem a3g(o:Int)(p:List Int)(m r:Int)(c:List (Int×Int))(g:List (Int×Int×Int))(asn:Int)(v6:Bool)(s:Int×Dk):a0o (swD o p m r c g asn v6 s).1=c/\a0f (swD o p m r c g asn v6 s).1=g/\(swD o p m r c g asn v6 s).2.1=s.2.1:=by unfold swD;simp only;split;exact⟨rfl,rfl,a0I _ _⟩;split;exact⟨rfl,rfl,rfl⟩;split;exact⟨rfl,rfl,rfl⟩;split;exact⟨rfl,rfl,rfl⟩;split;exact⟨rfl,rfl,rfl⟩;split;exact⟨rfl,rfl,rfl⟩;split;exact⟨rfl,rfl,rfl⟩;split;exact⟨rfl,rfl,a0I _ _⟩;exact⟨rfl,rfl,rfl⟩
theorem a2i{d:Dk}(h:DK d)(asn:Int)(v6:Bool):DK (d.1,a2L d asn)/\DK (d.1,a2M d asn)/\a0o (a0F d asn v6).1=(a0U (d.1,a2L d asn)).1/\a0f (a0F d asn v6).1=(a0D (d.1,a2M d asn)).1/\(a0F d asn v6).2.1=d.1:=by
 have h1:(a2o d asn).2.2.1=d.1/\DK (a2o d asn).2.2:=by obtain⟨_,k2,k3⟩:=a1c asn (nx (nx d 3).2 4).1.toNat [asn] (nx (nx d 3).2 4).2 (a1E (a1E h 3) 4);exact⟨k2.trans ((a0I _ _).trans (a0I _ _)),k3⟩
 obtain⟨o1,o2⟩:=a1M h1.2 3 3;obtain⟨p1,p2⟩:=a1M o2 6 300;have hc:(d.1,a2L d asn)=(a1w (a1w (a2o d asn).2.2 3 3).2 6 300).2:=Prod.ext (p1.trans (o1.trans h1.1)).symm rfl;have hd1:DK (d.1,a2L d asn):=by rw[hc];exact p2
 obtain⟨_,_,c3,c4⟩:=a2y p2;have hl:(d.1,a2M d asn)=(a0U (a1w (a1w (a2o d asn).2.2 3 3).2 6 300).2).2:=Prod.ext ((c3.trans (p1.trans (o1.trans h1.1))).symm) rfl;have hd2:DK (d.1,a2M d asn):=by rw[hl];exact c4
 obtain⟨_,_,g3,_⟩:=a1K c4;refine⟨hd1,hd2,?_,?_,?_⟩;rw[hc];unfold a0F;exact(a3g _ _ _ _ _ _ _ _ _).1;rw[hl];unfold a0F;exact(a3g _ _ _ _ _ _ _ _ _).2.1;unfold a0F;refine(a3g _ _ _ _ _ _ _ _ _).2.2.trans ((a0I _ _).trans ?_);rw[<-hl]at g3;rw[hl]at g3;exact g3.trans (c3.trans (p1.trans (o1.trans h1.1)))
theorem a5U{l:List Int}{a:Int}{V0:V}(hd:DK (l,a))(hV:DkV l V0):bP (.sl a4H) (a0U (l,a)).1 [a1j V0 a]/\(a1j V0 a).bare0/\(a1j V0 a).single=true:=by
 obtain⟨v0,k1,k2,_⟩:=a2g (d:=(l,a)) hd hV;have e:a1j V0 a=v0.mapLab1 fun _=>.none:=by unfold a1j;rw[k1]
 obtain⟨m1,m2,_⟩:=a0X k2;rw[e];rcases eX m1 with⟨e,h⟩|⟨lb,rs,e,h1,h2⟩;rw[e];exact⟨.inl ⟨rfl,h⟩,trivial,rfl⟩;rw[e]at m2 ⊢;exact⟨.inr ⟨lb,rs,rfl,h1,h2⟩,m2,rfl⟩
theorem a4N{l:List Int}{a:Int}{V0:V}(hd:DK (l,a))(hV:DkV l V0):bP (.sl a4I) (a0D (l,a)).1 [a0E V0 a]/\(a0E V0 a).bare0/\(a0E V0 a).single=true:=by
 obtain⟨v0,k1,k2,_⟩:=a1L (d:=(l,a)) hd hV;have e:a0E V0 a=v0.mapLab1 fun _=>.none:=by unfold a0E;rw[k1]
 obtain⟨m1,m2,_⟩:=a0X k2;rw[e];rcases eX m1 with⟨e,h⟩|⟨lb,rs,e,h1,h2⟩;rw[e];exact⟨.inl ⟨rfl,h⟩,trivial,rfl⟩;rw[e]at m2 ⊢;exact⟨.inr ⟨lb,rs,rfl,h1,h2⟩,m2,rfl⟩
theorem a3I(p:List Seg):bP (.sl tySg) p [a2K p]/\(a2K p).bare0/\(a2K p).single=true:=by
 unfold a2K;cases p with
 |nil=>exact⟨.inl ⟨rfl,rfl⟩,trivial,rfl⟩|cons s p=>exact⟨a3D (s::p),rfl,rfl⟩
theorem a4a:∀l:List Unk,aL (bP tyUn) l (l.flatMap unkW)/\∀c∈l.flatMap unkW,c.bare0
 |[]=>⟨rfl,fun c hc=>by cases hc⟩|u::l=>by
  obtain⟨h1,h2⟩:=a4a l;have hd:∀d:List Int,aL (bP (.int .u8)) d (d.map (V.int .u8))/\∀c∈d.map (V.int .u8),c.bare0:=fun d=>by
   induction d with|nil=>exact⟨rfl,fun c hc=>by cases hc⟩| cons x d ih => exact ⟨⟨[.int .u8 x], _, rfl, rfl, ih.1⟩, fun c hc => by rcases mem_cons.1 hc with rfl|hc;trivial;exact ih.2 c hc⟩
  refine⟨⟨unkW u,l.flatMap unkW,rfl,⟨[.int .i64 u.1],_,rfl,rfl,[.int .i64 u.2.1],_,rfl,rfl,.inr ⟨.none,_,rfl,(hd _).1,(hd _).2⟩⟩,h1⟩,fun c hc=>?_⟩;rw[List.flatMap_cons]at hc;rcases List.mem_append.1 hc with hc|hc;simp only[unkW,mem_cons,List.not_mem_nil,or_false]at hc;rcases hc with rfl|rfl|rfl;trivial;trivial;rfl;exact h2 c hc
theorem a3h(l:List Unk):bP (.sl tyUn) l [a1x l]/\(a1x l).bare0/\(a1x l).single=true:=by
 unfold a1x;cases l with
 |nil=>exact⟨.inl ⟨rfl,rfl⟩,trivial,rfl⟩|cons s p=>exact⟨.inr ⟨.none,_,rfl,(a4a (s::p)).1,(a4a (s::p)).2⟩,rfl,rfl⟩
theorem a1u{x:Dk×Int×Bool}{q:a0s×Dk}(h:a1P x=some q):DK x.1/\q=a0F x.1 x.2.1 x.2.2:=by unfold a1P at h;split at h;rename_i hd;cases h;exact⟨a6f.1 hd,rfl⟩;cases h
theorem a6N{Ω:World->Prop}:PrimBOk Ω Tryz.prog 28 (pD [.int .i64,.bool] a1P a0O):=by
 obtain⟨c,hb⟩:∃c,Tryz.f28.body=some c:=⟨_,rfl⟩;refine pD_ok Tryz.func28 hb (by kernel_rfl) (fun x q hg V0 h1 h2 v hv=>?_) fun x q hg V0 h1 h2 vs1 ht hbv G w cs' dk i hG hz hr hd=>?_
 obtain⟨⟨l,a0⟩,asn,v6⟩:=x;obtain⟨hdk,rfl⟩:=a1u hg;obtain⟨f1,f2,_⟩:=a2i hdk asn v6;have hV:DkV l V0:=⟨h1,h2⟩;have c1:=(a5U f1 hV).2.2;have c2:=(a4N f2 hV).2.2;have c3:=fun p=>(a3I p).2.2
 have c4:=fun p=>(a3h p).2.2
 simp only[a0O,List.mem_singleton]at hv;subst hv;refine⟨rfl,?_,fun xs h=>by cases h⟩;show List.all [_,_,_,_,_,_,_,_,_,_,_] V.single=true;simp only[List.all_cons,List.all_nil,Bool.and_true,c1,c2,c3,c4,Bool.true_and];rfl
 .obtain⟨⟨l,a0⟩,asn,v6⟩:=x;obtain⟨hdk,rfl⟩:=a1u hg;have hV:DkV l V0:=⟨h1,h2⟩;obtain⟨u1,us,rfl,k1,u2,us2,rfl,k2,k3⟩:=ht;have k3:us2=[]:=k3;subst k3;have e1:u1=.int .i64 asn:=wV (k:=.i64) k1;have e2:u2=.bool v6:=by
   have h5:u2.cells=[V.bool v6]:=k2.1;have h6:=k2.2;cases u2<;>first|(cases h6;done)|simp_all[V.cells]
  subst e1;subst e2;obtain⟨cs2,rfl⟩:∃cs2,cs'=.int .i64 asn::cs2:=by
   cases hr with|cons _ c _ cs r1 r2=>rw[r1.int_inv];exact⟨_,rfl⟩
  have hr2:cs2=[.bool v6]:=by
   cases hr with|cons _ c _ cs r1 r2=>
    cases r2 with|cons _ c _ cs r3 r4=>rw[r3.bool_inv];cases r4;rfl
  subst hr2;have hG':GOk (fun _=>True) G w:=⟨hG.lt,hG.famU,hG.famC,hG.rgU,hG.low,fun _ _=>trivial⟩;refine(a5T (dkC hG' hz hV) ⟨hd,fun _ _ _ h=>by cases h⟩ hdk hV).mono fun e W ⟨v,H,e1,e2,e3⟩=>⟨[v],H,e1,e2,e3⟩
theorem a5V(r:a0s)(cw lw:V)(c1:bP (.sl a4H) (a0o r) [cw])(c2:cw.bare0)(g1:bP (.sl a4I) (a0f r) [lw])(g2:lw.bare0) :
  iQ [a0t] r [.agg [.int .i64 r.1,a2K r.2.1,.bool r.2.2.1.1,.int .u64 r.2.2.1.2.1,.int .u64 r.2.2.1.2.2,.int .i64 r.2.2.2.1,.int .i64 r.2.2.2.2.1,.int .i64 r.2.2.2.2.2.1,cw,lw,a1x (a0r r)]]/\∀c∈([.agg [.int .i64 r.1,a2K r.2.1,.bool r.2.2.1.1,.int .u64 r.2.2.1.2.1,.int .u64 r.2.2.1.2.2,.int .i64 r.2.2.2.1,.int .i64 r.2.2.2.2.1,.int .i64 r.2.2.2.2.2.1,cw,lw,a1x (a0r r)]]:List V).flatMap V.cells,c.bare0:=by
 have p1:=a3I r.2.1;have o1:=a3h (a0r r);refine⟨⟨_,_,rfl,⟨?_,rfl⟩,rfl⟩,fun c hcc=>?_⟩;exact⟨[.int .i64 r.1],_,rfl,rfl,[_],_,rfl,p1.1,[.bool r.2.2.1.1,.int .u64 r.2.2.1.2.1,.int .u64 r.2.2.1.2.2],_,rfl,⟨[.bool r.2.2.1.1],_,rfl,rfl,[.int .u64 r.2.2.1.2.1],[.int .u64 r.2.2.1.2.2],rfl,rfl,rfl⟩,[.int .i64 r.2.2.2.1],_,rfl,rfl,[.int .i64 r.2.2.2.2.1],_,rfl,rfl,[.int .i64 r.2.2.2.2.2.1],_,rfl,rfl,[_],_,rfl,c1,[_],[_],rfl,g1,o1.1⟩;have:c∈[V.int .i64 r.1,a2K r.2.1,.bool r.2.2.1.1,.int .u64 r.2.2.1.2.1,.int .u64 r.2.2.1.2.2,.int .i64 r.2.2.2.1,.int .i64 r.2.2.2.2.1,.int .i64 r.2.2.2.2.2.1,cw,lw,a1x (a0r r)]:=hcc;simp only[mem_cons,List.not_mem_nil,or_false]at this;rcases this with rfl|rfl|rfl|rfl|rfl|rfl|rfl|rfl|rfl|rfl|rfl;trivial;exact p1.2.1;trivial;trivial;trivial;trivial;trivial;trivial;exact c2;exact g2;exact o1.2.1
theorem a5W(V0:V)(d:Dk)(asn:Int)(v6:Bool)(r:a0s):a0O V0 (d,asn,v6) r=[.agg [.int .i64 r.1,a2K r.2.1,.bool r.2.2.1.1,.int .u64 r.2.2.1.2.1,.int .u64 r.2.2.1.2.2,.int .i64 r.2.2.2.1,.int .i64 r.2.2.2.2.1,.int .i64 r.2.2.2.2.2.1,a1j V0 (a2L d asn),a0E V0 (a2M d asn),a1x (a0r r)]]:=rfl
theorem hAttrs0(d:Dk)(asn:Int)(v6:Bool)(V0:V)(r:a0s)(cw lw:V)(hc:a1j V0 (a2L d asn)=cw)(hl:a0E V0 (a2M d asn)=lw)(c1:bP (.sl a4H) (a0o r) [cw])(c2:cw.bare0)(g1:bP (.sl a4I) (a0f r) [lw])(g2:lw.bare0):iQ [a0t] r (a0O V0 (d,asn,v6) r)/\∀c∈(a0O V0 (d,asn,v6) r).flatMap V.cells,c.bare0:=by have e:=a5W V0 d asn v6 r;rw[hc,hl]at e;rw[e];exact a5V r cw lw c1 c2 g1 g2
theorem a7w{l:List Int}{a:Int}{V0:V}(hd:DK (l,a))(hV:DkV l V0):∃cw,a1j V0 a=cw/\bP (.sl a4H) (a0U (l,a)).1 [cw]/\cw.bare0:=by obtain⟨v0,k1,k2,_⟩:=a2g (d:=(l,a)) hd hV;obtain⟨m1,m2,_⟩:=a0X k2;refine⟨v0.mapLab1 fun _=>.none,by unfold a1j;rw[k1],?_,m2⟩;rcases eX m1 with⟨e,h⟩|⟨lb,rs,e,h1,h2⟩;rw[e];exact .inl ⟨rfl,h⟩;rw[e];exact .inr ⟨lb,rs,rfl,h1,h2⟩
theorem a6O{l:List Int}{a:Int}{V0:V}(hd:DK (l,a))(hV:DkV l V0):∃cw,a0E V0 a=cw/\bP (.sl a4I) (a0D (l,a)).1 [cw]/\cw.bare0:=by obtain⟨v0,k1,k2,_⟩:=a1L (d:=(l,a)) hd hV;obtain⟨m1,m2,_⟩:=a0X k2;refine⟨v0.mapLab1 fun _=>.none,by unfold a0E;rw[k1],?_,m2⟩;rcases eX m1 with⟨e,h⟩|⟨lb,rs,e,h1,h2⟩;rw[e];exact .inl ⟨rfl,h⟩;rw[e];exact .inr ⟨lb,rs,rfl,h1,h2⟩
theorem hAttrs3{d:Dk}{asn:Int}{V0:V}{r:a0s}{c:List (Int×Int)}{g:List (Int×Int×Int)}(hc:∃cw,a1j V0 (a2L d asn)=cw/\bP (.sl a4H) c [cw]/\cw.bare0)(hg:∃cw,a0E V0 (a2M d asn)=cw/\bP (.sl a4I) g [cw]/\cw.bare0)(f3:a0o r=c)(f4:a0f r=g):∃cw lw,a1j V0 (a2L d asn)=cw/\a0E V0 (a2M d asn)=lw/\bP (.sl a4H) (a0o r) [cw]/\cw.bare0/\bP (.sl a4I) (a0f r) [lw]/\lw.bare0:=by subst f3;subst f4;obtain⟨cw,h1,h2,h3⟩:=hc;obtain⟨lw,k1,k2,k3⟩:=hg;exact⟨cw,lw,h1,k1,h2,h3,k2,k3⟩
theorem hAttrs6{d:Dk}{asn:Int}{v6:Bool}{V0:V}{r:a0s}(h:∃cw lw,a1j V0 (a2L d asn)=cw/\a0E V0 (a2M d asn)=lw/\bP (.sl a4H) (a0o r) [cw]/\cw.bare0/\bP (.sl a4I) (a0f r) [lw]/\lw.bare0):iQ [a0t] r (a0O V0 (d,asn,v6) r)/\∀c∈(a0O V0 (d,asn,v6) r).flatMap V.cells,c.bare0:=by obtain⟨cw,lw,hc,hl,c1,c2,g1,g2⟩:=h;exact hAttrs0 d asn v6 V0 r cw lw hc hl c1 c2 g1 g2
theorem hAttrs:∀x q,a1P x=some q->∀V0,bP (.sl (.int .i64)) x.1.1 [V0]->V0.bare0->iQ [a0t] q.1 (a0O V0 x q.1)/\∀c∈(a0O V0 x q.1).flatMap V.cells,c.bare0:=by rintro⟨d,asn,v6⟩ ⟨r,d'⟩ hg V0 h1 h2;obtain⟨hdk,e⟩:=a1u hg;have f:=a2i hdk asn v6;have er:(a0F d asn v6).1=r:=(congrArg Prod.fst e).symm;rw[er]at f;have hV:DkV d.1 V0:=⟨h1,h2⟩;exact hAttrs6 (hAttrs3 (a7w f.1 hV) (a6O f.2.1 hV) f.2.2.1 f.2.2.2.1)
theorem a4O:∀x q,a1P x=some q->q.2.1=x.1.1:=by rintro⟨d,asn,v6⟩ q hg;obtain⟨hdk,rfl⟩:=a1u hg;exact(a2i hdk asn v6).2.2.2.2
end Go.Proofs.YtgfmodmeimhhpaaGreatDoor
