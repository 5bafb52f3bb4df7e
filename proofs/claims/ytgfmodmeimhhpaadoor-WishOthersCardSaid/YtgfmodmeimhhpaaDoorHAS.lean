/- The walk of the deck's attributes: its state, and the calls in it. -/
import Derived.Test.YtgfmodmeimhhpaaDoorHDK
import Derived.Handy
import Derived.WalkKit
import Derived.Lib.Hide
import Derived.Deep.LoopGhost
namespace Go.VM
open Go.RowKit
theorem sized'(w:World)(o:Obj):(w.alloc o).heap.size=w.heap.size+1:=Array.size_push _
structure AS(G:Gh)(w:World)(dk:Nat)(V0:V)(W:World)(a:Int)(L:List (Nat×Array Value×TypeId))(H:Gh):Prop where
 deck:DkIn G w dk V0 H W a
 own:∀b cs t,(b,cs,t)∈L->W.heap[b]?=some (.cells cs t (0,0))/\H.Z b=.out/\w.heap.size<=b/\b≠dk
section
variable{G H:Gh}{w W:World}{dk i:Nat}{V0:V}{a:Int}{L:List (Nat×Array Value×TypeId)}
theorem AS.lt(h:AS G w dk V0 W a L H){b:Nat}{cs:Array Value}{t:TypeId}(hb:(b,cs,t)∈L):b<W.heap.size:=(Array.getElem?_eq_some_iff.1 (h.own b cs t hb).1).1
theorem AS.dlt(h:AS G w dk V0 W a L H):dk<W.heap.size:=h.deck.lt dk (by rw[h.deck.dkz];simp)
theorem AS.quiet{W':World}(h:AS G w dk V0 W a L H)(hb:Below W.heap.size W W'):AS G w dk V0 W' a L H:=
 ⟨h.deck.move (fun b hb' _=>hb.block b hb') hb.size hb.os hb.tape hb.output,fun b cs t hm=>by obtain⟨k1,k2⟩:=h.own b cs t hm;exact⟨by rw[hb.block b (h.lt hm)];exact k1,k2⟩⟩
theorem AS.alloc(h:AS G w dk V0 W a L H)(cs:Array Value)(t:TypeId):AS G w dk V0 (W.alloc (.cells cs t)) a ((W.heap.size,cs,t)::L) H:=by have q:=h.quiet (((Below.refl W.heap.size W).alloc (Nat.le_refl _) (.cells cs t)));refine⟨q.deck,fun b cs' t' hm=>?_⟩;rcases List.mem_cons.1 hm with e|hm;cases e;refine⟨heap_alloc_new _ _,?_,h.deck.size,fun e=>?_⟩;by_cases ho:H.Z W.heap.size=.out;exact ho;exact absurd (h.deck.lt _ ho) (Nat.lt_irrefl _);have:=h.dlt;omega;exact q.own b cs' t' hm
theorem AS.sub{L':List (Nat×Array Value×TypeId)}(h:AS G w dk V0 W a L H)(hs:∀x∈L',x∈L):AS G w dk V0 W a L' H:=⟨h.deck,fun b cs t hm=>h.own b cs t (hs _ hm)⟩
theorem AS.wr{W':World}(h:AS G w dk V0 W a L H){b:Nat}{cs ds:Array Value}{t:TypeId}(hm:(b,cs,t)∈L)(hW:W'.heap[b]?=some (.cells ds t (0,0)))(hr:∀k,k≠b->W'.heap[k]?=W.heap[k]?)(hs:W'.heap.size=W.heap.size)(h1:W'.os=W.os)(h2:W'.tape=W.tape)(h3:W'.output=W.output)
  {L':List (Nat×Array Value×TypeId)} (hL:∀x∈L',x=(b,ds,t)\/(x∈L/\x.1≠b)):AS G w dk V0 W' a L' H:=by
 obtain⟨k1,k2,k3,k4⟩:=h.own b cs t hm;refine⟨h.deck.move (fun c hc hz=>hr c fun e=>?_) (by omega) h1 h2 h3,fun c cs' t' hc=>?_⟩;subst e;rcases hz with hz|hz;exact hz k2;omega;rcases hL _ hc with e|⟨hc,hne⟩;cases e;exact⟨hW,k2,k3,k4⟩;obtain⟨q1,q2⟩:=h.own c cs' t' hc;exact⟨by rw[hr c hne];exact q1,q2⟩
theorem AS.set(h:AS G w dk V0 W a L H){b j:Nat}{v:Value}{cs ds:Array Value}{t:TypeId}(hm:(b,cs,t)∈L)(hd:cs.setIfInBounds j v=ds){L':List (Nat×Array Value×TypeId)}(hL:∀x∈L',x=(b,ds,t)\/(x∈L/\x.1≠b)):AS G w dk V0 (W.setCell ⟨b,j,none⟩ v) a L' H:=
 h.wr hm (by rw[<-hd];exact heap_setCell_same W b j cs t v (h.own b cs t hm).1) (fun k hk=>Below.heap_setCell _ _ _ _ hk) (World.size_setCell ..) rfl rfl rfl hL
theorem AS.cell(h:AS G w dk V0 W a L H){b j:Nat}{v:Value}{cs:Array Value}{t:TypeId}(hm:(b,cs,t)∈L)(hj:cs[j]?=some v):W.cell? ⟨b,j,none⟩=some v:=by simp only[World.cell?,(h.own b cs t hm).1];simpa using hj
theorem AS.frozen(h:AS G w dk V0 W a L H){b j:Nat}{cs:Array Value}{t:TypeId}(hm:(b,cs,t)∈L):W.frozen? ⟨b,j,none⟩=false:=by simp only[World.frozen?,(h.own b cs t hm).1];simp
theorem AS.after{W':World}{H':Gh}{a':Int}(h:AS G w dk V0 W a L H)(hd:DkIn G w dk V0 H' W' a')(hk:∀b,b<W.heap.size->b≠dk->W'.heap[b]?=W.heap[b]?/\H'.Z b=H.Z b):AS G w dk V0 W' a' L H':=
 ⟨hd,fun b cs t hm=>by obtain⟨k1,k2,k3,k4⟩:=h.own b cs t hm;obtain⟨q1,q2⟩:=hk b (h.lt hm) k4;exact⟨by rw[q1];exact k1,by rw[q2];exact k2,k3,k4⟩⟩
theorem AS.keep{W':World}{H':Gh}{v:V}{c:Value}(h:AS G w dk V0 W a L H)(hr:Rel W (A0 H W) [] v c)(hn:v.names=[])(hk:∀k n,k≠dk->H.Z k=.st n->H'.Z k=.st n/\W'.heap[k]?=W.heap[k]?):Rel W' (A0 H' W') [] v c:=by
 have hK:jV W W' (A0 H W) (A0 H' W') [] []:=⟨fun l a len z n cap hl ha=>by
  cases l with
  |none=>
   rcases ha with ha|⟨n',q1,q2⟩|⟨nm,_,q,_⟩;exact⟨.inl ha,fun j hj=>by omega⟩;have hne:a.block≠dk:=fun e=>by rw[e,h.deck.dkz]at q1;cases q1
   obtain⟨g1,g2⟩:=hk _ _ hne q1;refine⟨.inr (.inl ⟨n',g1,q2⟩),fun j _=>?_⟩;unfold World.cell?;rw[bM,g2];exfalso;by_cases e:a.block=dk;rw[e,h.deck.dkz]at q;cases q;rcases h.deck.zone _ e with h2|⟨n,h2⟩<;>rw[h2]at q<;>cases q
  |rv s c v=>exact absurd ha (by simp[A0,At])|_=>simp[Lab.names]at hl,fun i blk h=>h⟩
 exact Rel.keepB hK hr hn
theorem relL_hd{A:Pl}{B:List Nat}{v:V}{c:Value}(h:RelL W A B [v] [c]):Rel W A B v c:=by cases h;assumption
end
end Go.VM
namespace Go.Proofs.YtgfmodmeimhhpaaDoor
open Go.RowKit Go.Lib Go.VM
section
variable{G:Gh}{w:World}{dk i:Nat}{V0:V}{l:List Int}{L:List (Nat×Array Value×TypeId)}
noncomputable def commW(V0:V)(a:Int):V:=match call Z.FT 60 32 [.bp 0 0] [[V0,.int .i64 a]]with
 |some (v,_)=>v.mapLab1 fun _=>.none|none=>.undef
noncomputable def largeW(V0:V)(a:Int):V:=match call Z.FT 60 33 [.bp 0 0] [[V0,.int .i64 a]]with
 |some (v,_)=>v.mapLab1 fun _=>.none|none=>.undef
theorem pair_eta{α:Type}{p:α×Dk}{l:List Int}(h:p.2.1=l):p=(p.1,l,p.2.2):=by obtain⟨p1,p2,p3⟩:=p;simp only at h;subst h;rfl
structure DkC(G:Gh)(w:World)(dk:Nat)(V0:V)(l:List Int):Prop where
 next:∀(W:World) (H:Gh) (a b:Int) (L:List (Nat×Array Value×TypeId)),AS G w dk V0 W a L H->DK (l,a)->0<b->b<=9223372036854775807->Calls Tryd.prog 13 #[.pointer (some ⟨dk,0,none⟩),.int .i64 b] W fun e W'=>∃H' v a',e=.returned (.int .i64 v)/\Aside (nx (l,a) b=(v,l,a'))/\AS G w dk V0 W' a' L H'/\Aside (∀k n,k≠dk->H.Z k=.st n->H'.Z k=.st n/\W'.heap[k]?=W.heap[k]?)
 comm:∀(W:World) (H:Gh) (a:Int) (L:List (Nat×Array Value×TypeId)),AS G w dk V0 W a L H->DK (l,a)->Calls Tryd.prog 32 #[.pointer (some ⟨dk,0,none⟩)] W fun e W'=>∃H' o n c x a',e=.returned (.slice o n c)/\Aside (commD (l,a)=(x,l,a'))/\AS G w dk V0 W' a' L H'/\Aside (Rel W' (A0 H' W') [] (commW V0 a) (.slice o n c))
 large:∀(W:World) (H:Gh) (a:Int) (L:List (Nat×Array Value×TypeId)),AS G w dk V0 W a L H->DK (l,a)->Calls Tryd.prog 33 #[.pointer (some ⟨dk,0,none⟩)] W fun e W'=>∃H' o n c x a',e=.returned (.slice o n c)/\Aside (largeD (l,a)=(x,l,a'))/\AS G w dk V0 W' a' L H'/\Aside (Rel W' (A0 H' W') [] (largeW V0 a) (.slice o n c))/\Aside (∀k n,k≠dk->H.Z k=.st n->H'.Z k=.st n/\W'.heap[k]?=W.heap[k]?)
theorem sl_value{t:Ty}{x:(Ty.sl t).den}{v:V}{W:World}{A:Pl}{B:List Nat}{c:Value}(h:gP (.sl t) x v)(hr:Rel W A B v c):∃o n k,c=.slice o n k:=by rcases eX h with⟨rfl,_⟩|⟨lb,rs,rfl,_⟩;exact⟨_,_,_,hr.nils_inv⟩;obtain⟨a,cap,xs,e,_⟩:=hr.sl_inv;exact⟨_,_,_,e⟩
theorem mapLab_rel{t:Ty}{x:(Ty.sl t).den}{v:V}(h:gP (.sl t) x v):gP (.sl t) x (v.mapLab1 fun _=>.none)/\(v.mapLab1 fun _=>.none).bare0/\bO [v.mapLab1 fun _=>.none]=true:=by
 have hv:gP (.sl t) x (v.mapLab1 fun _=>.none):=by rcases eX h with⟨rfl,e⟩|⟨lb,rs,rfl,h1,h2⟩;exact⟨.inl ⟨rfl,e⟩,rfl⟩;exact⟨.inr ⟨.none,rs,rfl,h1,h2⟩,rfl⟩
 refine⟨hv,?_,?_⟩;rcases eX h with⟨rfl,e⟩|⟨lb,rs,rfl,h1,h2⟩;trivial;rfl;simp only[bO,aHB hv,Bool.and_true]
theorem dkC(hG:GOk (fun _=>True) G w)(hz:G.Z dk=.bx i)(hV:DkV l V0):DkC G w dk V0 l where
 next W H a b L h hd hb hb2:=by
  refine(DkIn.call (i:=i) Z.tableOk (f:=13) (vf:=Z.vf13) rfl (next_word (d:=(l,a)) hd hV hb hb2) trivial hV.names hG hz h.deck (cs1:=[.int .i64 b]) (.cons _ _ _ _ (.int _ _) .nil)).mono fun e W' ⟨c,H',e1,e2,e3,e4,_⟩=>⟨H',(nx (l,a) b).1,(nx (l,a) b).2.2,?_,pair_eta (nx_list (l,a) b),h.after e2 e4,fun k n hk hz=>?_⟩
  rw[e1,Rel.int_inv e3];obtain⟨q1,q2⟩:=e4 k (h.deck.lt k (by rw[hz];simp)) hk;exact⟨by rw[q2];exact hz,q1⟩
 comm W H a L h hd:=by
  obtain⟨v0,k1,k2,k3⟩:=comm_word (d:=(l,a)) hd hV;refine(DkIn.call (i:=i) Z.tableOk (f:=32) (vf:=Z.vf32) rfl k1 k3 hV.names hG hz h.deck (cs1:=[]) .nil).mono fun e W' ⟨c,H',e1,e2,e3,e4,_⟩=>?_
  obtain⟨m1,m2,m3⟩:=mapLab_rel k2;obtain⟨o,n,k,rfl⟩:=sl_value m1 e3;have hW:commW V0 a=v0.mapLab1 fun _=>.none:=by unfold commW;rw[k1]
  refine⟨H',o,n,k,(commD (l,a)).1,(commD (l,a)).2.2,e1,pair_eta (comm_eq hd).2.2.1,h.after e2 e4,?_⟩;rw[hW];exact relL_hd (RelL.nobox (.cons _ _ _ _ e3 .nil) m3)
 large W H a L h hd:=by
  obtain⟨v0,k1,k2,k3⟩:=large_word (d:=(l,a)) hd hV;refine(DkIn.call (i:=i) Z.tableOk (f:=33) (vf:=Z.vf33) rfl k1 k3 hV.names hG hz h.deck (cs1:=[]) .nil).mono fun e W' ⟨c,H',e1,e2,e3,e4,_⟩=>?_
  obtain⟨m1,m2,m3⟩:=mapLab_rel k2;obtain⟨o,n,k,rfl⟩:=sl_value m1 e3;have hW:largeW V0 a=v0.mapLab1 fun _=>.none:=by unfold largeW;rw[k1]
  refine⟨H',o,n,k,(largeD (l,a)).1,(largeD (l,a)).2.2,e1,pair_eta (large_eq hd).2.2.1,h.after e2 e4,by rw[hW];exact relL_hd (RelL.nobox (.cons _ _ _ _ e3 .nil) m3),fun k n hk hz=>?_⟩;obtain⟨q1,q2⟩:=e4 k (h.deck.lt k (by rw[hz];simp)) hk;exact⟨by rw[q2];exact hz,q1⟩
end
theorem comm_names{l:List Int}{a:Int}{V0:V}(hd:DK (l,a))(hV:DkV l V0):(commW V0 a).names=[]:=by obtain⟨v0,k1,k2,_⟩:=comm_word (d:=(l,a)) hd hV;unfold commW;rw[k1];rcases eX k2 with⟨rfl,_⟩|⟨lb,rs,rfl,_⟩<;>rfl
theorem large_names{l:List Int}{a:Int}{V0:V}(hd:DK (l,a))(hV:DkV l V0):(largeW V0 a).names=[]:=by obtain⟨v0,k1,k2,_⟩:=large_word (d:=(l,a)) hd hV;unfold largeW;rw[k1];rcases eX k2 with⟨rfl,_⟩|⟨lb,rs,rfl,_⟩<;>rfl
end Go.Proofs.YtgfmodmeimhhpaaDoor
