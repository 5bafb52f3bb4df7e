/- The walk of the deck's attributes: what its steps come to. -/
import Derived.Test.YtgfmodmeimhhpaaDoorHAR
import Derived.Test.YtgfmodmeimhhpaaDoorGC
import Derived.Test.YtgfmodmeimhhpaaDoorHPA
import Derived.Test.YtgfmodmeimhhpaaDoorChecked
import Derived.Shelf.RegionOpenPlain
import Derived.WalkKit
import Derived.Lib.Walk
import Derived.Deep.LoopGhost
import Derived.Deep.CutRange
open List(mem_cons not_mem_nil mem_cons_self mem_cons_of_mem length_append length_set)
open Nat(zero_add)
namespace Go.Proofs.YtgfmodmeimhhpaaDoor
open Go.RowKit Go.Lib Go.VM
theorem port_call(a:Int)(b:Bool)(W:World):Calls Tryd.prog 31 #[.int .i64 a,.bool b] W fun e W'=>e=.returned (.agg #[.bool (portD a b).1,.int .u64 (portD a b).2.1,.int .u64 (portD a b).2.2])/\Below W.heap.size W W':=by
 have hty:wZ ⟨[.d (.int .i64),.d .bool],[(tyAd,[])],none⟩ [] (call Z.FT 60 31) (Z.n31 60):=by have h:=Z.typed 60 31;unfold aF7 at h;rw[Z.sigOk 31]at h;exact h
 have hx:Z.n31 60 (a,b)=some (portD a b):=by rw[Z.e31];cases b<;>rfl
 refine(calls_typed (Z.tableOk) (f:=31) (ps:=[.d (.int .i64),.d .bool]) (rs:=[(tyAd,[])]) (vf:=Z.vf31) rfl hty (fun p hp=>by simp only[mem_cons,not_mem_nil,or_false]at hp;rcases hp with rfl|rfl<;>exact⟨_,rfl,.inr rfl⟩) (by decide) (fun _ _=>trivial) (Q:=fun _=>True) hx (cs:=[.int .i64 a,.bool b]) ⟨_,_,rfl,⟨rfl,rfl⟩,_,_,rfl,⟨rfl,rfl⟩,rfl⟩).mono fun e W' ⟨rcs,e1,e2,e3⟩=>⟨?_,e2⟩
 obtain⟨c1,cs1,rfl,h1,rfl⟩:=e3;obtain⟨⟨x,y,hc,k1,z0,z1,rfl,k2,k3⟩,hag⟩:=h1;have k1:x=[.bool (portD a b).1]:=k1;have k2:z0=[.int .u64 (portD a b).2.1]:=k2;have k3:z1=[.int .u64 (portD a b).2.2]:=k3;subst k1;subst k2;subst k3;rw[e1];cases c1 with
 |agg ys=>have:ys=#[.bool (portD a b).1,.int .u64 (portD a b).2.1,.int .u64 (portD a b).2.2]:=Array.ext' hc;rw[this];rfl|_=>cases hag
abbrev aCells(o:Int)(p:Value)(v6:Bool)(hi lo m r c:Int)(cm lg ot:Value):Array Value:=#[.int .i64 o,p,.bool v6,.int .u64 hi,.int .u64 lo,.int .i64 m,.int .i64 r,.int .i64 c,cm,lg,ot]
abbrev nilV:Value:=.slice none 0 0
theorem as_one{G:Gh}{w:World}{dk:Nat}{V0:V}{a0:Int}{H0:Gh}(h:AS G w dk V0 w a0 [] H0)(w1:World)(hb:Below (w.alloc (.cells zAttr 48)).heap.size (w.alloc (.cells zAttr 48)) w1):AS G w dk V0 (w1.alloc (.cells eAttr 48)) a0 [(w1.heap.size,eAttr,48),(w.heap.size,zAttr,48)] H0:=
 ((h.alloc zAttr 48).quiet hb).alloc eAttr 48
theorem as_two{G:Gh}{w w2:World}{dk ab:Nat}{V0:V}{a:Int}{H:Gh}(h:AS G w dk V0 w2 a [(ab,eAttr,48),(w.heap.size,zAttr,48)] H)(hne:w.heap.size≠ab)(o asn:Int) :
  AS G w dk V0 ((w2.setCell ⟨ab,0,none⟩ (.int .i64 o)).alloc (.cells #[.int .i64 asn] 3)) a [(w2.heap.size,#[.int .i64 asn],3),(ab,aCells o nilV false 0 0 (-1) (-1) (-1) nilV nilV nilV,48),(w.heap.size,zAttr,48)] H:=by
 have h1:=h.set (b:=ab) (j:=0) (v:=.int .i64 o) (cs:=eAttr) (ds:=aCells o nilV false 0 0 (-1) (-1) (-1) nilV nilV nilV) (t:=48) (by simp) rfl (L':=[(ab,aCells o nilV false 0 0 (-1) (-1) (-1) nilV nilV nilV,48),(w.heap.size,zAttr,48)]) (fun x hx=>by simp only[mem_cons,not_mem_nil,or_false]at hx;rcases hx with rfl|rfl;exact .inl rfl;exact .inr ⟨by simp,hne⟩)
 have h2:=h1.alloc #[.int .i64 asn] 3;rw[World.size_setCell]at h2;exact h2
theorem _root_.Go.VM.AS.app{G:Gh}{w W W':World}{dk:Nat}{V0:V}{a:Int}{H:Gh}{b b':Nat}{cs ds:Array Value}{t:TypeId}{L:List (Nat×Array Value×TypeId)}(h:AS G w dk V0 W a ((b,cs,t)::L) H)(hg:W.grownBy W' (some b))(hW:W'.heap[b']?=some (.cells ds t (0,0)))(hb:b'=b\/b'=W.heap.size)(hL:∀x∈L,x.1≠b) :
  AS G w dk V0 W' a ((b',ds,t)::L) H:=by
 obtain⟨k1,k2,k3,k4⟩:=h.own b cs t mem_cons_self;refine⟨h.deck.move (fun c hc hz=>hg.block c hc fun e=>?_) hg.size hg.os hg.tape hg.output,fun c cs' t' hc=>?_⟩;cases e;rcases hz with hz|hz;exact hz k2;omega;rcases mem_cons.1 hc with e|hc;cases e;refine⟨hW,?_,?_,?_⟩;rcases hb with rfl|rfl;exact k2;by_cases ho:H.Z W.heap.size=.out;exact ho;exact absurd (h.deck.lt _ ho) (Nat.lt_irrefl _);rcases hb with rfl|rfl;exact k3;exact h.deck.size;rcases hb with rfl|rfl;exact k4;have:=h.dlt;omega;obtain⟨q1,q2⟩:=h.own c cs' t' (mem_cons_of_mem _ hc);exact⟨by rw[hg.block c (h.lt (mem_cons_of_mem _ hc)) fun e=>hL _ hc (Option.some.inj e)];exact q1,q2⟩
structure PRow(cur:Array Value)(cap:Nat)(p:List Int):Prop where
 le:p.length<=cap
 max:cap<=maxLen
 size:cur.size=cap
 row:cur.toList.take p.length=intC p
theorem _root_.Go.VM.AS.push{G:Gh}{w W:World}{dk:Nat}{V0:V}{a:Int}{H:Gh}{b cap:Nat}{cur:Array Value}{p:List Int}{L:List (Nat×Array Value×TypeId)}(h:AS G w dk V0 W a ((b,cur,3)::L) H)(hp:PRow cur cap p)(hs:p.length<=1000)(hL:∀x∈L,x.1≠b)(xs:List Int)(hx:xs.length<=1000)(ad:Addr)(m c:Nat)(hm:xs.length=m)
  (hn:∀j u,(intC xs)[j]?=some u->W.cell? (ad.add j)=some u) (ty:TypeId) :
  ∃v' W',(Builtin.append_ #[22,22] ty #[.slice (some ⟨b,0,none⟩) p.length cap,.slice (some ad) m c]).run Tryd.prog W=.ok v' W'/\∃b' cap' cur',v'=.slice (some ⟨b',0,none⟩) (p.length+m) cap'/\AS G w dk V0 W' a ((b',cur',3)::L) H/\PRow cur' cap' (p++xs)/\(b'=b\/b'=W.heap.size)/\W.grownBy W' (some b):=by
 obtain⟨i0,hi0,hz0,hzs,hzb⟩:=info_parts info_i;obtain⟨k1,k2,k3,k4⟩:=h.own b cur 3 mem_cons_self;obtain⟨v',W',q1,q2,q3,q4,q5⟩:=run_append_own_at (P:=Tryd.prog) W w.heap.size 22 ty 3 i0 (.int .i64 0) 1 8 Tryd.underlying22 hi0 hz0 hzs hzb rfl (by decide) (.slice (some ⟨b,0,none⟩) p.length cap) p.length (intC p)
  ⟨by rw[intC_len];omega,.inr ⟨b,cap,cur,rfl,k3,k1,hp.le,hp.max,by rw[hp.size];omega,by rw[Nat.mul_one];exact hp.row⟩⟩ ad m c (intC xs) (by rw[intC_len];omega) hn (fun u hu=>by simp only[intC,List.mem_map]at hu;obtain⟨x,_,rfl⟩:=hu;rfl) (by unfold maxLen;omega) (by omega) h.deck.size
 rcases q2.2 with⟨e,_⟩|⟨b',cap',cur',rfl,g1,g2,g3,g4,g5,g6⟩;have:=(q4.1 e).1;cases this
 · have hb' : b' = b ∨ b' = W.heap.size := by
     rcases q5 with q5|q5;exact .inl (Option.some.inj q5);exact .inr (Option.some.inj q5)
   exact⟨_,W',q1,b',cap',cur',rfl,h.app q3 g2 hb' hL,⟨by rw[length_append];omega,g4,by rw[g5];omega,by rw[length_append,hm,<-Nat.mul_one (p.length+m),g6];exact(List.map_append ..).symm⟩,hb',q3⟩
def LInv(G:Gh)(w:World)(dk:Nat)(V0:V)(l:List Int)(ab:Nat)(o asn:Int)(P:List Int×Dk)(wr:World)(pb cap:Nat)(p:List Int)(j:Nat):Prop:=
 ∃cur a H,AS G w dk V0 wr a [(pb,cur,3),(ab,aCells o nilV false 0 0 (-1) (-1) (-1) nilV nilV nilV,48),(w.heap.size,zAttr,48)] H/\DK (l,a)/\PRow cur cap p/\p.length+j<=4/\pathD asn j p (l,a)=P/\pb≠ab/\pb≠w.heap.size/\ab≠w.heap.size
theorem ne_one{w w1:World}{o:Obj}(hb:Below (w.alloc o).heap.size (w.alloc o) w1):w.heap.size≠w1.heap.size:=by have:=hb.size;rw[sized']at this;omega
theorem dk_step{l:List Int}{a a' v b:Int}(h:DK (l,a))(hn:nx (l,a) b=(v,l,a')):DK (l,a'):=by have:=nx_DK h b;rw[hn]at this;exact this
theorem nx_nat{l:List Int}{a a' v b:Int}(hn:nx (l,a) b=(v,l,a'))(hb:0<b):∃k:Nat,v=k/\(k:Int)<b:=by have:=nx_rng (l,a) hb;rw[hn]at this;exact⟨v.toNat,by have:=this.1;simp only at this;omega,by have h1:=this.1;have h2:=this.2;simp only at h1 h2;omega⟩
theorem loop_start{G:Gh}{w w1 w2 w3:World}{dk kk:Nat}{V0:V}{l:List Int}{o asn a1 a2:Int}{H2 H3:Gh}{ob:Obj}(h:AS G w dk V0 w3 a2 [(w2.heap.size,#[.int .i64 asn],3),(w1.heap.size,aCells o nilV false 0 0 (-1) (-1) (-1) nilV nilV nilV,48),(w.heap.size,zAttr,48)] H3)(hb:Below (w.alloc ob).heap.size (w.alloc ob) w1)
  (h2:AS G w dk V0 w2 a1 [(w1.heap.size,eAttr,48),(w.heap.size,zAttr,48)] H2) (hd:DK (l,a2)) (hk:(kk:Int)<4):LInv G w dk V0 l w1.heap.size o asn (pathD asn kk [asn] (l,a2)) w3 w2.heap.size 1 [asn] kk:=by
 have e1:=ne_one hb;have e2:=h2.lt (b:=w1.heap.size) (cs:=eAttr) (t:=48) (by simp);have e3:=h2.lt (b:=w.heap.size) (cs:=zAttr) (t:=48) (by simp);exact⟨_,a2,H3,h,hd,⟨Nat.le_refl _,by decide,rfl,rfl⟩,by simp;omega,rfl,by omega,by omega,by omega⟩
abbrev arr7(asn:Int):Array Value:=#[.int .i64 asn,.int .i64 101,.int .i64 102,.int .i64 201,.int .i64 202,.int .i64 203,.int .i64 301]
theorem pick_cell{G:Gh}{w W:World}{dk b:Nat}{V0:V}{a asn:Int}{H:Gh}{L:List (Nat×Array Value×TypeId)}(h:AS G w dk V0 W a ((b,arr7 asn,3)::L) H){k:Nat}(hk:(k:Int)<7):W.cell? ⟨b,k,none⟩=some (.int .i64 (pickD asn k)):=by
 refine h.cell mem_cons_self ?_;have hk:k<7:=by omega
 match k,hk with
 |0,_=>rfl|1,_=>rfl|2,_=>rfl|3,_=>rfl|4,_=>rfl|5,_=>rfl|6,_=>rfl
theorem round_push{G:Gh}{w wr w4:World}{dk:Nat}{V0:V}{l:List Int}{ab pb cap j vn:Nat}{o asn a a':Int}{P:List Int×Dk}{p:List Int}{cur:Array Value}{H H4:Gh}{b7:Nat}(hS:AS G w dk V0 wr a [(pb,cur,3),(ab,aCells o nilV false 0 0 (-1) (-1) (-1) nilV nilV nilV,48),(w.heap.size,zAttr,48)] H)
  (h:AS G w dk V0 w4 a' [(b7,arr7 asn,3),(pb,cur,3),(ab,aCells o nilV false 0 0 (-1) (-1) (-1) nilV nilV nilV,48),(w.heap.size,zAttr,48)] H4) (hd:DK (l,a)) (hn:nx (l,a) 7=((vn:Int),l,a')) (hp:PRow cur cap p) (hl:p.length+(j+1)<=4) (hP:pathD asn (j+1) p (l,a)=P) (n1:pb≠ab) (n2:pb≠w.heap.size) (n3:ab≠w.heap.size) (ty:TypeId) :
  ∃ v' W',(Builtin.append_ #[22,22] ty #[.slice (some ⟨pb,0,none⟩) p.length cap,.slice (some ⟨w4.heap.size,0,none⟩) 1 1]).run Tryd.prog (w4.alloc (.cells #[.int .i64 (pickD asn vn)] 3))=.ok v' W' ∧
    ∃pb' cap',v'=.slice (some ⟨pb',0,none⟩) (p.length+1) cap'/\LInv G w dk V0 l ab o asn P W' pb' cap' (p++[pickD asn vn]) j:=by
 have h1:=(h.alloc #[.int .i64 (pickD asn vn)] 3).sub (L':=[(pb,cur,3),(ab,aCells o nilV false 0 0 (-1) (-1) (-1) nilV nilV nilV,48),(w.heap.size,zAttr,48)]) fun x hx=>mem_cons_of_mem _ (mem_cons_of_mem _ hx)
 have hlt:=h.lt (b:=ab) (cs:=aCells o nilV false 0 0 (-1) (-1) (-1) nilV nilV nilV) (t:=48) (by simp);have hlt2:=h.lt (b:=w.heap.size) (cs:=zAttr) (t:=48) (by simp);obtain⟨v',W',q1,b',cap',cur',e,q2,q3,q4,_⟩:=h1.push hp (by omega) (fun x hx=>by
  simp only[mem_cons,not_mem_nil,or_false]at hx;rcases hx with rfl|rfl;exact fun e=>n1 e.symm
  exact fun e=>n2 e.symm) [pickD asn vn] (by simp) ⟨w4.heap.size,0,none⟩ 1 1 rfl (fun j u hj=>by
  rw[Addr.add_lit,zero_add];simp only[World.cell?];rw[heap_alloc_new w4 (.cells #[.int .i64 (pickD asn vn)] 3)];simpa[intC]using hj) ty
 refine⟨v',W',q1,b',cap',e,cur',a',H4,q2,dk_step hd hn,q3,by rw[length_append];simp;omega,?_,?_,?_,n3⟩;rw[<-hP];show _=pathD asn j (p++[pickD asn (nx (l,a) 7).1]) (nx (l,a) 7).2;rw[hn];rcases q4 with rfl|rfl;exact n1;rw[sized'];omega;rcases q4 with rfl|rfl;exact n2;rw[sized'];omega
structure mG(G:Gh)(w:World)(dk:Nat)(V0:V)(l:List Int)(ab sb pb cap:Nat)(cur:Array Value)(p:List Int)(A:Array Value)(wr:World)(a:Int)(H:Gh):Prop where
 st:AS G w dk V0 wr a [(ab,A,48),(sb,#[.bool false,.slice (some ⟨pb,0,none⟩) p.length cap],63),(pb,cur,3),(w.heap.size,zAttr,48)] H
 dk:DK (l,a)
 row:PRow cur cap p
 len:p.length<=4
 sp:sb≠pb
 sa:sb≠ab
 sr:sb≠w.heap.size
 pa:pb≠ab
 pr:pb≠w.heap.size
 ar:ab≠w.heap.size
theorem opt_yes{l:List Int}{a a1 a2 v b n:Int}(h1:nx (l,a) b=(0,l,a1))(h2:nx (l,a1) n=(v,l,a2)):optD (l,a) b n=(v,l,a2):=by unfold optD;rw[h1];exact h2
theorem opt_no{l:List Int}{a a1 u b n:Int}(h1:nx (l,a) b=(u,l,a1))(h:u≠0):optD (l,a) b n=(-1,l,a1):=by unfold optD;rw[h1];exact if_neg h
section
variable{G H:Gh}{w wr:World}{dk ab sb pb cap:Nat}{V0:V}{l p:List Int}{cur A:Array Value}{a:Int}
theorem mG.set(h:mG G w dk V0 l ab sb pb cap cur p A wr a H){j:Nat}{v:Value}{A':Array Value}(e:A.setIfInBounds j v=A'):mG G w dk V0 l ab sb pb cap cur p A' (wr.setCell ⟨ab,j,none⟩ v) a H:=
 ⟨h.st.set mem_cons_self e fun x hx=>by rcases mem_cons.1 hx with rfl|hx;exact .inl rfl;refine .inr ⟨mem_cons_of_mem _ hx,?_⟩;simp only[mem_cons,not_mem_nil,or_false]at hx;rcases hx with rfl|rfl|rfl;exact h.sa;exact h.pa;exact fun e=>h.ar e.symm,h.dk,h.row,h.len,h.sp,h.sa,h.sr,h.pa,h.pr,h.ar⟩
theorem mG.quiet(h:mG G w dk V0 l ab sb pb cap cur p A wr a H){W:World}(hb:Below wr.heap.size wr W):mG G w dk V0 l ab sb pb cap cur p A W a H:=⟨h.st.quiet hb,h.dk,h.row,h.len,h.sp,h.sa,h.sr,h.pa,h.pr,h.ar⟩
theorem mG.step(h:mG G w dk V0 l ab sb pb cap cur p A wr a H){W:World}{H':Gh}{a':Int}(hs:AS G w dk V0 W a' [(ab,A,48),(sb,#[.bool false,.slice (some ⟨pb,0,none⟩) p.length cap],63),(pb,cur,3),(w.heap.size,zAttr,48)] H')(hd:DK (l,a')):mG G w dk V0 l ab sb pb cap cur p A W a' H':=⟨hs,hd,h.row,h.len,h.sp,h.sa,h.sr,h.pa,h.pr,h.ar⟩
theorem m_start{o:Int}(hS:AS G w dk V0 wr a [(pb,cur,3),(ab,aCells o nilV false 0 0 (-1) (-1) (-1) nilV nilV nilV,48),(w.heap.size,zAttr,48)] H)(hd:DK (l,a))(hp:PRow cur cap p)(hl:p.length+0<=4)(n1:pb≠ab)(n2:pb≠w.heap.size)(n3:ab≠w.heap.size) :
  mG G w dk V0 l ab wr.heap.size pb cap cur p (aCells o (.slice (some ⟨wr.heap.size,0,none⟩) 1 1) false 0 0 (-1) (-1) (-1) nilV nilV nilV) ((wr.alloc (.cells #[.bool false,.slice (some ⟨pb,0,none⟩) p.length cap] 63)).setCell ⟨ab,1,none⟩ (.slice (some ⟨wr.heap.size,0,none⟩) 1 1)) a H:=by
 have l1:=hS.lt (b:=pb) (cs:=cur) (t:=3) (by simp);have l2:=hS.lt (b:=ab) (cs:=aCells o nilV false 0 0 (-1) (-1) (-1) nilV nilV nilV) (t:=48) (by simp);have l3:=hS.lt (b:=w.heap.size) (cs:=zAttr) (t:=48) (by simp);have h1:=(hS.alloc #[.bool false,.slice (some ⟨pb,0,none⟩) p.length cap] 63).sub (L':=[(ab,aCells o nilV false 0 0 (-1) (-1) (-1) nilV nilV nilV,48),(wr.heap.size,#[.bool false,.slice (some ⟨pb,0,none⟩) p.length cap],63),(pb,cur,3),(w.heap.size,zAttr,48)]) (fun x hx=>by simp only[mem_cons,not_mem_nil,or_false]at hx ⊢;rcases hx with rfl|rfl|rfl|rfl<;>simp)
 exact mG.set ⟨h1,hd,hp,hl,by omega,by omega,by omega,n1,n2,n3⟩ rfl
theorem m_port{o m r c:Int}{pv cm lg ot:Value}(h:mG G w dk V0 l ab sb pb cap cur p (aCells o pv false 0 0 m r c cm lg ot) wr a H)(b:Bool)(hi lo:Int) :
  mG G w dk V0 l ab sb pb cap cur p (aCells o pv b hi lo m r c cm lg ot) (((wr.setCell ⟨ab,2,none⟩ (.bool b)).setCell ⟨ab,3,none⟩ (.int .u64 hi)).setCell ⟨ab,4,none⟩ (.int .u64 lo)) a H:=
 ((h.set (A':=aCells o pv b 0 0 m r c cm lg ot) rfl).set (A':=aCells o pv b hi 0 m r c cm lg ot) rfl).set (A':=aCells o pv b hi lo m r c cm lg ot) rfl
theorem m_cl{o m r c hi lo:Int}{b:Bool}{pv cm0 lg0 ot:Value}(h:mG G w dk V0 l ab sb pb cap cur p (aCells o pv b hi lo m r c cm0 lg0 ot) wr a H)(cm lg:Value) :
  mG G w dk V0 l ab sb pb cap cur p (aCells o pv b hi lo m r c cm lg ot) ((wr.setCell ⟨ab,8,none⟩ cm).setCell ⟨ab,9,none⟩ lg) a H:=
 (h.set (A':=aCells o pv b hi lo m r c cm lg0 ot) rfl).set (A':=aCells o pv b hi lo m r c cm lg ot) rfl
end
theorem dk_comm{l:List Int}{a a':Int}{x:List (Int×Int)}(h:DK (l,a))(hn:commD (l,a)=(x,l,a')):DK (l,a'):=by have:=(comm_eq h).2.2.2;rw[hn]at this;exact this
theorem dk_large{l:List Int}{a a':Int}{x:List (Int×Int×Int)}(h:DK (l,a))(hn:largeD (l,a)=(x,l,a')):DK (l,a'):=by have:=(large_eq h).2.2.2;rw[hn]at this;exact this
section
variable{G H:Gh}{w W:World}{dk:Nat}{V0:V}{a:Int}{L:List (Nat×Array Value×TypeId)}
theorem row_rel(h:AS G w dk V0 W a L H){b n cap z:Nat}{cs:Array Value}{t:TypeId}(hm:(b,cs,t)∈L){ws:List V}{xs:List Value}(hz:0<z)(hl:xs.length=n*z)(hn:n<=cap)(hmax:cap<=maxLen)(hsz:xs.length<=cs.size)(hx:cs.toList.take xs.length=xs)
  (hr:RelL W (Adk H w W) [] ws xs) (hnm:aC ws=[]):Rel W (Adk H w W) [] (.sl .none z n ws) (.slice (some ⟨b,0,none⟩) n cap):=by
 obtain⟨k1,_,k3,_⟩:=h.own b cs t hm;refine .sl .none z n ws ⟨b,0,none⟩ cap xs (.inr (.inr ⟨k3,cs,t,(0,0),k1,by simpa using hsz⟩)) hz hl hn hmax (fun j u hj=>?_) hr hnm;rw[Addr.add_lit,zero_add];simp only[World.cell?,k1];rw[<-hx,List.getElem?_take]at hj;split at hj;simpa using hj;cases hj
theorem ints_row(h:AS G w dk V0 W a L H){b cap:Nat}{cur:Array Value}{p:List Int}(hm:(b,cur,3)∈L)(hp:PRow cur cap p)(h0:0<p.length):Rel W (Adk H w W) [] (rowV p) (.slice (some ⟨b,0,none⟩) p.length cap):=by unfold rowV;rw[if_neg (by cases p with|nil=>simp at h0|cons x r=>simp)];exact row_rel h hm (by decide) (by rw[intC_len];omega) hp.le hp.max (by rw[intC_len,hp.size];exact hp.le) (by rw[intC_len];exact hp.row) (ints_rel p) (ints_names p)
theorem path_one(h:AS G w dk V0 W a L H){sb b cap:Nat}{cur:Array Value}{p:List Int}(hs:(sb,#[.bool false,.slice (some ⟨b,0,none⟩) p.length cap],63)∈L)(hm:(b,cur,3)∈L)(hp:PRow cur cap p)(h0:0<p.length) :
  Rel W (Adk H w W) [] (pathV [(false,p)]) (.slice (some ⟨sb,0,none⟩) 1 1):=
 row_rel h hs (by decide) (xs:=[.bool false,.slice (some ⟨b,0,none⟩) p.length cap]) rfl (Nat.le_refl _) (by decide) (by simp) rfl (.cons _ _ _ _ (.bool _) (.cons _ _ _ _ (ints_row h hm hp h0) .nil)) (segsV_names [(false,p)])
theorem a0_adk{v:V}{c:Value}(h:AS G w dk V0 W a L H)(hr:Rel W (A0 H W) [] v c)(hn:v.names=[]):Rel W (Adk H w W) [] v c:=by
 have hK:jV W W (A0 H W) (Adk H w W) [] []:=⟨fun l a len z n cap hl ha=>by
  cases l with
  |none=>
   refine⟨?_,fun _ _=>rfl⟩;rcases ha with ha|ha|⟨nm,_,q,_⟩;exact .inl ha;exact .inr (.inl ha);exfalso;by_cases e:a.block=dk;rw[e,h.deck.dkz]at q;cases q;rcases h.deck.zone _ e with h2|⟨n,h2⟩<;>rw[h2]at q<;>cases q
  |rv s c v=>exact absurd ha (by simp[A0,At])|_=>simp[Lab.names]at hl,fun i blk h=>h⟩
 exact Rel.keepB hK hr hn
theorem AS.rest{W':World}{v:V}{c:Value}{a':Int}{L':List (Nat×Array Value×TypeId)}(h:AS G w dk V0 W a L H)(h':AS G w dk V0 W' a' L' H)(hb:∀b,b<W.heap.size->H.Z b≠.out->b≠dk->W'.heap[b]?=W.heap[b]?)(hr:Rel W (A0 H W) [] v c)(hn:v.names=[]):Rel W' (A0 H W') [] v c:=
 h.keep hr hn fun k n hk hz=>⟨hz,hb k (h.deck.lt k (by rw[hz];simp)) (by rw[hz];simp) hk⟩
end
def pathW(L:List Seg):V:=if L.isEmpty=true then .nils else pathV L
def unkW(u:Unk):List V:=[.int .i64 u.1,.int .i64 u.2.1,.sl .none 1 u.2.2.length (u.2.2.map (V.int .u8))]
def otherW(l:List Unk):V:=if l.isEmpty=true then .nils else .sl .none 3 l.length (l.flatMap unkW)
structure SwInv(G:Gh)(w:World)(dk:Nat)(V0:V)(ab:Nat)(o m r:Int)(cm lg:Value)(cw lw:V)(W:World)(a:Int)(path:List Seg)(P:Bool×Int×Int)(c:Int)(other:List Unk)(pv ot:Value)(H:Gh)(L:List (Nat×Array Value×TypeId)):Prop where
 st:AS G w dk V0 W a ((ab,aCells o pv P.1 P.2.1 P.2.2 m r c cm lg ot,48)::(w.heap.size,zAttr,48)::L) H
 ar:ab≠w.heap.size
 ne:∀x∈L,x.1≠w.heap.size
 rel:∀W',AS G w dk V0 W' a L H->Rel W' (Adk H w W') [] (pathW path) pv/\Rel W' (Adk H w W') [] (otherW other) ot
 cmR:Rel W (A0 H W) [] cw cm
 lgR:Rel W (A0 H W) [] lw lg
section
variable{G H:Gh}{w wr:World}{dk ab sb pb cap:Nat}{V0 cw lw:V}{l p:List Int}{cur A:Array Value}{a o m r c hi lo:Int}{b:Bool}{cm lg ot pv:Value}
theorem m_port2(h:mG G w dk V0 l ab sb pb cap cur p (aCells o pv b hi lo m r c cm lg ot) wr a H)(b':Bool)(hi' lo':Int) :
  mG G w dk V0 l ab sb pb cap cur p (aCells o pv b' hi' lo' m r c cm lg ot) (((wr.setCell ⟨ab,2,none⟩ (.bool b')).setCell ⟨ab,3,none⟩ (.int .u64 hi')).setCell ⟨ab,4,none⟩ (.int .u64 lo')) a H:=
 ((h.set (A':=aCells o pv b' hi lo m r c cm lg ot) rfl).set (A':=aCells o pv b' hi' lo m r c cm lg ot) rfl).set (A':=aCells o pv b' hi' lo' m r c cm lg ot) rfl
theorem sw_base{P:Bool×Int×Int}(h:mG G w dk V0 l ab sb pb cap cur p (aCells o (.slice (some ⟨sb,0,none⟩) 1 1) P.1 P.2.1 P.2.2 m r c cm lg nilV) wr a H)(h0:0<p.length)(h1:Rel wr (A0 H wr) [] cw cm)(h2:Rel wr (A0 H wr) [] lw lg) :
  SwInv G w dk V0 ab o m r cm lg cw lw wr a [(false,p)] P c [] (.slice (some ⟨sb,0,none⟩) 1 1) nilV H [(sb,#[.bool false,.slice (some ⟨pb,0,none⟩) p.length cap],63),(pb,cur,3)]:=
 ⟨h.st.sub (fun x hx=>by
  simp only[mem_cons,not_mem_nil,or_false]at hx ⊢;rcases hx with rfl|rfl|rfl|rfl<;>simp),h.ar,fun x hx=>by
  simp only[mem_cons,not_mem_nil,or_false]at hx;rcases hx with rfl|rfl;exact h.sr;exact h.pr,fun W' hW=>⟨path_one (sb:=sb) (b:=pb) (cap:=cap) (cur:=cur) hW (by simp) (by simp) h.row h0,.nils⟩,h1,h2⟩
theorem sw_nil{P:Bool×Int×Int}(h:mG G w dk V0 l ab sb pb cap cur p (aCells o nilV P.1 P.2.1 P.2.2 m r c cm lg nilV) wr a H)(h1:Rel wr (A0 H wr) [] cw cm)(h2:Rel wr (A0 H wr) [] lw lg) :
  SwInv G w dk V0 ab o m r cm lg cw lw wr a [] P c [] nilV nilV H []:=
 ⟨h.st.sub (fun x hx=>by simp only[mem_cons,not_mem_nil,or_false]at hx ⊢;rcases hx with rfl|rfl<;>simp),h.ar,fun x hx=>(by cases hx),fun W' hW=>⟨.nils,.nils⟩,h1,h2⟩
theorem rest_set(h:mG G w dk V0 l ab sb pb cap cur p A wr a H){j:Nat}{u:Value}{v:V}{q:Value}(hr:Rel wr (A0 H wr) [] v q)(hn:v.names=[]):Rel (wr.setCell ⟨ab,j,none⟩ u) (A0 H (wr.setCell ⟨ab,j,none⟩ u)) [] v q:=
 h.st.keep hr hn fun k n hk hz=>⟨hz,Below.heap_setCell _ _ _ _ fun e=>by have:=(h.st.own ab A 48 mem_cons_self).2.1;have e:k=ab:=e;rw[<-e,hz]at this;cases this⟩
theorem rest_quiet(h:mG G w dk V0 l ab sb pb cap cur p A wr a H){W:World}(hb:Below wr.heap.size wr W){v:V}{q:Value}(hr:Rel wr (A0 H wr) [] v q)(hn:v.names=[]):Rel W (A0 H W) [] v q:=
 h.st.keep hr hn fun k n hk hz=>⟨hz,hb.block k (h.st.deck.lt k (by rw[hz];simp))⟩
theorem m_set0(h:mG G w dk V0 l ab sb pb cap cur p A wr a H)(h0:0<p.length)(x:Int) :
  (∃q,wr.cell? ⟨pb,0,none⟩=some (.int .i64 q))/\wr.frozen? ⟨pb,0,none⟩=false/\mG G w dk V0 l ab sb pb cap (cur.setIfInBounds 0 (.int .i64 x)) (p.set 0 x) A (wr.setCell ⟨pb,0,none⟩ (.int .i64 x)) a H:=by
 have hm:(pb,cur,(3:TypeId))∈[(ab,A,(48:TypeId)),(sb,#[.bool false,.slice (some ⟨pb,0,none⟩) p.length cap],63),(pb,cur,3),(w.heap.size,zAttr,48)]:=by simp
 obtain⟨q,ps,rfl⟩:∃q ps,p=q::ps:=by
  cases p with|nil=>simp at h0|cons q ps=>exact⟨q,ps,rfl⟩
 have hc:cur[0]?=some (.int .i64 q):=by
  have:=h.row.row;have h1:(cur.toList.take (q::ps).length)[0]?=some (.int .i64 q):=by rw[this];rfl
  rw[List.getElem?_take,if_pos (by simp)]at h1;simpa using h1
 refine⟨⟨q,h.st.cell hm hc⟩,h.st.frozen hm,⟨?_,h.dk,⟨by rw[length_set];exact h.row.le,h.row.max,by rw[Array.size_setIfInBounds];exact h.row.size,?_⟩,by rw[length_set];exact h.len,h.sp,h.sa,h.sr,h.pa,h.pr,h.ar⟩⟩;rw[length_set];exact h.st.set hm rfl fun y hy=>by simp only[mem_cons,not_mem_nil,or_false]at hy;rcases hy with rfl|rfl|rfl|rfl;exact .inr ⟨by simp,fun e=>h.pa e.symm⟩;exact .inr ⟨by simp,h.sp⟩;exact .inl rfl;exact .inr ⟨by simp,fun e=>h.pr e.symm⟩
 rw[length_set,Array.toList_setIfInBounds,List.take_set,h.row.row];rfl
theorem rest_set2{b' j:Nat}{A':Array Value}{t':TypeId}(h:mG G w dk V0 l ab sb pb cap cur p A wr a H)(hm:(b',A',t')∈[(ab,A,(48:TypeId)),(sb,#[.bool false,.slice (some ⟨pb,0,none⟩) p.length cap],63),(pb,cur,3),(w.heap.size,zAttr,48)]){u:Value}{v:V}{q:Value}(hr:Rel wr (A0 H wr) [] v q)(hn:v.names=[]):Rel (wr.setCell ⟨b',j,none⟩ u) (A0 H (wr.setCell ⟨b',j,none⟩ u)) [] v q:=
 h.st.keep hr hn fun k n hk hz=>⟨hz,Below.heap_setCell _ _ _ _ fun e=>by have:=(h.st.own b' A' t' hm).2.1;have e:k=b':=e;rw[<-e,hz]at this;cases this⟩
theorem rest_port(h:mG G w dk V0 l ab sb pb cap cur p (aCells o pv b hi lo m r c cm lg ot) wr a H)(b':Bool)(hi' lo':Int){v:V}{q:Value}(hr:Rel wr (A0 H wr) [] v q)(hn:v.names=[]) :
  Rel (((wr.setCell ⟨ab,2,none⟩ (.bool b')).setCell ⟨ab,3,none⟩ (.int .u64 hi')).setCell ⟨ab,4,none⟩ (.int .u64 lo')) (A0 H (((wr.setCell ⟨ab,2,none⟩ (.bool b')).setCell ⟨ab,3,none⟩ (.int .u64 hi')).setCell ⟨ab,4,none⟩ (.int .u64 lo'))) [] v q:=
 rest_set ((h.set (A':=aCells o pv b' hi lo m r c cm lg ot) rfl).set (A':=aCells o pv b' hi' lo m r c cm lg ot) rfl) (rest_set (h.set (A':=aCells o pv b' hi lo m r c cm lg ot) rfl) (rest_set h hr hn) hn) hn
end
section
variable{o m r asn a a' v:Int}{p:List Int}{c:List (Int×Int)}{g:List (Int×Int×Int)}{v6:Bool}{l:List Int}
theorem sw0(h:nx (l,a) 300=(v,l,a')):swD o p m r c g asn v6 (0,l,a)=((o,[(false,p)],portD asn v6,m,r,1+v,c,g,[]),l,a'):=by simp[swD,h]
theorem sw1:swD o p m r c g asn v6 (1,l,a)=((o,[(false,p.set 0 103)],portD asn v6,m,r,-1,c,g,[]),l,a):=by simp[swD]
theorem sw2:swD o p m r c g asn v6 (2,l,a)=((o,[(false,p),(true,[7,9])],portD asn v6,m,r,-1,c,g,[]),l,a):=by simp[swD]
theorem sw3:swD o p m r c g asn v6 (3,l,a)=((o,[(false,p++[99])],portD asn v6,m,r,-1,c,g,[]),l,a):=by simp[swD]
theorem sw4:swD o p m r c g asn v6 (4,l,a)=((o,[(false,p)],portD 104 v6,m,r,-1,c,g,[]),l,a):=by simp[swD]
theorem sw5:swD o p m r c g asn v6 (5,l,a)=((o,[(false,p++[64512,701])],portD asn v6,m,r,-1,c,g,[]),l,a):=by simp[swD]
theorem sw6:swD o p m r c g asn v6 (6,l,a)=((o,[],portD asn v6,m,r,-1,c,g,[]),l,a):=by simp[swD]
theorem sw7(h:nx (l,a) 256=(v,l,a')):swD o p m r c g asn v6 (7,l,a)=((o,[(false,p)],portD asn v6,m,r,-1,c,g,[(224,99,[1,v])]),l,a'):=by simp[swD,h]
theorem swE{s:Int}(h0:s≠0)(h1:s≠1)(h2:s≠2)(h3:s≠3)(h4:s≠4)(h5:s≠5)(h6:s≠6)(h7:s≠7):swD o p m r c g asn v6 (s,l,a)=((o,[(false,p)],portD asn v6,m,r,-1,c,g,[]),l,a):=by simp[swD,h0,h1,h2,h3,h4,h5,h6,h7]
end
section
variable{G H:Gh}{w wr:World}{dk ab sb pb cap:Nat}{V0 cw lw:V}{l p:List Int}{cur A:Array Value}{a o m r c hi lo:Int}{b:Bool}{cm lg ot pv:Value}
theorem sw_oth{P:Bool×Int×Int}(h:mG G w dk V0 l ab sb pb cap cur p (aCells o (.slice (some ⟨sb,0,none⟩) 1 1) P.1 P.2.1 P.2.2 m r c cm lg nilV) wr a H)(h0:0<p.length)(h1:Rel wr (A0 H wr) [] cw cm)(h2:Rel wr (A0 H wr) [] lw lg)(n1:cw.names=[])(n2:lw.names=[])(v:Int) :
  SwInv G w dk V0 ab o m r cm lg cw lw (((wr.alloc (.cells #[.int .u8 1,.int .u8 v] 5)).alloc (.cells #[.int .i64 224,.int .i64 99,.slice (some ⟨wr.heap.size,0,none⟩) 2 2] 71)).setCell ⟨ab,10,none⟩ (.slice (some ⟨wr.heap.size+1,0,none⟩) 1 1)) a [(false,p)] P c [(224,99,[1,v])] (.slice (some ⟨sb,0,none⟩) 1 1) (.slice (some ⟨wr.heap.size+1,0,none⟩) 1 1) H
   [(sb,#[.bool false,.slice (some ⟨pb,0,none⟩) p.length cap],63),(pb,cur,3),(wr.heap.size+1,#[.int .i64 224,.int .i64 99,.slice (some ⟨wr.heap.size,0,none⟩) 2 2],71),(wr.heap.size,#[.int .u8 1,.int .u8 v],5)]:=by
 have l1:=h.st.lt (b:=ab) (cs:=aCells o (.slice (some ⟨sb,0,none⟩) 1 1) P.1 P.2.1 P.2.2 m r c cm lg nilV) (t:=48) (by simp);have l2:=h.st.lt (b:=w.heap.size) (cs:=zAttr) (t:=48) (by simp);have q1:=(h.st.alloc #[.int .u8 1,.int .u8 v] 5).alloc #[.int .i64 224,.int .i64 99,.slice (some ⟨wr.heap.size,0,none⟩) 2 2] 71;rw[sized']at q1;have hz:=(h.st.own ab _ 48 mem_cons_self).2.1;have hk:∀k n,k≠dk->H.Z k=.st n->H.Z k=.st n/\(((wr.alloc (.cells #[.int .u8 1,.int .u8 v] 5)).alloc (.cells #[.int .i64 224,.int .i64 99,.slice (some ⟨wr.heap.size,0,none⟩) 2 2] 71)).setCell ⟨ab,10,none⟩ (.slice (some ⟨wr.heap.size+1,0,none⟩) 1 1)).heap[k]?=wr.heap[k]?:=fun k n _ q=>by have hlt:=h.st.deck.lt k (by rw[q];simp);refine⟨q,?_⟩;rw[Below.heap_setCell _ _ _ _ (fun e=>by have e:k=ab:=e;rw[e,hz]at q;cases q),Go.heap_alloc_old _ _ (by rw[sized'];omega),Go.heap_alloc_old _ _ hlt]
 refine⟨q1.set (b:=ab) (j:=10) (t:=48) (cs:=aCells o (.slice (some ⟨sb,0,none⟩) 1 1) P.1 P.2.1 P.2.2 m r c cm lg nilV) (ds:=aCells o (.slice (some ⟨sb,0,none⟩) 1 1) P.1 P.2.1 P.2.2 m r c cm lg (.slice (some ⟨wr.heap.size+1,0,none⟩) 1 1)) (by simp) rfl fun x hx=>?_,h.ar,fun x hx=>?_,fun W' hW=>⟨path_one (sb:=sb) (b:=pb) (cap:=cap) (cur:=cur) hW (by simp) (by simp) h.row h0,?_⟩,h.st.keep h1 n1 hk,h.st.keep h2 n2 hk⟩;simp only[mem_cons,not_mem_nil,or_false]at hx;rcases hx with rfl|rfl|rfl|rfl|rfl|rfl;exact .inl rfl;exact .inr ⟨by simp,fun e=>h.ar e.symm⟩;exact .inr ⟨by simp,h.sa⟩;exact .inr ⟨by simp,h.pa⟩;exact .inr ⟨by simp,by show wr.heap.size+1≠ab;omega⟩;exact .inr ⟨by simp,by show wr.heap.size≠ab;omega⟩;simp only[mem_cons,not_mem_nil,or_false]at hx;rcases hx with rfl|rfl|rfl|rfl;exact h.sr;exact h.pr;show wr.heap.size+1≠_;omega;show wr.heap.size≠_;omega
 have hd:=row_rel hW (b:=wr.heap.size) (cs:=#[.int .u8 1,.int .u8 v]) (t:=5) (n:=2) (cap:=2) (z:=1) (by simp) (xs:=[.int .u8 1,.int .u8 v]) (ws:=[.int .u8 1,.int .u8 v]) (by decide) rfl (Nat.le_refl _) (by decide) (by simp) rfl (.cons _ _ _ _ (.int _ _) (.cons _ _ _ _ (.int _ _) .nil)) rfl;exact row_rel hW (b:=wr.heap.size+1) (cs:=#[.int .i64 224,.int .i64 99,.slice (some ⟨wr.heap.size,0,none⟩) 2 2]) (t:=71) (n:=1) (cap:=1) (z:=3) (by simp) (xs:=[.int .i64 224,.int .i64 99,.slice (some ⟨wr.heap.size,0,none⟩) 2 2]) (ws:=[.int .i64 224,.int .i64 99,.sl .none 1 2 [.int .u8 1,.int .u8 v]]) (by decide) rfl (Nat.le_refl _) (by decide) (by simp) rfl (.cons _ _ _ _ (.int _ _) (.cons _ _ _ _ (.int _ _) (.cons _ _ _ _ hd .nil))) rfl
end
section
variable{G H:Gh}{w wr:World}{dk ab sb pb cap:Nat}{V0 cw lw:V}{l p:List Int}{cur A:Array Value}{a o m r c hi lo:Int}{b:Bool}{cm lg ot pv:Value}
structure TwoSeg(G:Gh)(w:World)(dk:Nat)(V0:V)(ab pb nb cap:Nat)(cur:Array Value)(p:List Int)(A:Array Value)(wr W:World)(a:Int)(H:Gh)(s2 cap2:Nat)(cs:Array Value):Prop where
 st:AS G w dk V0 W a [(ab,A,48),(s2,cs,63),(pb,cur,3),(nb,#[.int .i64 7,.int .i64 9],3),(w.heap.size,zAttr,48)] H
 le:2<=cap2
 max:cap2<=maxLen
 size:cs.size=cap2*2
 row:cs.toList.take 4=[.bool false,.slice (some ⟨pb,0,none⟩) p.length cap,.bool true,.slice (some ⟨nb,0,none⟩) 2 2]
 sa:s2≠ab
 sr:s2≠w.heap.size
 na:nb≠ab
 nr:nb≠w.heap.size
 same:∀k n,k≠dk->H.Z k=.st n->W.heap[k]?=wr.heap[k]?
theorem push_seg(h:mG G w dk V0 l ab sb pb cap cur p A wr a H)(ty:TypeId):∃v' W',(Builtin.append_ #[43,43] ty #[.slice (some ⟨sb,0,none⟩) 1 1,.slice (some ⟨wr.heap.size+1,0,none⟩) 1 1]).run Tryd.prog ((wr.alloc (.cells #[.int .i64 7,.int .i64 9] 3)).alloc (.cells #[.bool true,.slice (some ⟨wr.heap.size,0,none⟩) 2 2] 63))=.ok v' W'/\
  ∃s2 cap2 cs,v'=.slice (some ⟨s2,0,none⟩) 2 cap2/\TwoSeg G w dk V0 ab pb wr.heap.size cap cur p A wr W' a H s2 cap2 cs:=by
 obtain⟨i0,hi0,hz0,hzs,hzb⟩:=info_parts info_e;have l1:=h.st.lt (b:=ab) (cs:=A) (t:=48) (by simp);have l2:=h.st.lt (b:=w.heap.size) (cs:=zAttr) (t:=48) (by simp);have l3:=h.st.lt (b:=sb) (cs:=#[.bool false,.slice (some ⟨pb,0,none⟩) p.length cap]) (t:=63) (by simp);have l4:=h.st.lt (b:=pb) (cs:=cur) (t:=3) (by simp);have q1:=(h.st.alloc #[.int .i64 7,.int .i64 9] 3).alloc #[.bool true,.slice (some ⟨wr.heap.size,0,none⟩) 2 2] 63;have hsz:wr.heap.size+1=(wr.alloc (.cells #[.int .i64 7,.int .i64 9] 3)).heap.size:=(Array.size_push _).symm;rw[hsz];generalize hW2:(wr.alloc (.cells #[.int .i64 7,.int .i64 9] 3)).alloc (.cells #[.bool true,.slice (some ⟨wr.heap.size,0,none⟩) 2 2] 63)=W2 at q1;have hnew:W2.heap[(wr.alloc (.cells #[.int .i64 7,.int .i64 9] 3)).heap.size]?=some (.cells #[.bool true,.slice (some ⟨wr.heap.size,0,none⟩) 2 2] 63 (0,0)):=by rw[<-hW2];exact heap_alloc_new _ _
 have hs2:W2.heap.size=wr.heap.size+2:=by rw[<-hW2,sized',sized']
 have hold:∀k,k<wr.heap.size->W2.heap[k]?=wr.heap[k]?:=fun k hk=>by rw[<-hW2,Go.heap_alloc_old _ _ (by rw[sized'];omega),Go.heap_alloc_old _ _ hk]
 obtain⟨k1,_,k3,_⟩:=q1.own sb #[.bool false,.slice (some ⟨pb,0,none⟩) p.length cap] 63 (by simp);obtain⟨v',W',e1,e2,e3,e4,e5⟩:=run_append_own_at (P:=Tryd.prog) W2 w.heap.size 43 ty 63 i0 (.agg #[.bool false,.slice none 0 0]) 2 32 Tryd.underlying43 hi0 hz0 hzs hzb rfl (by decide) (.slice (some ⟨sb,0,none⟩) 1 1) 1 [.bool false,.slice (some ⟨pb,0,none⟩) p.length cap]
  ⟨rfl,.inr ⟨sb,1,_,rfl,k3,k1,Nat.le_refl _,by decide,rfl,rfl⟩⟩ ⟨(wr.alloc (.cells #[.int .i64 7,.int .i64 9] 3)).heap.size,0,none⟩ 1 1 [.bool true,.slice (some ⟨wr.heap.size,0,none⟩) 2 2] rfl (fun j u hj=>by
   rw[Addr.add_lit,zero_add];simp only[World.cell?,hnew];simpa using hj) (fun u hu=>by
   simp only[mem_cons,not_mem_nil,or_false]at hu;rcases hu with rfl|rfl<;>rfl) (by unfold maxLen;omega) (by omega) q1.deck.size
 rcases e2.2 with⟨q,_⟩|⟨s2,cap2,cs,rfl,g1,g2,g3,g4,g5,g6⟩;have:=(e4.1 q).1;cases this
 · have hb : s2 = sb ∨ s2 = W2.heap.size := by
     rcases e5 with e5|e5;exact .inl (Option.some.inj e5);exact .inr (Option.some.inj e5)
   have q2:=(q1.sub (L':=[(sb,#[.bool false,.slice (some ⟨pb,0,none⟩) p.length cap],63),(ab,A,48),(pb,cur,3),(wr.heap.size,#[.int .i64 7,.int .i64 9],3),(w.heap.size,zAttr,48)]) (fun x hx=>by
    simp only[mem_cons,not_mem_nil,or_false]at hx ⊢;rcases hx with rfl|rfl|rfl|rfl|rfl<;>simp)).app e3 g2 hb (fun x hx=>by
    simp only[mem_cons,not_mem_nil,or_false]at hx;rcases hx with rfl|rfl|rfl|rfl;exact fun e=>h.sa e.symm
    exact fun e=>h.sp e.symm
    show wr.heap.size≠sb;omega;exact fun e=>h.sr e.symm)
   refine⟨_,W',e1,s2,cap2,cs,rfl,⟨q2.sub (fun x hx=>by simp only[mem_cons,not_mem_nil,or_false]at hx ⊢;rcases hx with rfl|rfl|rfl|rfl|rfl<;>simp),g3,g4,g5,g6,?_,?_,by omega,by omega,fun k n hk hz=>?_⟩⟩
   rcases hb with rfl|rfl;exact h.sa;omega;rcases hb with rfl|rfl;exact h.sr;omega;have hlt:=h.st.deck.lt k (by rw[hz];simp);rw[e3.block k (by omega) (fun e=>by have e:k=sb:=Option.some.inj e;have:=(h.st.own sb #[.bool false,.slice (some ⟨pb,0,none⟩) p.length cap] 63 (by simp)).2.1;rw[<-e,hz]at this;cases this),hold k hlt]
theorem sw_two{P:Bool×Int×Int}(h:mG G w dk V0 l ab sb pb cap cur p (aCells o (.slice (some ⟨sb,0,none⟩) 1 1) P.1 P.2.1 P.2.2 m r c cm lg nilV) wr a H)(h0:0<p.length){W:World}{s2 cap2:Nat}{cs:Array Value}(t:TwoSeg G w dk V0 ab pb wr.heap.size cap cur p (aCells o (.slice (some ⟨sb,0,none⟩) 1 1) P.1 P.2.1 P.2.2 m r c cm lg nilV) wr W a H s2 cap2 cs)
  (h1:Rel wr (A0 H wr) [] cw cm) (h2:Rel wr (A0 H wr) [] lw lg) (n1:cw.names=[]) (n2:lw.names=[]) :
  SwInv G w dk V0 ab o m r cm lg cw lw (W.setCell ⟨ab,1,none⟩ (.slice (some ⟨s2,0,none⟩) 2 cap2)) a [(false,p),(true,[7,9])] P c [] (.slice (some ⟨s2,0,none⟩) 2 cap2) nilV H [(s2,cs,63),(pb,cur,3),(wr.heap.size,#[.int .i64 7,.int .i64 9],3)]:=by
 have hz:=(h.st.own ab _ 48 mem_cons_self).2.1;have hk:∀k n,k≠dk->H.Z k=.st n->H.Z k=.st n/\(W.setCell ⟨ab,1,none⟩ (.slice (some ⟨s2,0,none⟩) 2 cap2)).heap[k]?=wr.heap[k]?:=fun k n hk q=>by refine⟨q,?_⟩;rw[Below.heap_setCell _ _ _ _ (fun e=>by have e:k=ab:=e;rw[e,hz]at q;cases q)];exact t.same k n hk q
 refine⟨t.st.set (b:=ab) (j:=1) (t:=48) (cs:=aCells o (.slice (some ⟨sb,0,none⟩) 1 1) P.1 P.2.1 P.2.2 m r c cm lg nilV) (ds:=aCells o (.slice (some ⟨s2,0,none⟩) 2 cap2) P.1 P.2.1 P.2.2 m r c cm lg nilV) (by simp) rfl fun x hx=>?_,h.ar,fun x hx=>?_,fun W' hW=>⟨?_,.nils⟩,h.st.keep h1 n1 hk,h.st.keep h2 n2 hk⟩;simp only[mem_cons,not_mem_nil,or_false]at hx;rcases hx with rfl|rfl|rfl|rfl|rfl;exact .inl rfl;exact .inr ⟨by simp,fun e=>h.ar e.symm⟩;exact .inr ⟨by simp,t.sa⟩;exact .inr ⟨by simp,h.pa⟩;exact .inr ⟨by simp,t.na⟩;simp only[mem_cons,not_mem_nil,or_false]at hx;rcases hx with rfl|rfl|rfl;exact t.sr;exact h.pr;exact t.nr;have hd:=row_rel hW (b:=wr.heap.size) (cs:=#[.int .i64 7,.int .i64 9]) (t:=3) (n:=2) (cap:=2) (z:=1) (by simp) (xs:=[.int .i64 7,.int .i64 9]) (ws:=[.int .i64 7,.int .i64 9]) (by decide) rfl (Nat.le_refl _) (by decide) (by simp) rfl (.cons _ _ _ _ (.int _ _) (.cons _ _ _ _ (.int _ _) .nil)) rfl;exact row_rel hW (b:=s2) (cs:=cs) (t:=63) (n:=2) (cap:=cap2) (z:=2) (by simp) (xs:=[.bool false,.slice (some ⟨pb,0,none⟩) p.length cap,.bool true,.slice (some ⟨wr.heap.size,0,none⟩) 2 2]) (by decide) rfl t.le t.max (by have:=t.size;have:=t.le;simp;omega) t.row (.cons _ _ _ _ (.bool _) (.cons _ _ _ _ (ints_row hW (by simp) h.row h0) (.cons _ _ _ _ (.bool _) (.cons _ _ _ _ hd .nil)))) (segsV_names [(false,p),(true,[7,9])])
end
section
variable{G H:Gh}{w wr:World}{dk ab sb pb cap:Nat}{V0 cw lw:V}{l p:List Int}{cur A:Array Value}{a o m r c hi lo:Int}{b:Bool}{cm lg ot pv:Value}
theorem _root_.Go.VM.AS.drew{W:World}{L:List (Nat×Array Value×TypeId)}(h:AS G w dk V0 W a L H):AS G w dk V0 W.drew a L H:=
 ⟨h.deck.move (fun _ _ _=>rfl) (Nat.le_refl _) rfl rfl rfl,fun b cs t hm=>h.own b cs t hm⟩
structure Pushed(G:Gh)(w:World)(dk:Nat)(V0:V)(ab sb pb cap:Nat)(p xs:List Int)(A:Array Value)(wr W:World)(a:Int)(H:Gh)(b2 cap2:Nat)(cs:Array Value):Prop where
 st:AS G w dk V0 W a [(sb,#[.bool false,.slice (some ⟨pb,0,none⟩) p.length cap],63),(b2,cs,3),(ab,A,48),(w.heap.size,zAttr,48)] H
 row:PRow cs cap2 (p++xs)
 sa:sb≠ab
 sr:sb≠w.heap.size
 sp:b2≠sb
 pr:b2≠w.heap.size
 same:∀k n,k≠dk->H.Z k=.st n->W.heap[k]?=wr.heap[k]?
theorem push_num(h:mG G w dk V0 l ab sb pb cap cur p A wr a H)(xs:List Int)(hx:xs.length<=1000){n:Nat}(hn:xs.length=n){ds:Array Value}(hd:ds=(intC xs).toArray)(ty:TypeId):∃v' W',(Builtin.append_ #[22,22] ty #[.slice (some ⟨pb,0,none⟩) p.length cap,.slice (some ⟨wr.heap.size,0,none⟩) n n]).run Tryd.prog (wr.alloc (.cells ds 3)).drew=.ok v' W'/\
  ∃b2 cap2 cs,v'=.slice (some ⟨b2,0,none⟩) (p.length+n) cap2/\Pushed G w dk V0 ab sb pb cap p xs A wr W' a H b2 cap2 cs:=by
 subst hd;have l1:=h.st.lt (b:=ab) (cs:=A) (t:=48) (by simp);have l2:=h.st.lt (b:=w.heap.size) (cs:=zAttr) (t:=48) (by simp);have l3:=h.st.lt (b:=sb) (cs:=#[.bool false,.slice (some ⟨pb,0,none⟩) p.length cap]) (t:=63) (by simp);have q1:=((h.st.alloc (intC xs).toArray 3).drew).sub (L':=[(pb,cur,3),(ab,A,48),(sb,#[.bool false,.slice (some ⟨pb,0,none⟩) p.length cap],63),(w.heap.size,zAttr,48)]) (fun x hx=>by simp only[mem_cons,not_mem_nil,or_false]at hx ⊢;rcases hx with rfl|rfl|rfl|rfl<;>simp)
 obtain⟨v',W',e1,b2,cap2,cs,e2,q2,q3,q4,q5⟩:=q1.push h.row (by have:=h.len;omega) (fun x hx=>by
  simp only[mem_cons,not_mem_nil,or_false]at hx;rcases hx with rfl|rfl|rfl;exact fun e=>h.pa e.symm
  exact h.sp;exact fun e=>h.pr e.symm) xs hx ⟨wr.heap.size,0,none⟩ n n hn (fun j u hj=>by
  rw[Addr.add_lit,zero_add];show(wr.alloc (.cells (intC xs).toArray 3)).cell? ⟨wr.heap.size,j,none⟩=_;simp only[World.cell?,heap_alloc_new];simpa using hj) ty
 have hsz:(wr.alloc (.cells (intC xs).toArray 3)).drew.heap.size=wr.heap.size+1:=sized' _ _;refine⟨v',W',e1,b2,cap2,cs,e2,⟨q2.sub (fun x hx=>by simp only[mem_cons,not_mem_nil,or_false]at hx ⊢;rcases hx with rfl|rfl|rfl|rfl<;>simp),q3,h.sa,h.sr,?_,?_,fun k n hk hz=>?_⟩⟩
 rcases q4 with rfl|rfl;exact fun e=>h.sp e.symm
 rw[hsz];omega;rcases q4 with rfl|rfl;exact h.pr;rw[hsz];omega;have hlt:=h.st.deck.lt k (by rw[hz];simp);rw[q5.block k (by rw[hsz];omega) (fun e=>by have e:k=pb:=Option.some.inj e;have:=(h.st.own pb cur 3 (by simp)).2.1;rw[<-e,hz]at this;cases this)]
 exact Go.heap_alloc_old _ _ hlt
theorem sw_push{P:Bool×Int×Int}{xs:List Int}(h:mG G w dk V0 l ab sb pb cap cur p (aCells o (.slice (some ⟨sb,0,none⟩) 1 1) P.1 P.2.1 P.2.2 m r c cm lg nilV) wr a H)(h0:0<p.length){W:World}{b2 cap2 n:Nat}{cs:Array Value}(hn:xs.length=n)
  (t:Pushed G w dk V0 ab sb pb cap p xs (aCells o (.slice (some ⟨sb,0,none⟩) 1 1) P.1 P.2.1 P.2.2 m r c cm lg nilV) wr W a H b2 cap2 cs)
  (h1:Rel wr (A0 H wr) [] cw cm) (h2:Rel wr (A0 H wr) [] lw lg) (n1:cw.names=[]) (n2:lw.names=[]) :
  SwInv G w dk V0 ab o m r cm lg cw lw (W.setCell ⟨sb,1,none⟩ (.slice (some ⟨b2,0,none⟩) (p.length+n) cap2)) a [(false,p++xs)] P c [] (.slice (some ⟨sb,0,none⟩) 1 1) nilV H [(sb,#[.bool false,.slice (some ⟨b2,0,none⟩) (p++xs).length cap2],63),(b2,cs,3)]:=by
 have e:(p++xs).length=p.length+n:=by rw[length_append,hn]
 rw[e];have hz:=(t.st.own sb _ 63 mem_cons_self).2.1;have hk:∀k n',k≠dk->H.Z k=.st n'->H.Z k=.st n'/\(W.setCell ⟨sb,1,none⟩ (.slice (some ⟨b2,0,none⟩) (p.length+n) cap2)).heap[k]?=wr.heap[k]?:=fun k n' hk q=>by refine⟨q,?_⟩;rw[Below.heap_setCell _ _ _ _ (fun e=>by have e:k=sb:=e;rw[e,hz]at q;cases q)];exact t.same k n' hk q
 refine⟨t.st.set (b:=sb) (j:=1) (t:=63) (cs:=#[.bool false,.slice (some ⟨pb,0,none⟩) p.length cap]) (ds:=#[.bool false,.slice (some ⟨b2,0,none⟩) (p.length+n) cap2]) (by simp) rfl fun x hx=>?_,h.ar,fun x hx=>?_,fun W' hW=>⟨?_,.nils⟩,h.st.keep h1 n1 hk,h.st.keep h2 n2 hk⟩;simp only[mem_cons,not_mem_nil,or_false]at hx;rcases hx with rfl|rfl|rfl|rfl;exact .inr ⟨by simp,fun e=>t.sa e.symm⟩;exact .inr ⟨by simp,fun e=>t.sr e.symm⟩;exact .inl rfl;exact .inr ⟨by simp,t.sp⟩;simp only[mem_cons,not_mem_nil,or_false]at hx;rcases hx with rfl|rfl;exact t.sr;exact t.pr;rw[<-e]at hW;exact path_one (sb:=sb) (b:=b2) (cap:=cap2) (cur:=cs) hW (by simp) (by simp) t.row (by rw[e];omega)
end
noncomputable def cposD(d:Dk)(asn:Int):Int:=(optD (optD (preD d asn).2.2 3 3).2 6 300).2.2
noncomputable def lposD(d:Dk)(asn:Int):Int:=(commD (optD (optD (preD d asn).2.2 3 3).2 6 300).2).2.2
noncomputable def enAttrs(V0:V)(x:Dk×Int×Bool)(r:Attrs):List V:=[.agg [.int .i64 r.1,pathW r.2.1,.bool r.2.2.1.1,.int .u64 r.2.2.1.2.1,.int .u64 r.2.2.1.2.2,.int .i64 r.2.2.2.1,.int .i64 r.2.2.2.2.1,.int .i64 r.2.2.2.2.2.1,commW V0 (cposD x.1 x.2.1),largeW V0 (lposD x.1 x.2.1),otherW (aOther r)]]
theorem attrs_facts{l p:List Int}{o asn a0 a1 a2 a a7 a9 a10 a11 a12 a' m rr sv:Int}{kk:Nat}{xc:List (Int×Int)}{xl:List (Int×Int×Int)}{v6:Bool}{R:Attrs}(N1:nx (l,a0) 3=(o,l,a1))(N2:nx (l,a1) 4=((kk:Int),l,a2))(I5:pathD asn 0 p (l,a)=pathD asn kk [asn] (l,a2))(O7:optD (l,a) 3 3=(m,l,a7))(O9:optD (l,a7) 6 300=(rr,l,a9))
  (N10:commD (l,a9)=(xc,l,a10)) (N11:largeD (l,a10)=(xl,l,a11)) (N12:nx (l,a11) 24=(sv,l,a12)) (E1:swD o p m rr xc xl asn v6 (sv,l,a12)=(R,l,a')):attrsD (l,a0) asn v6=(R,l,a')/\cposD (l,a0) asn=a9/\lposD (l,a0) asn=a10:=by
 have hpre:preD (l,a0) asn=(o,p,(l,a)):=by unfold preD;rw[N1];simp only;rw[N2];simp only[Int.toNat_natCast];rw[<-I5];rfl
 refine⟨?_,?_,?_⟩;unfold attrsD;simp only[hpre,O7,O9,N10,N11,N12,E1];unfold cposD;simp only[hpre,O7,O9];unfold lposD;simp only[hpre,O7,O9,N10]
section
variable{G H:Gh}{w W Wf:World}{dk ab:Nat}{V0 cw lw:V}{o m r a c:Int}{cm lg pv ot:Value}{path:List Seg}{P:Bool×Int×Int}{other:List Unk}{L:List (Nat×Array Value×TypeId)}
theorem SwInv.shape(h:SwInv G w dk V0 ab o m r cm lg cw lw W a path P c other pv ot H L):(∃x n k,pv=.slice x n k)/\∃x n k,ot=.slice x n k:=by obtain⟨h1,h2⟩:=h.rel W (h.st.sub fun x hx=>mem_cons_of_mem _ (mem_cons_of_mem _ hx));constructor;unfold pathW at h1;split at h1;exact⟨_,_,_,h1.nils_inv⟩;obtain⟨_,_,_,e,_⟩:=h1.sl_inv;exact⟨_,_,_,e⟩;unfold otherW at h2;split at h2;exact⟨_,_,_,h2.nils_inv⟩;obtain⟨_,_,_,e,_⟩:=h2.sl_inv;exact⟨_,_,_,e⟩
theorem SwInv.fin(h:SwInv G w dk V0 ab o m r cm lg cw lw W a path P c other pv ot H L)(hf:∃ds,Wf.heap[w.heap.size]?=some (.cells ds 48 (0,0)))(hb:But w.heap.size W Wf)(n1:cw.names=[])(n2:lw.names=[]) :
  DkIn G w dk V0 H Wf a/\RelL Wf (Adk H w Wf) [] [.agg [.int .i64 o,pathW path,.bool P.1,.int .u64 P.2.1,.int .u64 P.2.2,.int .i64 m,.int .i64 r,.int .i64 c,cw,lw,otherW other]] [.agg (aCells o pv P.1 P.2.1 P.2.2 m r c cm lg ot)]:=by
 obtain⟨ds,hf⟩:=hf;have hA:AS G w dk V0 Wf a L H:=h.st.wr (b:=w.heap.size) (cs:=zAttr) (ds:=ds) (t:=48) (by simp) hf hb.rest hb.size hb.os hb.tape hb.output fun x hx=>.inr ⟨mem_cons_of_mem _ (mem_cons_of_mem _ hx),h.ne x hx⟩
 obtain⟨k1,k2⟩:=h.rel Wf hA;have hz:=(h.st.own w.heap.size zAttr 48 (by simp)).2.1;have hk:∀k n,k≠dk->H.Z k=.st n->H.Z k=.st n/\Wf.heap[k]?=W.heap[k]?:=fun k n _ q=>⟨q,hb.rest k fun e=>by rw[e,hz]at q;cases q⟩
 have r1:=a0_adk hA (h.st.keep h.cmR n1 hk) n1;have r2:=a0_adk hA (h.st.keep h.lgR n2 hk) n2;exact⟨hA.deck,.cons _ _ _ _ (.agg _ _ (.cons _ _ _ _ (.int _ _) (.cons _ _ _ _ k1 (.cons _ _ _ _ (.bool _) (.cons _ _ _ _ (.int _ _) (.cons _ _ _ _ (.int _ _) (.cons _ _ _ _ (.int _ _) (.cons _ _ _ _ (.int _ _) (.cons _ _ _ _ (.int _ _) (.cons _ _ _ _ r1 (.cons _ _ _ _ r2 (.cons _ _ _ _ k2 .nil)))))))))))) .nil⟩
end
end Go.Proofs.YtgfmodmeimhhpaaDoor
