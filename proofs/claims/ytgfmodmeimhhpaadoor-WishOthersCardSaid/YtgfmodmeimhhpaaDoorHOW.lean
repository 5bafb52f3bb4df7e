/- Walked by hand: owned: a copy of a path. -/
import Derived.Test.YtgfmodmeimhhpaaDoorHCL
open List(getElem_set_ne)
namespace Go.Proofs.YtgfmodmeimhhpaaDoor
open Go.RowKit Go.Lib Go.VM
structure OwInv(w0:World)(L:List (Bool×List Int))(us:List Value)(g n c:Nat)(wr:World)(xs:List Value)(kk:Nat):Prop where
 num:n=L.length
 len:xs.length=L.length
 row:wr.ownsRow w0.heap.size 63 2 (.slice (some ⟨g,0,none⟩) n c) n (segC L xs)
 done:∀i (_:i<L.length) (_:i<xs.length),i<kk->wr.ownsRow w0.heap.size 3 1 xs[i] L[i].2.length (intC L[i].2)/\∀k,xs[i].ownBlock=some k->g<k
 todo:∀i (_:i<xs.length) (_:i<us.length),kk<=i->xs[i]=us[i]
 apart:∀i j (_:i<xs.length) (_:j<xs.length),i<kk->j<kk->i≠j->∀k,xs[i].ownBlock=some k->xs[j].ownBlock≠some k
 bel:Below w0.heap.size w0 wr
theorem OwInv.step{w0:World}{L:List (Bool×List Int)}{us:List Value}{g n c:Nat}{wr w2:World}{xs:List Value}{kk:Nat}{u:Value}(h:OwInv w0 L us g n c wr xs kk)(hk:kk<L.length)(hb:Below wr.heap.size wr w2)
  (hu:w2.ownsRow wr.heap.size 3 1 u L[kk].2.length (intC L[kk].2)):OwInv w0 L us g n c (w2.setCell ⟨g,kk*2+1,none⟩ u) (xs.set kk u) (kk+1):=by
 have hgw:g<wr.heap.size:=(World.ownsRow.lt h.row g rfl).2;have hg0:w0.heap.size<=g:=(World.ownsRow.lt h.row g rfl).1;have hgr:wr.grownBy w2 none:=⟨hb.os,hb.tape,hb.output,hb.size,fun k hk _=>hb.block k hk⟩;have hrow:=h.row.kept hgr (.inr (by simp[Value.ownBlock]));obtain⟨s1,s2⟩:=hrow.stored (kk*2+1) u;rw[segC_set u h.len]at s1;have hug:∀k,u.ownBlock=some k->wr.heap.size<=k:=fun k hk=>(World.ownsRow.lt hu k hk).1
 have hne:∀x:Value,x.ownBlock≠some g->x.ownBlock=none\/x.ownBlock≠some g:=fun x hx=>.inr hx
 have hnn:∀x:Value,x.ownBlock=none\/x.ownBlock≠none:=fun x=>Classical.em _
 refine⟨h.num,by simp[h.len],s1,fun i hi hi' hik=>?_,fun i hi hi' hik=>?_,fun i j hi hj hik hjk hij k hk'=>?_,?_⟩
 .have hx:i<xs.length:=by simpa using hi'
  by_cases e:kk=i
  .subst e;rw[List.getElem_set_self];refine⟨(hu.kept s2 (hne _ fun q=>?_)).mono h.bel.size,fun k hk'=>?_⟩
   .have:=hug g q;omega
   .have:=hug k hk';omega
  .rw[getElem_set_ne e];obtain⟨q1,q2⟩:=h.done i hi hx (by omega);refine⟨(q1.kept hgr (hnn _)).kept s2 (hne _ fun q=>?_),q2⟩;have:=q2 g q;omega
 .have hx:i<xs.length:=by simpa using hi
  rw[getElem_set_ne (by omega)];exact h.todo i hx hi' (by omega)
 .have hx:i<xs.length:=by simpa using hi
  have hy:j<xs.length:=by simpa using hj
  have hold:∀q (hq:q<xs.length),q<kk->∀b,u.ownBlock=some b->xs[q].ownBlock≠some b:=fun q hq hqk b hub hqb=>by have:=(World.ownsRow.lt (h.done q (by rw[<-h.len];exact hq) hq hqk).1 b hqb).2;have:=hug b hub;omega
  by_cases e1:kk=i
  .subst e1;rw[List.getElem_set_self]at hk';rw[getElem_set_ne hij];exact hold j hy (by omega) k hk'
  .rw[getElem_set_ne e1]at hk';by_cases e2:kk=j
   .subst e2;rw[List.getElem_set_self];exact fun hub=>hold i hx (by omega) k hub hk'
   .rw[getElem_set_ne e2];exact h.apart i j hx hy (by omega) (by omega) hij k hk'
 .refine(h.bel.trans (hb.mono h.bel.size)).trans ⟨s2.os,s2.tape,s2.output,s2.size,fun k hk'=>s2.block k (Nat.lt_of_lt_of_le hk' (Nat.le_trans h.bel.size hb.size)) (fun e=>by cases e;omega)⟩
theorem OwInv.deep{w0:World}{L:List (Bool×List Int)}{us:List Value}{g n c:Nat}{wr:World}{xs:List Value}(h:OwInv w0 L us g n c wr xs n):Deep wr w0.heap.size (.slice (some ⟨g,0,none⟩) n c) L xs:=by have hn:=h.num;refine⟨h.len,by have:=h.row;rw[<-hn];exact this,fun i hi hi'=>ownG_of (h.done i hi hi' (by omega)).1,fun i j hi hj hij=>h.apart i j hi hj (by have:=h.len;omega) (by have:=h.len;omega) hij,fun i hi k hk e=>?_⟩;have:=(h.done i (by rw[<-h.len];exact hi) hi (by have:=h.len;omega)).2 k hk;have e:some g=some k:=e;cases e;omega
theorem slice_shape{w:World}{base:Nat}{e:TypeId}{z:Nat}{v:Value}{n:Nat}{xs:List Value}(h:w.ownsRow base e z v n xs):∃o m c,v=.slice o m c:=by rcases owns_slice h with⟨h,_⟩|⟨g,c,h⟩<;>exact⟨_,_,_,h⟩
def OwPost(w:World)(a:Option Addr)(L:List (Bool×List Int))(r:Ending)(w':World):Prop:=∃v' vs,r=.returned v'/\Deep w' w.heap.size v' L vs/\(v'=.slice none 0 0↔a=none)/\Below w.heap.size w w'
set_option maxHeartbeats 4000000 in
set_option maxRecDepth 100000 in
theorem owned_ok(L:List (Bool×List Int))(a:Option Addr)(n cap:Nat)(w:World)(hv:HV w (fun b=>b<w.heap.size) (.sl tyS) L (.slice a n cap))(hl:L.length<=100000)(hi:∀p∈L,p.2.length<=100000) :
  Calls Tryd.prog 49 #[.slice a n cap] w (OwPost w a L):=by
 have e73:∀args w,(callFunc 73 args).run Tryd.prog w=.ok (.enter 73 args) w:=fun args w=>by kernel_rfl
 have e74:∀args w,(callFunc 74 args).run Tryd.prog w=.ok (.enter 74 args) w:=fun args w=>by kernel_rfl
 rcases hc_slice (hv_one hv rfl)with⟨h0,q⟩|⟨ad,cap',rows,q,h1,h2,h3,h4,h5⟩
 .cases q;have h0:L=[]:=h0;subst h0;clear hv hl hi
  go_enter Tryd.func49,Tryd.ntmps49
  go_wp2_with (go_at_fn 73;refine(clone_snil 0 0 _).mono ?_;rintro r w1 ⟨rfl,rfl⟩)
  go_loopg [4,5,10] 0 (fun _ _ _ s10 wr=>s10=.int .i64 0/\w=wr)
  case atStart=>exact⟨rfl,rfl⟩
  case round=>
   obtain⟨rfl,rfl⟩:=hrel
   go_wp2
   go_ret
   unfold OwPost;exact⟨_,[],rfl,Deep.nil _ _,⟨fun _=>rfl,fun _=>rfl⟩,Below.refl _ _⟩
 .cases q;obtain⟨us,k1,rfl,k3⟩:=hrows_seg h4;have u23:∀w,Sem.run Tryd.prog (underlying 43) w=.ok (TypeDesc.slice 63) w:=run_underlying Tryd.underlying43;have hone:∀u∈us,u.oneCell'=true:=fun u hu=>by
   obtain⟨i,hi',rfl⟩:=List.mem_iff_getElem.1 hu;rcases hc_slice (k3 i (by rw[<-k1];exact hi') hi')with⟨_,e⟩|⟨_,_,_,e,_⟩<;>rw[e]<;>rfl
  have hcl:=clone_s ad L.length cap (segC L us) w (segC_len k1) (by omega) h3 (segC_one hone);have hst:∀w1 g c1,w1.ownsRow w.heap.size 63 2 (.slice (some ⟨g,0,none⟩) L.length c1) L.length (segC L us)->Below w.heap.size w w1->OwInv w L us g L.length c1 w1 us 0:=fun w1 g c1 ho hb=>⟨rfl,k1,ho,fun i _ _ h=>absurd h (Nat.not_lt_zero _),fun i _ _ _=>rfl,fun i j _ _ h=>absurd h (Nat.not_lt_zero _),hb⟩
  have hrd : ∀ wr g c1 xs kk, OwInv w L us g L.length c1 wr xs kk → (hk : kk < L.length) → ∃ (b : Bool) (o : Option Addr) (m c : Nat), L[kk].1 = b ∧ us[kk]'(by rw [k1]; exact hk) = .slice o m c ∧ wr.cell? ⟨g, kk * 2, none⟩ = some (.bool b) ∧ wr.cell? ⟨g, kk * 2 + 1, none⟩ = some (.slice o m c) ∧
      wr.frozen? ⟨g,kk*2+1,none⟩=false/\g<wr.heap.size:=fun wr g c1 xs kk I hk=>by
   have hx:kk<xs.length:=by rw[I.len];exact hk
   have hu:kk<us.length:=by rw[k1];exact hk
   have e1:=I.row.cellAt (kk*2) (by omega);have e2:=I.row.cellAt (kk*2+1) (by omega);rw[segC_get0 I.len hk]at e1;rw[segC_get1 I.len hx,I.todo kk hx hu (Nat.le_refl _)]at e2;have hsh:∃o m c,us[kk]=Value.slice o m c:=by rcases hc_slice (k3 kk hk hu)with⟨_,e⟩|⟨_,_,_,e,_⟩<;>exact⟨_,_,_,e⟩
   obtain⟨o,m,c,e⟩:=hsh;exact⟨_,o,m,c,rfl,e,e1,by rw[e2,e],I.row.frozenAt _,(World.ownsRow.lt I.row g rfl).2⟩
  have hcall:∀wr g c1 xs kk (W:World),OwInv w L us g L.length c1 wr xs kk->Below wr.heap.size wr W->(hk:kk<L.length)->Calls Tryd.prog 74 #[us[kk]'(by rw[k1];exact hk)] W fun r w'=>∃v',r=.returned v'/\w'.ownsRow W.heap.size 3 1 v' L[kk].2.length (intC L[kk].2)/\Below W.heap.size W w':=fun wr g c1 xs kk W I hb hk=>clone_int (k3 kk hk (by rw[k1];exact hk)) (I.bel.trans (hb.mono I.bel.size)) (by have:=hi _ (List.getElem_mem hk);omega)
  have HS:Aside _:=hst;have HR:Aside _:=hrd;have HP:Aside _:=hcall;clear hst hrd hcall hv hi h4 h5 h3 hone k3
  go_enter Tryd.func49,Tryd.ntmps49
  go_wp2_with (go_at_fn 73;refine hcl.mono ?_;rintro r w1 ⟨v1,rfl,ho,hne,hb0⟩;obtain⟨g,c1,rfl⟩:∃g c,v1=.slice (some ⟨g,0,none⟩) L.length c:=(by rcases ho.2 with⟨q,_⟩|⟨g,c,cur,q,_⟩;exact absurd q hne;exact⟨g,c,q⟩);have HI:=Lib.hid (And.intro ho hb0);clear ho hb0 hne)
  go_loopg [4,5,10] L.length (fun gg _ _ s10 wr=>∃(kk:Nat) (xs:List Value),s10=.int .i64 kk/\kk<=L.length/\L.length-kk<=gg/\Aside (OwInv w L us g L.length c1 wr xs kk))
  case atStart=>exact⟨0,us,rfl,by omega,by omega,HS.out _ _ _ HI.out.1 HI.out.2⟩
  case round=>
   obtain⟨kk,xs,rfl,hkl,hgg,I⟩:=hrel;by_cases hlt:kk<L.length
   .have hltz:(kk:Int)<(L.length:Int):=by omega
    obtain⟨b,o,m,c,eb,eu,l0,l1,l2,hgr⟩:=HR.out wr g c1 xs kk I.out hlt;have hcl2:=HP.out wr g c1 xs kk (wr.alloc (.cells #[.bool b,.slice o m c] 63)) I.out ((Below.refl _ _).alloc (Nat.le_refl _) _) hlt;rw[eu]at hcl2;have HC:Aside (∀w2,Below (wr.alloc (.cells #[.bool b,.slice o m c] 63)).heap.size (wr.alloc (.cells #[.bool b,.slice o m c] 63)) w2->w2.cell? ⟨g,kk*2+1,none⟩=some (.slice o m c)/\w2.frozen? ⟨g,kk*2+1,none⟩=false):=fun w2 hb=>by
     have hsz:(wr.alloc (.cells #[.bool b,.slice o m c] 63)).heap.size=wr.heap.size+1:=Array.size_push _;exact⟨by rw[hb.cell (p:=⟨g,kk*2+1,none⟩) (by rw[hsz];exact Nat.lt_succ_of_lt hgr),World.cell?_of_block (a:=⟨g,kk*2+1,none⟩) (Go.heap_alloc_old wr _ hgr)];exact l1,
      by rw[hb.frozen (p:=⟨g,kk*2+1,none⟩) (by rw[hsz];exact Nat.lt_succ_of_lt hgr),World.frozen?_of_block (a:=⟨g,kk*2+1,none⟩) (Go.heap_alloc_old wr _ hgr)];exact l2⟩
    have HB:Aside (eb=eb/\Below wr.heap.size wr (wr.alloc (.cells #[.bool b,.slice o m c] 63))):=⟨rfl,(Below.refl _ _).alloc (Nat.le_refl _) _⟩;clear eu l2
    go_wp2_with (go_at_fn 74;refine hcl2.mono ?_;rintro r w2 ⟨v2,rfl,ho,hb⟩;obtain⟨o2,m2,c2,rfl⟩:=slice_shape ho;obtain⟨p1,p2⟩:=HC.out w2 hb;have K:=Lib.hid (And.intro ho hb);clear ho hb)
    go_roundg (L.length-(kk+1))
    case measure=>omega
    case rel=>refine⟨kk+1,xs.set kk (.slice o2 m2 c2),by go_num,by omega,Nat.le_refl _,(show Aside _ from ?_)⟩;exact I.out.step hlt (HB.out.2.trans (K.out.2.mono HB.out.2.size)) (K.out.1.mono HB.out.2.size)
   .obtain rfl:kk=L.length:=by omega
    have hltz:¬(L.length:Int)<(L.length:Int):=by omega
    go_wp2
    go_ret
    unfold OwPost;exact⟨_,xs,rfl,I.out.deep,⟨(fun h=>by cases h),(fun h=>by cases h)⟩,I.out.bel⟩
end Go.Proofs.YtgfmodmeimhhpaaDoor
