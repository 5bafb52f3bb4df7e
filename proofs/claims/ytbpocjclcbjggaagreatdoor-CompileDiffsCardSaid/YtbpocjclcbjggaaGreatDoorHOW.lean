/- Walked by hand: member.owned. -/
import Derived.Test.YtbpocjclcbjggaaGreatDoorHSO
namespace Go.Proofs.YtbpocjclcbjggaaGreatDoor
open Go.RowKit Go.Lib Go.VM
def portsC:List PortT->List Value->List Value
 |p::L,u::us=>poC p u++portsC L us
 |_,_=>[]
theorem portsC_get:∀{L:List PortT} {us:List Value} {i j:Nat} (_:us.length=L.length) (h:i<L.length) (h':i<us.length),j<10->(portsC L us)[i*10+j]?=(poC L[i] us[i])[j]?
 |p::L,u::us,0,j,_,_,_,hj=>by
  simp only[portsC,List.getElem_cons_zero];rw[Nat.zero_mul,Nat.zero_add,List.getElem?_append_left (by show j<10;exact hj)]
 |p::L,u::us,i+1,j,hl,h,h',hj=>by
  have:=portsC_get (L:=L) (us:=us) (i:=i) (j:=j) (by simpa using hl) (by simpa using h) (by simpa using h') hj;simp only[portsC,List.getElem_cons_succ];rw[List.getElem?_append_right (by show 10<=_;omega),<-this];congr 1;show(i+1)*10+j-10=_;omega
 |_::_,[],_,_,hl,_,_,_=>by simp at hl
 |[],_,_,_,_,h,_,_=>by simp at h
theorem portsC_set:∀{L:List PortT} {us:List Value} {i:Nat} (u:Value),us.length=L.length->i<L.length->(portsC L us).set (i*10+3) u=portsC L (us.set i u)
 |p::L,v::us,0,u,_,_=>by
  simp only[portsC,List.set_cons_zero];rw[Nat.zero_mul,Nat.zero_add,List.set_append_left _ _ (by show 3<10;omega)];rfl
 |p::L,v::us,i+1,u,hl,h=>by
  have:=portsC_set (L:=L) (us:=us) (i:=i) u (by simpa using hl) (by simpa using h);simp only[portsC,List.set_cons_succ];rw[List.set_append_right _ _ (by show 10<=_;omega),<-this];congr 2;show(i+1)*10+3-10=_;omega
 |_::_,[],_,_,hl,_=>by simp at hl
 |[],_,_,_,_,h=>by simp at h
theorem ownsRow_sh{w:World}{base e z n:Nat}{v:Value}{xs:List Value}(h:w.ownsRow base e z v n xs):∃o m c,v=.slice o m c:=by
 rcases h.2 with⟨h1,_⟩|⟨g,cap,cur,h1,_⟩<;>exact⟨_,_,_,h1⟩
theorem frozen_cells{w:World}{b:Nat}{cs:Array Value}{t:TypeId}(h:w.heap[b]?=some (.cells cs t))(i:Nat):w.frozen? ⟨b,i,none⟩=false:=by simp[World.frozen?,h]
theorem set_one{W:World}{b i:Nat}{v:Value}{cs:Array Value}{t:TypeId}(h:W.heap[b]?=some (.cells cs t)):(W.setCell ⟨b,i,none⟩ v).heap[b]?=some (.cells (cs.setIfInBounds i v) t):=by
 simp[World.setCell,Array.getElem?_modify,h]
theorem set6{W:World}{b:Nat}{x0 x1 x2 x3 x4 x5 y0 y1 y2 y3 y4 y5:Value}{t:TypeId}(h:W.heap[b]?=some (.cells #[y0,y1,y2,y3,y4,y5] t)) :
  ((((((W.setCell ⟨b,0,none⟩ x0).setCell ⟨b,1,none⟩ x1).setCell ⟨b,2,none⟩ x2).setCell ⟨b,3,none⟩ x3).setCell ⟨b,4,none⟩ x4).setCell ⟨b,5,none⟩ x5).heap[b]?=some (.cells #[x0,x1,x2,x3,x4,x5] t):=
 set_one (cs:=#[x0,x1,x2,x3,x4,y5]) (set_one (cs:=#[x0,x1,x2,x3,y4,y5]) (set_one (cs:=#[x0,x1,x2,y3,y4,y5]) (set_one (cs:=#[x0,x1,y2,y3,y4,y5]) (set_one (cs:=#[x0,y1,y2,y3,y4,y5]) (set_one h)))))
theorem only_one(W:World)(b i:Nat)(v:Value):OnlyB b W (W.setCell ⟨b,i,none⟩ v):=⟨rfl,rfl,rfl,by simp[World.setCell],fun c hc=>Below.heap_setCell _ _ _ _ hc⟩
theorem onlyB_trans{b:Nat}{w w1 w2:World}(h:OnlyB b w w1)(k:OnlyB b w1 w2):OnlyB b w w2:=⟨k.os.trans h.os,k.tape.trans h.tape,k.output.trans h.output,k.size.trans h.size,fun c hc=>(k.block c hc).trans (h.block c hc)⟩
theorem set6_rest(W:World)(b:Nat)(x0 x1 x2 x3 x4 x5:Value):OnlyB b W ((((((W.setCell ⟨b,0,none⟩ x0).setCell ⟨b,1,none⟩ x1).setCell ⟨b,2,none⟩ x2).setCell ⟨b,3,none⟩ x3).setCell ⟨b,4,none⟩ x4).setCell ⟨b,5,none⟩ x5):=
 onlyB_trans (onlyB_trans (onlyB_trans (onlyB_trans (onlyB_trans (only_one _ _ _ _) (only_one _ _ _ _)) (only_one _ _ _ _)) (only_one _ _ _ _)) (only_one _ _ _ _)) (only_one _ _ _ _)
theorem res58{W:World}{b:Nat}{tmps:Array Value}{x0 x1 x2 x3 x4 x5:Value}{t:TypeId}(ht:tmps[2]?.getD Go.undef=.pointer (some ⟨b,0,none⟩))(h:W.heap[b]?=some (.cells #[x0,x1,x2,x3,x4,x5] t)):(results Tryz.f58 tmps).run Tryz.prog W=.ok (.agg #[x0,x1,x2,x3,x4,x5]) W:=by
 have q0:W.cell? ⟨b,0,none⟩=some x0:=box_at h;have q1:W.cell? ⟨b,1,none⟩=some x1:=box_at h;have q2:W.cell? ⟨b,2,none⟩=some x2:=box_at h;have q3:W.cell? ⟨b,3,none⟩=some x3:=box_at h;have q4:W.cell? ⟨b,4,none⟩=some x4:=box_at h;have q5:W.cell? ⟨b,5,none⟩=some x5:=box_at h;simp[results,Tryz.results58,ht,go_sem,q0,q1,q2,q3,q4,q5]
structure OwI(w wr:World)(g c:Nat)(L:List PortT)(us0 us:List Value)(i:Nat):Prop where
 len:us.length=L.length
 row:wr.ownsRow w.heap.size 69 10 (.slice (some ⟨g,0,none⟩) L.length c) L.length (portsC L us)
 done:∀j (hj:j<us.length) (hl:j<L.length),j<i->∃u0 xs,us0[j]?=some u0/\RowAt w 6 u0 (maL L[j]).length xs/\wr.ownsRow (g+1) 51 6 us[j] (maL L[j]).length xs/\(us[j]=.slice none 0 0↔u0=.slice none 0 0)
 todo:∀j,i<=j->us[j]?=us0[j]?
 bel:Below w.heap.size w wr
/-- What a copy of a member comes to. -/
def OwPost(w:World)(x0 x1 x2 x3 x4:Value)(o:Option Addr)(L:List PortT)(us0:List Value)(r:Ending)(w':World):Prop:=
 ∃v,r=.returned (.agg #[x0,x1,x2,x3,x4,v])/\Below w.heap.size w w'/\((o=none/\v=.slice none 0 0)\/o≠none/\∃g c us,v=.slice (some ⟨g,0,none⟩) L.length c/\OwI w w' g c L us0 us L.length)
theorem OwI.step{w wr w5:World}{g c i:Nat}{L:List PortT}{us0 us:List Value}(h:OwI w wr g c L us0 us i)(hi:i<L.length)(hb:Below wr.heap.size wr w5){u u0:Value}{xs:List Value}(hu0:us0[i]?=some u0)(h0:RowAt w 6 u0 (maL L[i]).length xs)
  (hu:w5.ownsRow wr.heap.size 51 6 u (maL L[i]).length xs) (hn:u=.slice none 0 0↔u0=.slice none 0 0):OwI w (w5.setCell ⟨g,i*10+3,none⟩ u) g c L us0 (us.set i u) (i+1):=by
 have hg:=World.ownsRow.lt h.row g rfl;have hrow:w5.ownsRow w.heap.size 69 10 (.slice (some ⟨g,0,none⟩) L.length c) L.length (portsC L us):=h.row.kept (row:=none) ⟨hb.os,hb.tape,hb.output,hb.size,fun k hk _=>hb.block k hk⟩ (.inr (by simp[Value.ownBlock]));obtain⟨hs1,hs2⟩:=hrow.stored (i*10+3) u;rw[portsC_set u h.len hi]at hs1;have hne:∀{v:Value} {n:Nat} {ys:List Value} {W:World},W.ownsRow (g+1) 51 6 v n ys->v.ownBlock=none\/v.ownBlock≠some g:=fun{v n ys W} ho=>.inr fun e=>by
  have:=(World.ownsRow.lt ho g e).1;omega
 refine⟨by simp[h.len],hs1,fun j hj hl hlt=>?_,fun j hj=>?_,?_⟩
 .by_cases e:i=j
  .subst e;refine⟨u0,xs,hu0,h0,?_,?_⟩
   .rw[List.getElem_set_self];have hu':w5.ownsRow (g+1) 51 6 u (maL L[i]).length xs:=hu.mono (by omega);exact hu'.kept hs2 (hne hu')
   .rw[List.getElem_set_self];exact hn
  .have hj':j<us.length:=by simpa using hj
   obtain⟨v0,ys,k1,k2,k3,k4⟩:=h.done j hj' hl (by omega);refine⟨v0,ys,k1,k2,?_,?_⟩
   .rw[List.getElem_set_ne e];have k3':w5.ownsRow (g+1) 51 6 us[j] (maL L[j]).length ys:=k3.kept (row:=none) ⟨hb.os,hb.tape,hb.output,hb.size,fun k hk _=>hb.block k hk⟩ (Classical.em _);exact k3'.kept hs2 (hne k3')
   .rw[List.getElem_set_ne e];exact k4
 .rw[List.getElem?_set_ne (by omega)];exact h.todo j (by omega)
 .exact(h.bel.trans (hb.mono h.bel.size)).grown hs2 (Nat.le_trans h.bel.size hb.size) fun j hj=>by cases hj;exact hg.1
theorem nil_cap{w:World}{base e z n c:Nat}{xs:List Value}(h:w.ownsRow base e z (.slice none 0 c) n xs):Value.slice none 0 c=.slice none 0 0:=by
 rcases h.2 with⟨h1,_⟩|⟨g,cap,cur,h1,_⟩
 .exact h1
 .cases h1
theorem OwI.only{w wr W':World}{g c i b:Nat}{L:List PortT}{us0 us:List Value}(h:OwI w wr g c L us0 us i)(o:OnlyB b wr W')(hb:w.heap.size<=b/\b<g):OwI w W' g c L us0 us i:=by
 have hg:wr.grownBy W' (some b):=⟨o.os,o.tape,o.output,Nat.le_of_eq o.size.symm,fun k _ hk=>o.block k fun e=>hk (by rw[e])⟩;refine⟨h.len,h.row.kept hg (.inr (by simp only[Value.ownBlock];intro e;cases e;omega)),fun j hj hl hlt=>?_,h.todo,h.bel.trans (OnlyB.below o hb.1)⟩;obtain⟨u0,xs,k1,k2,k3,k4⟩:=h.done j hj hl hlt;refine⟨u0,xs,k1,k2,k3.kept hg (.inr fun e=>?_),k4⟩;have:=(World.ownsRow.lt k3 b e).1;omega
set_option maxHeartbeats 8000000 in
set_option maxRecDepth 100000 in
theorem owned_walk(a0 a3 a4:Int)(t1 t2:ByteArray)(L:List PortT)(o:Option Addr)(n c:Nat)(w:World)(rows us0:List Value)(hr:RowAt w 10 (.slice o n c) L.length rows)(hus:us0.length=L.length)(hrow:rows=portsC L us0)
  (hm:∀i (h:i<L.length) (h':i<us0.length),HC w (fun b=>b<w.heap.size) (.sl tyMac) (maL L[i]) [us0[i]]) (hL:L.length<=80000) (hmx:∀p∈L,(maL p).length<=1000) :
  Calls Tryz.prog 58 #[.agg #[.int .i64 a0,.string t1,.string t2,.int .i64 a3,.int .i64 a4,.slice o n c]] w (OwPost w (.int .i64 a0) (.string t1) (.string t2) (.int .i64 a3) (.int .i64 a4) o L us0):=by
 have mixed:Tryz.prog.follows Departure.mixedOrders=true:=by kernel_rfl
 have e91:∀args w,(callFunc 91 args).run Tryz.prog w=.ok (.enter 91 args) w:=fun args w=>by kernel_rfl
 have e76:∀args w,(callFunc 76 args).run Tryz.prog w=.ok (.enter 76 args) w:=fun args w=>by kernel_rfl
 obtain⟨w1,hw1⟩:∃w1,w1=(w.alloc (.cells #[.int .i64 a0,.string t1,.string t2,.int .i64 a3,.int .i64 a4,.slice o n c] 39)).alloc (.cells #[.int .i64 0,.string ⟨#[]⟩,.string ⟨#[]⟩,.int .i64 0,.int .i64 0,.slice none 0 0] 39):=⟨_,rfl⟩;have hb1:Below w.heap.size w w1:=by
  have h:=alloc_below w (.cells #[.int .i64 a0,.string t1,.string t2,.int .i64 a3,.int .i64 a4,.slice o n c] 39);rw[hw1];exact h.alloc h.size _
 have hbox:w1.heap[w.heap.size]?=some (.cells #[.int .i64 a0,.string t1,.string t2,.int .i64 a3,.int .i64 a4,.slice o n c] 39):=by
  rw[hw1,Go.heap_alloc_old _ _ (by show _<(w.alloc _).heap.size;rw[show(w.alloc (.cells #[.int .i64 a0,.string t1,.string t2,.int .i64 a3,.int .i64 a4,.slice o n c] 39)).heap.size=w.heap.size+1 from Array.size_push _];exact Nat.lt_succ_self _)];exact heap_alloc_new w _
 have hs1:w1.heap.size=w.heap.size+2:=by
  rw[hw1,show(World.alloc (w.alloc (.cells #[.int .i64 a0,.string t1,.string t2,.int .i64 a3,.int .i64 a4,.slice o n c] 39)) (.cells #[.int .i64 0,.string ⟨#[]⟩,.string ⟨#[]⟩,.int .i64 0,.int .i64 0,.slice none 0 0] 39)).heap.size=(w.alloc (.cells #[.int .i64 a0,.string t1,.string t2,.int .i64 a3,.int .i64 a4,.slice o n c] 39)).heap.size+1 from Array.size_push _,show(w.alloc (.cells #[.int .i64 a0,.string t1,.string t2,.int .i64 a3,.int .i64 a4,.slice o n c] 39)).heap.size=w.heap.size+1 from Array.size_push _]
 have HW1:Aside (∀W,Below w1.heap.size w1 W->W.heap[w.heap.size]?=some (.cells #[.int .i64 a0,.string t1,.string t2,.int .i64 a3,.int .i64 a4,.slice o n c] 39)/\W.heap[w.heap.size+1]?=some (.cells #[.int .i64 0,.string ⟨#[]⟩,.string ⟨#[]⟩,.int .i64 0,.int .i64 0,.slice none 0 0] 39)):=fun W hb=>⟨(hb.block _ (by omega)).trans hbox,(hb.block _ (by omega)).trans (by
  rw[hw1,show w.heap.size+1=(w.alloc (.cells #[.int .i64 a0,.string t1,.string t2,.int .i64 a3,.int .i64 a4,.slice o n c] 39)).heap.size from(Array.size_push _).symm];exact heap_alloc_new _ _)⟩
 have hcl:=clone_91 (.slice o n c) L.length rows w1 (hr.below hb1) (by omega);have HB1:=Lib.hid (And.intro hb1 hs1);have HR:=Lib.hid hr;have HU:=Lib.hid (And.intro hus hrow);have HM:Aside _:=hm;have HLX:=Lib.hid (And.intro hL hmx);rw[hw1]at hcl;have HWE:=Lib.hid hw1;clear hr hus hrow hm hL hmx hbox hs1 hb1 hw1
 go_enter Tryz.func58,Tryz.ntmps58
 go_wp2_with (go_at_fn 91;refine hcl.mono ?_;rintro r w2 ⟨v2,rfl,ho2,hn2,hb2⟩;rw[<-HWE.out]at ho2 hb2;obtain⟨o2,m2,c2,rfl⟩:=(ownsRow_sh ho2);have K2:=Lib.hid (And.intro ho2 (And.intro hn2 hb2));have f5:w2.cell? ⟨w.heap.size,5,none⟩=some (.slice o n c):=box_at (HW1.out w2 hb2).1;have z5:w2.frozen? ⟨w.heap.size,5,none⟩=false:=frozen_cells (HW1.out w2 hb2).1 5;clear ho2 hn2 hb2)
 have HL2:Aside (m2=L.length/\((o2=none/\L.length=0/\o=none)\/∃g,o2=some ⟨g,0,none⟩)):=by
  obtain⟨q1,q2,q3⟩:=K2.out;rcases q1.2 with⟨h1,h2⟩|⟨g,cap,cur,h1,_⟩
  .have:=q2.1 h1;cases h1;cases this;exact⟨h2.symm,.inl ⟨rfl,h2,rfl⟩⟩
  .cases h1;exact⟨rfl,.inr ⟨g,rfl⟩⟩
 have HW3:Aside ((w2.setCell ⟨w.heap.size,5,none⟩ (.slice o2 m2 c2)).heap[w.heap.size]?=some (.cells #[.int .i64 a0,.string t1,.string t2,.int .i64 a3,.int .i64 a4,.slice o2 m2 c2] 39)/\(w2.setCell ⟨w.heap.size,5,none⟩ (.slice o2 m2 c2)).heap[w.heap.size+1]?=some (.cells #[.int .i64 0,.string ⟨#[]⟩,.string ⟨#[]⟩,.int .i64 0,.int .i64 0,.slice none 0 0] 39)):=by
  obtain⟨h1,h2⟩:=HW1.out w2 K2.out.2.2;refine⟨?_,(Below.heap_setCell _ _ _ _ (by show w.heap.size+1≠w.heap.size;omega)).trans h2⟩;exact set_one h1
 have HB3:Aside (Below w.heap.size w (w2.setCell ⟨w.heap.size,5,none⟩ (.slice o2 m2 c2))):=by
  have h:=(HB1.out.1).trans (K2.out.2.2.mono HB1.out.1.size);exact h.setCell (Nat.le_refl _) _
 have HO3:Aside (∀g,o2=some ⟨g,0,none⟩->OwI w (w2.setCell ⟨w.heap.size,5,none⟩ (.slice o2 m2 c2)) g c2 L us0 us0 0):=fun g hg=>by
  subst hg;have hm2:=HL2.out.1;subst hm2;obtain⟨q1,q2,q3⟩:=K2.out;rw[HU.out.2]at q1;have hlt:=World.ownsRow.lt q1 g rfl;have hg1:w2.grownBy (w2.setCell ⟨w.heap.size,5,none⟩ (.slice (some ⟨g,0,none⟩) L.length c2)) (some w.heap.size):=⟨rfl,rfl,rfl,by simp[World.setCell],fun k _ hk=>Below.heap_setCell _ _ _ _ (fun e=>hk (by rw[e]))⟩;have hs:=HB1.out.2;exact⟨HU.out.1,(q1.kept hg1 (.inr (by simp only[Value.ownBlock];intro e;cases e;omega))).mono HB1.out.1.size,fun j _ _ h=>by omega,fun _ _=>rfl,HB3.out⟩
 clear f5 z5 hcl;generalize hw3:w2.setCell ⟨w.heap.size,5,none⟩ (.slice o2 m2 c2)=W3 at HW3 HB3 HO3 ⊢;clear hw3;obtain⟨hm2,hcase⟩:=HL2.out;rcases hcase with⟨ho2,hl0,ho⟩|⟨g,ho2⟩
 .subst ho2;rw[hl0]at hm2;subst hm2;have HNI:=Lib.hid (And.intro ho hl0);clear hl0 ho HO3;obtain⟨hbx,hbz⟩:=HW3.out
  go_loopg [12] 0 (fun gg s12 wr=>s12=.int .i64 0/\W3=wr)
  case atStart=>exact⟨rfl,rfl⟩
  case round=>
   obtain⟨rfl,rfl⟩:=hrel;have f0:W3.cell? ⟨w.heap.size,0,none⟩=some (.int .i64 a0):=box_at hbx;have f1:W3.cell? ⟨w.heap.size,1,none⟩=some (.string t1):=box_at hbx;have f2:W3.cell? ⟨w.heap.size,2,none⟩=some (.string t2):=box_at hbx;have f3:W3.cell? ⟨w.heap.size,3,none⟩=some (.int .i64 a3):=box_at hbx;have f4:W3.cell? ⟨w.heap.size,4,none⟩=some (.int .i64 a4):=box_at hbx;have f5:W3.cell? ⟨w.heap.size,5,none⟩=some (.slice none 0 c2):=box_at hbx;have y0:W3.cell? ⟨w.heap.size+1,0,none⟩=some (.int .i64 0):=box_at hbz;have y1:W3.cell? ⟨w.heap.size+1,1,none⟩=some (.string ⟨#[]⟩):=box_at hbz;have y2:W3.cell? ⟨w.heap.size+1,2,none⟩=some (.string ⟨#[]⟩):=box_at hbz;have y3:W3.cell? ⟨w.heap.size+1,3,none⟩=some (.int .i64 0):=box_at hbz;have y4:W3.cell? ⟨w.heap.size+1,4,none⟩=some (.int .i64 0):=box_at hbz;have y5:W3.cell? ⟨w.heap.size+1,5,none⟩=some (.slice none 0 0):=box_at hbz;have u0:=frozen_cells hbz 0;have u1:=frozen_cells hbz 1;have u2:=frozen_cells hbz 2;have u3:=frozen_cells hbz 3;have u4:=frozen_cells hbz 4;have u5:=frozen_cells hbz 5;have HZ:=Lib.hid hbz;clear hbx hbz;have HE:Aside (∀W',OnlyB (w.heap.size+1) W3 W'->OwPost w (.int .i64 a0) (.string t1) (.string t2) (.int .i64 a3) (.int .i64 a4) o L us0 (.returned (.agg #[.int .i64 a0,.string t1,.string t2,.int .i64 a3,.int .i64 a4,.slice none 0 c2])) W'):=fun W' hW=>⟨_,rfl,HB3.out.trans (OnlyB.below hW (by omega)),.inl ⟨HNI.out.1,nil_cap K2.out.1⟩⟩
   go_wp2
   (try simp only[Exit.inBlock,Exit.then])
   refine bodyPost_ret (v:=.agg #[.int .i64 a0,.string t1,.string t2,.int .i64 a3,.int .i64 a4,.slice none 0 c2]) ?_ rfl ?_
   .exact res58 rfl (set6 HZ.out)
   .exact HE.out _ (set6_rest _ _ _ _ _ _ _ _)
 .subst ho2;subst hm2;have hO3:=HO3.out g rfl;have HG:=Lib.hid (And.intro (World.ownsRow.lt hO3.row g rfl) HB1.out.2);have HI0:=Lib.hid hO3;clear hO3 HO3;have HON:Aside (o≠none):=fun e=>by
   subst e;rcases HR.out.2.2 with⟨h1,_⟩|⟨_,_,h1,_⟩
   .have:=K2.out.2.1.2 h1;cases this
   .cases h1
  have HGb:Aside (w.heap.size+2<=g):=by
   have:=(World.ownsRow.lt K2.out.1 g rfl).1;have h2:=HB1.out.2;show w.heap.size+2<=g;omega
  go_loopg [12] L.length (fun gg s12 wr=>∃(i:Nat) (us:List Value),s12=.int .i64 i/\i<=L.length/\L.length-i<=gg/\Aside (OwI w wr g c2 L us0 us i/\wr.heap[w.heap.size]?=some (.cells #[.int .i64 a0,.string t1,.string t2,.int .i64 a3,.int .i64 a4,.slice (some ⟨g,0,none⟩) L.length c2] 39)/\wr.heap[w.heap.size+1]?=some (.cells #[.int .i64 0,.string ⟨#[]⟩,.string ⟨#[]⟩,.int .i64 0,.int .i64 0,.slice none 0 0] 39)))
  case atStart=>exact⟨0,us0,rfl,by omega,by omega,(show Aside _ from⟨HI0.out,HW3.out⟩)⟩
  case round=>
   obtain⟨i,us,rfl,hi,hgg,I⟩:=hrel;by_cases hlt:i<L.length
   .have hltz:(i:Int)<(L.length:Int):=by omega
    have hlen:=HLX.out.1;obtain⟨hI,hbx,hbz⟩:=I.out;have hi0:i<us0.length:=by rw[HU.out.1];exact hlt
    have hiu:i<us.length:=by rw[hI.len];exact hlt
    have hui:us[i]=us0[i]:=by
     have:=hI.todo i (Nat.le_refl _);rw[List.getElem?_eq_getElem hiu,List.getElem?_eq_getElem hi0]at this;exact Option.some.inj this
    have hmac:=HM.out i hlt hi0;obtain⟨xs,hrx,_⟩:=hc_rowAt hmac;obtain⟨o5,k5,c5,hsh⟩:=hc_sh hmac;rw[hsh]at hrx hui;have hmx:(maL L[i]).length<=1000:=HLX.out.2 _ (List.getElem_mem hlt);have hcell:∀j v,j<10->(poC L[i] (.slice o5 k5 c5))[j]?=some v->wr.cell? ⟨g,i*10+j,none⟩=some v:=fun j v hj hv=>by
     rw[hI.row.cellAt (i*10+j) (by omega),portsC_get hI.len hlt hiu hj,hui];exact hv
    have l0:wr.cell? ⟨g,i*10,none⟩=some _:=hcell 0 _ (by omega) rfl;have l1:wr.cell? ⟨g,i*10+1,none⟩=some _:=hcell 1 _ (by omega) rfl;have l2:wr.cell? ⟨g,i*10+2,none⟩=some _:=hcell 2 _ (by omega) rfl;have l3:wr.cell? ⟨g,i*10+3,none⟩=some _:=hcell 3 _ (by omega) rfl;have l4:wr.cell? ⟨g,i*10+4,none⟩=some _:=hcell 4 _ (by omega) rfl;have l5:wr.cell? ⟨g,i*10+5,none⟩=some _:=hcell 5 _ (by omega) rfl;have l6:wr.cell? ⟨g,i*10+6,none⟩=some _:=hcell 6 _ (by omega) rfl;have l7:wr.cell? ⟨g,i*10+7,none⟩=some _:=hcell 7 _ (by omega) rfl;have l8:wr.cell? ⟨g,i*10+8,none⟩=some _:=hcell 8 _ (by omega) rfl;have l9:wr.cell? ⟨g,i*10+9,none⟩=some _:=hcell 9 _ (by omega) rfl;have hgw:=(World.ownsRow.lt hI.row g rfl).2;have hgl:=HGb.out;have hsz4:(pW wr L[i] o5 k5 c5).heap.size=wr.heap.size+1:=Array.size_push _;have HCALL:Aside (∀W,Below (pW wr L[i] o5 k5 c5).heap.size (pW wr L[i] o5 k5 c5) W->Calls Tryz.prog 76 #[.slice o5 k5 c5] W (ClPost W 51 6 (maL L[i]).length (.slice o5 k5 c5) xs)):=fun W hb=>clone_76 _ _ xs W (hrx.below (hI.bel.trans (((alloc_below wr _).trans (hb.mono (by omega))).mono hI.bel.size))) (by omega)
    have HB4:Aside (∀W,Below (pW wr L[i] o5 k5 c5).heap.size (pW wr L[i] o5 k5 c5) W->W.cell? ⟨w.heap.size,5,none⟩=some (.slice (some ⟨g,0,none⟩) L.length c2)/\W.cell? ⟨wr.heap.size,3,none⟩=some (.slice o5 k5 c5)/\W.cell? ⟨g,i*10+3,none⟩=some (.slice o5 k5 c5)/\W.frozen? ⟨g,i*10+3,none⟩=false):=fun W hb=>by
     have hbw:Below wr.heap.size wr W:=(alloc_below wr _).trans (hb.mono (by omega));have hbs:=hI.bel.size;have hwl:w.heap.size<wr.heap.size:=by omega
     refine⟨box_at ((hbw.block _ hwl).trans hbx),box_at ((hb.block _ (by omega)).trans (alloc_cell _ _ _)),?_,?_⟩
     .rw[hbw.cell (p:=⟨g,i*10+3,none⟩) hgw];exact l3
     .rw[hbw.frozen (p:=⟨g,i*10+3,none⟩) hgw];exact hI.row.frozenAt _
    have HST : Aside (∀ (W w5 : World) (v5 : Value), Below (pW wr L[i] o5 k5 c5).heap.size (pW wr L[i] o5 k5 c5) W → w5.ownsRow W.heap.size 51 6 v5 (maL L[i]).length xs → (v5 = .slice none 0 0 ↔ Value.slice o5 k5 c5 = .slice none 0 0) → Below W.heap.size W w5 →
        OwI w (w5.setCell ⟨g,i*10+3,none⟩ v5) g c2 L us0 (us.set i v5) (i+1)/\(w5.setCell ⟨g,i*10+3,none⟩ v5).heap[w.heap.size]?=some (.cells #[.int .i64 a0,.string t1,.string t2,.int .i64 a3,.int .i64 a4,.slice (some ⟨g,0,none⟩) L.length c2] 39)/\(w5.setCell ⟨g,i*10+3,none⟩ v5).heap[w.heap.size+1]?=some (.cells #[.int .i64 0,.string ⟨#[]⟩,.string ⟨#[]⟩,.int .i64 0,.int .i64 0,.slice none 0 0] 39)):=fun W w5 v5 hb ho hn hb5=>by
     have hbw:Below wr.heap.size wr W:=(alloc_below wr _).trans (hb.mono (by omega));have hb6:Below wr.heap.size wr w5:=hbw.trans (hb5.mono hbw.size);have hbs:=hI.bel.size;refine⟨hI.step hlt hb6 (u0:=.slice o5 k5 c5) (by rw[List.getElem?_eq_getElem hi0,hsh]) hrx (ho.mono hbw.size) hn,?_,?_⟩
     .rw[Below.heap_setCell _ _ _ _ (by show w.heap.size≠g;omega),hb6.block _ (by omega)];exact hbx
     .rw[Below.heap_setCell _ _ _ _ (by show w.heap.size+1≠g;omega),hb6.block _ (by omega)];exact hbz
    obtain⟨m1,m2,m3,m4⟩:=HB4.out _ (Below.refl _ _);obtain⟨d1,d2,d3,d4⟩:=HB4.out ((pW wr L[i] o5 k5 c5).drew) (below_drewN (Below.refl _ _) 1);unfold pW at m1 m2 m3 m4 d1 d2 d3 d4;clear hI hbx hbz I hcell hrx hmac hui hsh hgw hgl hsz4 hmx hiu hi0
    go_wp2
    go_region_with (go_at_fn 76;refine(HCALL.out _ (by first|exact Below.refl _ _|exact below_drewN (Below.refl _ _) 1)).mono ?_;rintro r w5 ⟨v5,rfl,ho5,hn5,hb5⟩;have hbb:=hb5;obtain⟨s1,s2,s3,s4⟩:=HB4.out w5 (by first|exact hb5|exact(below_drewN (Below.refl _ _) 1).trans (hb5.mono (Nat.le_refl _)));have K5:=Lib.hid (HST.out _ w5 v5 (by first|exact Below.refl _ _|exact below_drewN (Below.refl _ _) 1) ho5 hn5 hb5);obtain⟨p5,q5,r5,rfl⟩:=ownsRow_sh ho5;clear ho5 hn5 hb5 hbb)
    all_goals
     go_wp2
     go_roundg (L.length-(i+1))
     case measure=>omega
     case rel=>exact⟨i+1,_,by go_num,by omega,Nat.le_refl _,(show Aside _ from K5.out)⟩
   .obtain rfl:i=L.length:=by omega
    have hltz:¬(L.length:Int)<(L.length:Int):=by omega
    obtain⟨hI,hbx,hbz⟩:=I.out;have HI:=Lib.hid hI;clear hI I;have f0:wr.cell? ⟨w.heap.size,0,none⟩=some (.int .i64 a0):=box_at hbx;have f1:wr.cell? ⟨w.heap.size,1,none⟩=some (.string t1):=box_at hbx;have f2:wr.cell? ⟨w.heap.size,2,none⟩=some (.string t2):=box_at hbx;have f3:wr.cell? ⟨w.heap.size,3,none⟩=some (.int .i64 a3):=box_at hbx;have f4:wr.cell? ⟨w.heap.size,4,none⟩=some (.int .i64 a4):=box_at hbx;have f5:wr.cell? ⟨w.heap.size,5,none⟩=some (.slice (some ⟨g,0,none⟩) L.length c2):=box_at hbx;have y0:wr.cell? ⟨w.heap.size+1,0,none⟩=some (.int .i64 0):=box_at hbz;have y1:wr.cell? ⟨w.heap.size+1,1,none⟩=some (.string ⟨#[]⟩):=box_at hbz;have y2:wr.cell? ⟨w.heap.size+1,2,none⟩=some (.string ⟨#[]⟩):=box_at hbz;have y3:wr.cell? ⟨w.heap.size+1,3,none⟩=some (.int .i64 0):=box_at hbz;have y4:wr.cell? ⟨w.heap.size+1,4,none⟩=some (.int .i64 0):=box_at hbz;have y5:wr.cell? ⟨w.heap.size+1,5,none⟩=some (.slice none 0 0):=box_at hbz;have u0:=frozen_cells hbz 0;have u1:=frozen_cells hbz 1;have u2:=frozen_cells hbz 2;have u3:=frozen_cells hbz 3;have u4:=frozen_cells hbz 4;have u5:=frozen_cells hbz 5;have HZ:=Lib.hid hbz;clear hbx hbz
    have HE:Aside (∀W',OnlyB (w.heap.size+1) wr W'->OwPost w (.int .i64 a0) (.string t1) (.string t2) (.int .i64 a3) (.int .i64 a4) o L us0 (.returned (.agg #[.int .i64 a0,.string t1,.string t2,.int .i64 a3,.int .i64 a4,.slice (some ⟨g,0,none⟩) L.length c2])) W'):=fun W' hW=>⟨_,rfl,HI.out.bel.trans (OnlyB.below hW (by omega)),.inr ⟨HON.out,g,c2,us,rfl,HI.out.only hW (by have:=HGb.out;omega)⟩⟩
    go_wp2
    (try simp only[Exit.inBlock,Exit.then])
    refine bodyPost_ret (v:=.agg #[.int .i64 a0,.string t1,.string t2,.int .i64 a3,.int .i64 a4,.slice (some ⟨g,0,none⟩) L.length c2]) ?_ rfl ?_
    .exact res58 rfl (set6 HZ.out)
    .exact HE.out _ (set6_rest _ _ _ _ _ _ _ _)
end Go.Proofs.YtbpocjclcbjggaaGreatDoor
