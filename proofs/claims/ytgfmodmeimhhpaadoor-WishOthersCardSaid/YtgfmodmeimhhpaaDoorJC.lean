/- Walked by hand: Strip. -/
import Derived.Test.YtgfmodmeimhhpaaDoorJB
import Derived.Test.YtgfmodmeimhhpaaDoorGA
import Derived.Test.YtgfmodmeimhhpaaDoorZO
import Derived.Handy
namespace Go.Proofs.YtgfmodmeimhhpaaDoor
open Go.RowKit Go.Lib Go.VM
set_option maxHeartbeats 2000000 in
set_option maxRecDepth 100000 in
theorem out2_fn(a b own:Int)(cb:Nat)(w:World)(h0:w.cell? ⟨cb,0,none⟩=some (.int .i64 own)) :
  Calls Tryd.prog 54 #[.agg #[.int .i64 a,.int .i64 b],.pointer (some ⟨cb,0,none⟩)] w fun r w'=>r=.returned (.bool (a==0||a==own))/\Below w.heap.size w w':=by
 have hcb:cb<w.heap.size:=block_lt_of_cell h0
 go_enter Tryd.func54,Tryd.ntmps54
 go_wp2
 all_goals
  go_ret
  exact⟨by simp[*],(Below.refl _ _).alloc (Nat.le_refl _) _⟩
set_option maxHeartbeats 2000000 in
set_option maxRecDepth 100000 in
theorem out3_fn(a b c own:Int)(cb:Nat)(w:World)(h0:w.cell? ⟨cb,0,none⟩=some (.int .i64 own)) :
  Calls Tryd.prog 56 #[.agg #[.int .i64 a,.int .i64 b,.int .i64 c],.pointer (some ⟨cb,0,none⟩)] w fun r w'=>r=.returned (.bool (a==own))/\Below w.heap.size w w':=by
 have hcb:cb<w.heap.size:=block_lt_of_cell h0
 go_enter Tryd.func56,Tryd.ntmps56
 go_wp2
 all_goals
  go_ret
  exact⟨by simp[*],(Below.refl _ _).alloc (Nat.le_refl _) _⟩
set_option maxHeartbeats 2000000 in
set_option maxRecDepth 100000 in
theorem idx2_nil(lb:Array Value)(w:World):Calls Tryd.prog 82 #[.slice none 0 0,.func (.func 54) #[] lb] w fun r w'=>r=.returned (.int .i64 (-1))/\w=w':=by
 go_enter Tryd.func82,Tryd.ntmps82
 go_wp2
 go_loopg [5,8] 0 (fun _ _ s8 wr=>s8=.int .i64 0/\w=wr)
 case atStart=>exact⟨rfl,rfl⟩
 case round=>
  obtain⟨rfl,rfl⟩:=hrel
  go_wp2
  go_ret
  exact⟨rfl,rfl⟩
set_option maxHeartbeats 2000000 in
set_option maxRecDepth 100000 in
theorem del2_nil(lb:Array Value)(w:World):Calls Tryd.prog 53 #[.slice none 0 0,.func (.func 54) #[] lb] w fun r w'=>r=.returned (.slice none 0 0)/\w=w':=by
 have e82:∀args w,(callFunc 82 args).run Tryd.prog w=.ok (.enter 82 args) w:=fun args w=>by kernel_rfl
 go_enter Tryd.func53,Tryd.ntmps53
 go_wp2_with (go_at_fn 82;refine(idx2_nil lb _).mono ?_;rintro r w' ⟨rfl,rfl⟩)
 go_ret
 exact⟨rfl,rfl⟩
set_option maxHeartbeats 2000000 in
set_option maxRecDepth 100000 in
theorem idx3_nil(lb:Array Value)(w:World):Calls Tryd.prog 83 #[.slice none 0 0,.func (.func 56) #[] lb] w fun r w'=>r=.returned (.int .i64 (-1))/\w=w':=by
 go_enter Tryd.func83,Tryd.ntmps83
 go_wp2
 go_loopg [5,8] 0 (fun _ _ s8 wr=>s8=.int .i64 0/\w=wr)
 case atStart=>exact⟨rfl,rfl⟩
 case round=>
  obtain⟨rfl,rfl⟩:=hrel
  go_wp2
  go_ret
  exact⟨rfl,rfl⟩
set_option maxHeartbeats 2000000 in
set_option maxRecDepth 100000 in
theorem del3_nil(lb:Array Value)(w:World):Calls Tryd.prog 55 #[.slice none 0 0,.func (.func 56) #[] lb] w fun r w'=>r=.returned (.slice none 0 0)/\w=w':=by
 have e83:∀args w,(callFunc 83 args).run Tryd.prog w=.ok (.enter 83 args) w:=fun args w=>by kernel_rfl
 go_enter Tryd.func55,Tryd.ntmps55
 go_wp2_with (go_at_fn 83;refine(idx3_nil lb _).mono ?_;rintro r w' ⟨rfl,rfl⟩)
 go_ret
 exact⟨rfl,rfl⟩
def cmC(l:List (Int×Int)):List (List Value):=l.map fun c=>[.int .i64 c.1,.int .i64 c.2]
def lgC(l:List (Int×Int×Int)):List (List Value):=l.map fun c=>[.int .i64 c.1,.int .i64 c.2.1,.int .i64 c.2.2]
def cmW(l:List (Int×Int)):List V:=(l.map fun c=>[V.int .i64 c.1,.int .i64 c.2]).flatten
def lgW(l:List (Int×Int×Int)):List V:=(l.map fun c=>[V.int .i64 c.1,.int .i64 c.2.1,.int .i64 c.2.2]).flatten
theorem cm_rows{w:World}{Q:Nat->Prop}:∀{l:List (Int×Int)} {rows:List Value},HRows (HC w Q tyCm) l rows->rows=(cmC l).flatten
 |[],_,h=>h|c::l,_,⟨x,r,e,⟨p,q,e1,e2,e3⟩,h2⟩=>by have e2:p=[.int .i64 c.1]:=e2;have e3:q=[.int .i64 c.2]:=e3;rw[e,e1,e2,e3,cm_rows h2];rfl
theorem lg_rows{w:World}{Q:Nat->Prop}:∀{l:List (Int×Int×Int)} {rows:List Value},HRows (HC w Q tyLg) l rows->rows=(lgC l).flatten
 |[],_,h=>h|c::l,_,⟨x,r,e,⟨p,q,e1,e2,s,u,e3,e4,e5⟩,h2⟩=>by have e2:p=[.int .i64 c.1]:=e2;have e4:s=[.int .i64 c.2.1]:=e4;have e5:u=[.int .i64 c.2.2]:=e5;rw[e,e1,e2,e3,e4,e5,lg_rows h2];rfl
theorem cm_rel(w:World)(A:Pl)(B:List Nat):∀l:List (Int×Int),RelL w A B (cmW l) (cmC l).flatten
 |[]=>.nil|c::l=>.cons _ _ _ _ (.int _ _) (.cons _ _ _ _ (.int _ _) (cm_rel w A B l))
theorem lg_rel(w:World)(A:Pl)(B:List Nat):∀l:List (Int×Int×Int),RelL w A B (lgW l) (lgC l).flatten
 |[]=>.nil|c::l=>.cons _ _ _ _ (.int _ _) (.cons _ _ _ _ (.int _ _) (.cons _ _ _ _ (.int _ _) (lg_rel w A B l)))
def fil2(own:Int)(l:List (Int×Int)):List (Int×Int):=l.filter fun c=>!(c.1==0||c.1==own)
def fil3(own:Int)(l:List (Int×Int×Int)):List (Int×Int×Int):=l.filter fun c=>!(c.1==own)
def pr2(own:Int):List Value->Bool
 |.int _ a::_=>a==0||a==own|_=>false
def pr3(own:Int):List Value->Bool
 |.int _ a::_=>a==own|_=>false
def RowIs(W:World)(z:Nat)(co:Option Addr)(n d:Nat)(rows:List Value):Prop:=
 (co=none/\n=0/\d=0/\rows=[])\/∃g cur e,∃fr:Nat×Nat,co=some ⟨g,0,none⟩/\W.heap[g]?=some (.cells cur e fr)/\Fz fr cur.size/\n<=d/\d<=maxLen/\cur.size=d*z/\cur.toList.take (n*z)=rows
def blkOf(co:Option Addr):Option Nat:=co.map (·.block)
theorem RowIs.kept{W W':World}{z:Nat}{co:Option Addr}{n d:Nat}{rows:List Value}(h:RowIs W z co n d rows)(hk:∀g,blkOf co=some g->W'.heap[g]?=W.heap[g]?):RowIs W' z co n d rows:=by
 rcases h with h|⟨g,cur,e,fr,rfl,h2,h3⟩
 .exact .inl h
 .exact .inr ⟨g,cur,e,fr,rfl,by rw[hk g rfl];exact h2,h3⟩
theorem del2_row(own:Int)(cb:Nat)(co:Option Addr)(n d:Nat)(l:List (Int×Int))(W:World)(hb:W.cell? ⟨cb,0,none⟩=some (.int .i64 own))(hr:RowIs W 2 co n d (cmC l).flatten)(hn:n=l.length)(hl:l.length<=100000)(hne:blkOf co≠some cb) :
  Calls Tryd.prog 53 #[.slice co n d,.func (.func 54) #[] #[.pointer (some ⟨cb,0,none⟩)]] W fun r W'=>r=.returned (.slice co (fil2 own l).length d)/\W.grownBy W' (blkOf co)/\RowIs W' 2 co (fil2 own l).length d (cmC (fil2 own l)).flatten:=by
 have e54:∀args w,(callFunc 54 args).run Tryd.prog w=.ok (.enter 54 args) w:=fun args w=>by kernel_rfl
 rcases hr with⟨rfl,h1,rfl,h2⟩|⟨g,cur,e,fr,rfl,h2,h3,h4,h5,h6,h7⟩
 .have hl0:l=[]:=List.eq_nil_of_length_eq_zero (by omega);subst hl0;subst h1;refine(del2_nil _ W).mono fun r W' ⟨e1,e2⟩=>?_
  subst e2;exact⟨e1,grownBy_refl _ _,.inl ⟨rfl,rfl,rfl,rfl⟩⟩
 .subst hn;have hcb:cb<W.heap.size:=block_lt_of_cell hb;have:=HC2.del_fn 54 #[.pointer (some ⟨cb,0,none⟩)] (pr2 own) (fun W'=>W'.cell? ⟨cb,0,none⟩=some (.int .i64 own)) (fun q=>∃a b:Int,q=[.int .i64 a,.int .i64 b]) e54
   (fun W' q k0 ⟨a,b,hq⟩=>by subst hq;exact out2_fn a b own cb W' k0) g l.length d cur e fr (cmC l) W
   (fun W' hg=>by rw[World.cell?_of_block (w:=W) (a:=⟨cb,0,none⟩) (hg.block cb hcb fun e=>hne (by rw[e];rfl))];exact hb)
   (by simp[cmC]) (fun q hq=>by obtain⟨p,_,rfl⟩:=List.mem_map.1 hq;exact⟨⟨_,_,rfl⟩,rfl,fun v hv=>by simp at hv;rcases hv with rfl|rfl<;>exact⟨_,rfl⟩⟩) (by omega) h2 h3 h6 h4 h7
  have hf:((cmC l).filter fun q=>!pr2 own q)=cmC (fil2 own l):=by unfold cmC fil2;rw[List.filter_map];rfl
  rw[hf]at this;have hlen:(cmC (fil2 own l)).length=(fil2 own l).length:=by simp[cmC]
  rw[hlen]at this;refine this.mono fun r W' ⟨e1,e2,cur',e3,e4,e5⟩=>⟨e1,e2,.inr ⟨g,cur',e,fr,rfl,e3,by rw[e4,<-h6];exact h3,Nat.le_trans (List.length_filter_le _ _) h4,h5,e4,e5⟩⟩
theorem del3_row(own:Int)(cb:Nat)(co:Option Addr)(n d:Nat)(l:List (Int×Int×Int))(W:World)(hb:W.cell? ⟨cb,0,none⟩=some (.int .i64 own))(hr:RowIs W 3 co n d (lgC l).flatten)(hn:n=l.length)(hl:l.length<=100000)(hne:blkOf co≠some cb) :
  Calls Tryd.prog 55 #[.slice co n d,.func (.func 56) #[] #[.pointer (some ⟨cb,0,none⟩)]] W fun r W'=>r=.returned (.slice co (fil3 own l).length d)/\W.grownBy W' (blkOf co)/\RowIs W' 3 co (fil3 own l).length d (lgC (fil3 own l)).flatten:=by
 have e56:∀args w,(callFunc 56 args).run Tryd.prog w=.ok (.enter 56 args) w:=fun args w=>by kernel_rfl
 rcases hr with⟨rfl,h1,rfl,h2⟩|⟨g,cur,e,fr,rfl,h2,h3,h4,h5,h6,h7⟩
 .have hl0:l=[]:=List.eq_nil_of_length_eq_zero (by omega);subst hl0;subst h1;refine(del3_nil _ W).mono fun r W' ⟨e1,e2⟩=>?_
  subst e2;exact⟨e1,grownBy_refl _ _,.inl ⟨rfl,rfl,rfl,rfl⟩⟩
 .subst hn;have hcb:cb<W.heap.size:=block_lt_of_cell hb;have:=HC3.del_fn 56 #[.pointer (some ⟨cb,0,none⟩)] (pr3 own) (fun W'=>W'.cell? ⟨cb,0,none⟩=some (.int .i64 own)) (fun q=>∃a b c:Int,q=[.int .i64 a,.int .i64 b,.int .i64 c]) e56
   (fun W' q k0 ⟨a,b,c,hq⟩=>by subst hq;exact out3_fn a b c own cb W' k0) g l.length d cur e fr (lgC l) W
   (fun W' hg=>by rw[World.cell?_of_block (w:=W) (a:=⟨cb,0,none⟩) (hg.block cb hcb fun e=>hne (by rw[e];rfl))];exact hb)
   (by simp[lgC]) (fun q hq=>by obtain⟨p,_,rfl⟩:=List.mem_map.1 hq;exact⟨⟨_,_,_,rfl⟩,rfl,fun v hv=>by simp at hv;rcases hv with rfl|rfl|rfl<;>exact⟨_,rfl⟩⟩) (by omega) h2 h3 h6 h4 h7
  have hf:((lgC l).filter fun q=>!pr3 own q)=lgC (fil3 own l):=by unfold lgC fil3;rw[List.filter_map];rfl
  rw[hf]at this;have hlen:(lgC (fil3 own l)).length=(fil3 own l).length:=by simp[lgC]
  rw[hlen]at this;refine this.mono fun r W' ⟨e1,e2,cur',e3,e4,e5⟩=>⟨e1,e2,.inr ⟨g,cur',e,fr,rfl,e3,by rw[e4,<-h6];exact h3,Nat.le_trans (List.length_filter_le _ _) h4,h5,e4,e5⟩⟩
def C11(W:World)(b:Nat)(x0 x1 x2 x3 x4 x5 x6 x7 x8 x9 x10:Value):Prop:=
 W.cell? ⟨b,0,none⟩=some x0/\W.cell? ⟨b,1,none⟩=some x1/\W.cell? ⟨b,2,none⟩=some x2/\W.cell? ⟨b,3,none⟩=some x3/\W.cell? ⟨b,4,none⟩=some x4/\W.cell? ⟨b,5,none⟩=some x5/\W.cell? ⟨b,6,none⟩=some x6/\W.cell? ⟨b,7,none⟩=some x7/\W.cell? ⟨b,8,none⟩=some x8/\W.cell? ⟨b,9,none⟩=some x9/\W.cell? ⟨b,10,none⟩=some x10
def F11(W:World)(b:Nat):Prop:=∀j,W.frozen? ⟨b,j,none⟩=false
theorem c11_of{W:World}{b:Nat}{x0 x1 x2 x3 x4 x5 x6 x7 x8 x9 x10:Value}{e:TypeId}(h:W.heap[b]?=some (.cells #[x0,x1,x2,x3,x4,x5,x6,x7,x8,x9,x10] e (0,0))):C11 W b x0 x1 x2 x3 x4 x5 x6 x7 x8 x9 x10/\F11 W b:=by
 refine⟨⟨?_,?_,?_,?_,?_,?_,?_,?_,?_,?_,?_⟩,fun j=>?_⟩
 all_goals simp[World.cell?,World.frozen?,h]
end Go.Proofs.YtgfmodmeimhhpaaDoor
namespace Go.Proofs.YtgfmodmeimhhpaaDoor
open Go.RowKit Go.Lib Go.VM
theorem sized(w:World)(o:Obj):(w.alloc o).heap.size=w.heap.size+1:=Array.size_push _
abbrev W3(w:World)(own:Int)(xs:Array Value):World:=((w.alloc (.cells #[.int .i64 own] 3)).alloc (.cells xs 48)).alloc (.cells #[.int .i64 0,.slice none 0 0,.bool false,.int .u64 0,.int .u64 0,.int .i64 0,.int .i64 0,.int .i64 0,.slice none 0 0,.slice none 0 0,.slice none 0 0] 48)
theorem w3_size(w:World)(own:Int)(xs:Array Value):(W3 w own xs).heap.size=w.heap.size+3:=by unfold W3;rw[sized,sized,sized]
theorem w3_below(w:World)(own:Int)(xs:Array Value):Below w.heap.size w (W3 w own xs):=
 (((Below.refl _ w).alloc (Nat.le_refl _) _).alloc (by rw[sized];omega) _).alloc (by rw[sized,sized];omega) _
theorem w3_own(w:World)(own:Int)(xs:Array Value):(W3 w own xs).heap[w.heap.size]?=some (.cells #[.int .i64 own] 3 (0,0)):=by unfold W3;rw[Go.heap_alloc_old _ _ (by rw[sized,sized];omega),Go.heap_alloc_old _ _ (by rw[sized];omega)];exact heap_alloc_new _ _
theorem w3_res(w:World)(own:Int)(xs:Array Value):(W3 w own xs).heap[w.heap.size+1+1]?=some (.cells #[.int .i64 0,.slice none 0 0,.bool false,.int .u64 0,.int .u64 0,.int .i64 0,.int .i64 0,.int .i64 0,.slice none 0 0,.slice none 0 0,.slice none 0 0] 48 (0,0)):=by unfold W3;have:=heap_alloc_new ((w.alloc (.cells #[.int .i64 own] 3)).alloc (.cells xs 48)) (.cells #[.int .i64 0,.slice none 0 0,.bool false,.int .u64 0,.int .u64 0,.int .i64 0,.int .i64 0,.int .i64 0,.slice none 0 0,.slice none 0 0,.slice none 0 0] 48);rw[show((w.alloc (.cells #[.int .i64 own] 3)).alloc (.cells xs 48)).heap.size=w.heap.size+1+1 by rw[sized,sized]]at this;exact this
structure Cp(w W W1:World)(lc:List (Int×Int))(ll:List (Int×Int×Int))(cv lv:Option Addr)(m2 d2 m3 d3:Nat):Prop where
 below:Below W.heap.size W W1
 n2:m2=lc.length
 n3:m3=ll.length
 s2:lc.length<=100000
 s3:ll.length<=100000
 r2:RowIs W1 2 cv m2 d2 (cmC lc).flatten
 r3:RowIs W1 3 lv m3 d3 (lgC ll).flatten
 b2:∀g,blkOf cv=some g->W.heap.size<=g/\g<W1.heap.size
 b3:∀g,blkOf lv=some g->W.heap.size<=g/\g<W1.heap.size
 ne:∀g,blkOf cv=some g->blkOf lv≠some g
def blk11(W:World)(b:Nat)(x0 x1 x2 x3 x4 x5 x6 x7 x8 x9 x10:Value):Prop:=W.heap[b]?=some (.cells #[x0,x1,x2,x3,x4,x5,x6,x7,x8,x9,x10] 48 (0,0))
theorem bk_ne{o:Option Nat}{b:Nat}(h:∀g,o=some g->g≠b):some b≠o:=fun e=>h b e.symm rfl
theorem set_one{W:World}{b i:Nat}{v:Value}{cs ds:Array Value}(h:W.heap[b]?=some (.cells cs 48 (0,0)))(e:cs.setIfInBounds i v=ds):(W.setCell ⟨b,i,none⟩ v).heap[b]?=some (.cells ds 48 (0,0)):=by rw[<-e];exact(setCell_row _ b i _ 48 (0,0) v h).1
theorem set11(W:World)(b:Nat)(x0 x1 x2 x3 x4 x5 x6 x7 x8 x9 x10 y0 y1 y2 y3 y4 y5 y6 y7 y8 y9 y10:Value)(h:blk11 W b y0 y1 y2 y3 y4 y5 y6 y7 y8 y9 y10):blk11 (((((((((((W.setCell ⟨b,0,none⟩ x0).setCell ⟨b,1,none⟩ x1).setCell ⟨b,2,none⟩ x2).setCell ⟨b,3,none⟩ x3).setCell ⟨b,4,none⟩ x4).setCell ⟨b,5,none⟩ x5).setCell ⟨b,6,none⟩ x6).setCell ⟨b,7,none⟩ x7).setCell ⟨b,8,none⟩ x8).setCell ⟨b,9,none⟩ x9).setCell ⟨b,10,none⟩ x10) b x0 x1 x2 x3 x4 x5 x6 x7 x8 x9 x10:=
 (set_one (ds:=#[x0,x1,x2,x3,x4,x5,x6,x7,x8,x9,x10]) (set_one (ds:=#[x0,x1,x2,x3,x4,x5,x6,x7,x8,x9,y10]) (set_one (ds:=#[x0,x1,x2,x3,x4,x5,x6,x7,x8,y9,y10]) (set_one (ds:=#[x0,x1,x2,x3,x4,x5,x6,x7,y8,y9,y10]) (set_one (ds:=#[x0,x1,x2,x3,x4,x5,x6,y7,y8,y9,y10]) (set_one (ds:=#[x0,x1,x2,x3,x4,x5,y6,y7,y8,y9,y10]) (set_one (ds:=#[x0,x1,x2,x3,x4,y5,y6,y7,y8,y9,y10]) (set_one (ds:=#[x0,x1,x2,x3,y4,y5,y6,y7,y8,y9,y10]) (set_one (ds:=#[x0,x1,x2,y3,y4,y5,y6,y7,y8,y9,y10]) (set_one (ds:=#[x0,x1,y2,y3,y4,y5,y6,y7,y8,y9,y10]) (set_one (ds:=#[x0,y1,y2,y3,y4,y5,y6,y7,y8,y9,y10]) h rfl) rfl) rfl) rfl) rfl) rfl) rfl) rfl) rfl) rfl) rfl)
structure But(b:Nat)(W W':World):Prop where
 os:W'.os=W.os
 tape:W'.tape=W.tape
 output:W'.output=W.output
 size:W'.heap.size=W.heap.size
 rest:∀k,k≠b->W'.heap[k]?=W.heap[k]?
theorem But.refl(b:Nat)(W:World):But b W W:=⟨rfl,rfl,rfl,rfl,fun _ _=>rfl⟩
theorem But.set{b:Nat}{W W':World}(h:But b W W')(i:Nat)(v:Value):But b W (W'.setCell ⟨b,i,none⟩ v):=
 ⟨h.os,h.tape,h.output,(World.size_setCell ..).trans h.size,fun k hk=>(Below.heap_setCell _ _ _ _ hk).trans (h.rest k hk)⟩
theorem set11_rest(W:World)(b:Nat)(x0 x1 x2 x3 x4 x5 x6 x7 x8 x9 x10:Value):But b W (((((((((((W.setCell ⟨b,0,none⟩ x0).setCell ⟨b,1,none⟩ x1).setCell ⟨b,2,none⟩ x2).setCell ⟨b,3,none⟩ x3).setCell ⟨b,4,none⟩ x4).setCell ⟨b,5,none⟩ x5).setCell ⟨b,6,none⟩ x6).setCell ⟨b,7,none⟩ x7).setCell ⟨b,8,none⟩ x8).setCell ⟨b,9,none⟩ x9).setCell ⟨b,10,none⟩ x10):=((((((((((((But.refl b W).set 0 x0).set 1 x1).set 2 x2).set 3 x3).set 4 x4).set 5 x5).set 6 x6).set 7 x7).set 8 x8).set 9 x9).set 10 x10)
theorem res26(W:World)(b:Nat)(tmps:Array Value)(x0 x1 x2 x3 x4 x5 x6 x7 x8 x9 x10:Value)(ht:tmps[4]?.getD Go.undef=.pointer (some ⟨b,0,none⟩))(h:blk11 W b x0 x1 x2 x3 x4 x5 x6 x7 x8 x9 x10):(results Tryd.f26 tmps).run Tryd.prog W=.ok (.agg #[x0,x1,x2,x3,x4,x5,x6,x7,x8,x9,x10]) W:=by obtain⟨q0,q1,q2,q3,q4,q5,q6,q7,q8,q9,q10⟩:=(c11_of h).1;simp[results,Tryd.results26,ht,go_sem,q0,q1,q2,q3,q4,q5,q6,q7,q8,q9,q10]
set_option maxHeartbeats 8000000 in
set_option maxRecDepth 100000 in
theorem strip_walk(own o hi lo md pr oc:Int)(b6:Bool)(pa ca la oa:Option Addr)(n1 c1 n2 c2 n3 c3 n4 c4:Nat)(lc:List (Int×Int))(ll:List (Int×Int×Int))(w:World)(K:World->Value->Value->Value->Value->Prop)(aJE:Value->World->Prop)
  (H52:Calls Tryd.prog 52 #[.agg #[.int .i64 o,.slice pa n1 c1,.bool b6,.int .u64 hi,.int .u64 lo,.int .i64 md,.int .i64 pr,.int .i64 oc,.slice ca n2 c2,.slice la n3 c3,.slice oa n4 c4]] (W3 w own #[.int .i64 o,.slice pa n1 c1,.bool b6,.int .u64 hi,.int .u64 lo,.int .i64 md,.int .i64 pr,.int .i64 oc,.slice ca n2 c2,.slice la n3 c3,.slice oa n4 c4]) fun e W1=>
   ∃ pv cv lv ov m1 d1 m2 d2 m3 d3 m4 d4,e=.returned (.agg #[.int .i64 o,.slice pv m1 d1,.bool b6,.int .u64 hi,.int .u64 lo,.int .i64 md,.int .i64 pr,.int .i64 oc,.slice cv m2 d2,.slice lv m3 d3,.slice ov m4 d4]) ∧
     Cp w (W3 w own #[.int .i64 o,.slice pa n1 c1,.bool b6,.int .u64 hi,.int .u64 lo,.int .i64 md,.int .i64 pr,.int .i64 oc,.slice ca n2 c2,.slice la n3 c3,.slice oa n4 c4]) W1 lc ll cv lv m2 d2 m3 d3/\K W1 (.slice pv m1 d1) (.slice cv m2 d2) (.slice lv m3 d3) (.slice ov m4 d4))
  (HP:∀W1 pv m1 d1 cv m2 d2 lv m3 d3 ov m4 d4 Wf,K W1 (.slice pv m1 d1) (.slice cv m2 d2) (.slice lv m3 d3) (.slice ov m4 d4)->Cp w (W3 w own #[.int .i64 o,.slice pa n1 c1,.bool b6,.int .u64 hi,.int .u64 lo,.int .i64 md,.int .i64 pr,.int .i64 oc,.slice ca n2 c2,.slice la n3 c3,.slice oa n4 c4]) W1 lc ll cv lv m2 d2 m3 d3->
   Below w.heap.size w Wf->(∀b,b<W1.heap.size->b≠w.heap.size+1+1->some b≠blkOf cv->some b≠blkOf lv->Wf.heap[b]?=W1.heap[b]?)->RowIs Wf 2 cv (fil2 own lc).length d2 (cmC (fil2 own lc)).flatten->RowIs Wf 3 lv (fil3 own ll).length d3 (lgC (fil3 own ll)).flatten->
   aJE (.agg #[.int .i64 o,.slice pv m1 d1,.bool b6,.int .u64 hi,.int .u64 lo,.int .i64 md,.int .i64 pr,.int .i64 oc,.slice cv (fil2 own lc).length d2,.slice lv (fil3 own ll).length d3,.slice ov m4 d4]) Wf) :
  Calls Tryd.prog 26 #[.int .i64 own,.agg #[.int .i64 o,.slice pa n1 c1,.bool b6,.int .u64 hi,.int .u64 lo,.int .i64 md,.int .i64 pr,.int .i64 oc,.slice ca n2 c2,.slice la n3 c3,.slice oa n4 c4]] w fun r w'=>∃v,r=.returned v/\aJE v w':=by
 have e52:∀args w,(callFunc 52 args).run Tryd.prog w=.ok (.enter 52 args) w:=fun args w=>by kernel_rfl
 have e53:∀args w,(callFunc 53 args).run Tryd.prog w=.ok (.enter 53 args) w:=fun args w=>by kernel_rfl
 have e55:∀args w,(callFunc 55 args).run Tryd.prog w=.ok (.enter 55 args) w:=fun args w=>by kernel_rfl
 generalize hxs:(#[.int .i64 o,.slice pa n1 c1,.bool b6,.int .u64 hi,.int .u64 lo,.int .i64 md,.int .i64 pr,.int .i64 oc,.slice ca n2 c2,.slice la n3 c3,.slice oa n4 c4]:Array Value)=xs at H52 HP;have hw3:=w3_size w own xs
 -- the first row
 have HA : Aside (∀ (W1 : World) (pv cv lv ov : Option Addr) (m1 d1 m2 d2 m3 d3 m4 d4 : Nat), Cp w (W3 w own xs) W1 lc ll cv lv m2 d2 m3 d3 →
     Calls Tryd.prog 53 #[.slice cv m2 d2,.func (.func 54) #[] #[.pointer (some ⟨w.heap.size,0,none⟩)]] (W1.alloc (.cells #[.int .i64 o,.slice pv m1 d1,.bool b6,.int .u64 hi,.int .u64 lo,.int .i64 md,.int .i64 pr,.int .i64 oc,.slice cv m2 d2,.slice lv m3 d3,.slice ov m4 d4] 48)) fun r W2=>
      r=.returned (.slice cv (fil2 own lc).length d2)/\(W1.grownBy W2 (blkOf cv)/\W1.heap.size<W2.heap.size/\RowIs W2 2 cv (fil2 own lc).length d2 (cmC (fil2 own lc)).flatten/\blk11 W2 W1.heap.size (.int .i64 o) (.slice pv m1 d1) (.bool b6) (.int .u64 hi) (.int .u64 lo) (.int .i64 md) (.int .i64 pr) (.int .i64 oc) (.slice cv m2 d2) (.slice lv m3 d3) (.slice ov m4 d4))):=by
  intro W1 pv cv lv ov m1 d1 m2 d2 m3 d3 m4 d4 H;have hlt:w.heap.size<W1.heap.size:=Nat.lt_of_lt_of_le (by rw[hw3];omega) H.below.size;have hal:∀b,b<W1.heap.size->(W1.alloc (.cells #[.int .i64 o,.slice pv m1 d1,.bool b6,.int .u64 hi,.int .u64 lo,.int .i64 md,.int .i64 pr,.int .i64 oc,.slice cv m2 d2,.slice lv m3 d3,.slice ov m4 d4] 48)).heap[b]?=W1.heap[b]?:=fun b hb=>Go.heap_alloc_old _ _ hb
  have hown:(W1.alloc (.cells #[.int .i64 o,.slice pv m1 d1,.bool b6,.int .u64 hi,.int .u64 lo,.int .i64 md,.int .i64 pr,.int .i64 oc,.slice cv m2 d2,.slice lv m3 d3,.slice ov m4 d4] 48)).cell? ⟨w.heap.size,0,none⟩=some (.int .i64 own):=by have h1:=hal _ hlt;rw[H.below.block _ (by rw[hw3];omega),w3_own]at h1;simp[World.cell?,h1]
  have hrow:=H.r2.kept (W':=W1.alloc (.cells #[.int .i64 o,.slice pv m1 d1,.bool b6,.int .u64 hi,.int .u64 lo,.int .i64 md,.int .i64 pr,.int .i64 oc,.slice cv m2 d2,.slice lv m3 d3,.slice ov m4 d4] 48)) fun g hg=>hal g (H.b2 g hg).2
  have hne:blkOf cv≠some w.heap.size:=fun e=>by have:=(H.b2 _ e).1;rw[hw3]at this;omega
  refine(del2_row own w.heap.size cv m2 d2 lc _ hown hrow H.n2 H.s2 hne).mono fun r W2 ⟨k1,k2,k3⟩=>⟨k1,?_,?_,k3,?_⟩
  .exact grownBy_trans (grownBy_below ((Below.refl _ W1).alloc (Nat.le_refl _) _)) k2
  .exact Nat.lt_of_lt_of_le (by rw[sized];omega) k2.size
  .unfold blk11;rw[k2.block W1.heap.size (by rw[sized];omega) (bk_ne fun g hg=>by have:=(H.b2 g hg).2;omega)];exact heap_alloc_new _ _
 -- the second one
 have HB : Aside (∀ (W1 W2 : World) (pv cv lv ov : Option Addr) (m1 d1 m2 d2 m3 d3 m4 d4 : Nat), Cp w (W3 w own xs) W1 lc ll cv lv m2 d2 m3 d3 →
     (W1.grownBy W2 (blkOf cv)/\W1.heap.size<W2.heap.size/\RowIs W2 2 cv (fil2 own lc).length d2 (cmC (fil2 own lc)).flatten/\blk11 W2 W1.heap.size (.int .i64 o) (.slice pv m1 d1) (.bool b6) (.int .u64 hi) (.int .u64 lo) (.int .i64 md) (.int .i64 pr) (.int .i64 oc) (.slice cv m2 d2) (.slice lv m3 d3) (.slice ov m4 d4))->
     Calls Tryd.prog 55 #[.slice lv m3 d3,.func (.func 56) #[] #[.pointer (some ⟨w.heap.size,0,none⟩)]] (W2.setCell ⟨W1.heap.size,8,none⟩ (.slice cv (fil2 own lc).length d2)) fun r W4=>
      r=.returned (.slice lv (fil3 own ll).length d3)/\(Below w.heap.size w W4/\w.heap.size+1+1<W1.heap.size/\W1.heap.size<W4.heap.size/\(∀b,b<W1.heap.size->some b≠blkOf cv->some b≠blkOf lv->W4.heap[b]?=W1.heap[b]?)/\RowIs W4 2 cv (fil2 own lc).length d2 (cmC (fil2 own lc)).flatten/\RowIs W4 3 lv (fil3 own ll).length d3 (lgC (fil3 own ll)).flatten/\blk11 W4 W1.heap.size (.int .i64 o) (.slice pv m1 d1) (.bool b6) (.int .u64 hi) (.int .u64 lo) (.int .i64 md) (.int .i64 pr) (.int .i64 oc) (.slice cv (fil2 own lc).length d2) (.slice lv m3 d3) (.slice ov m4 d4)/\
       blk11 W4 (w.heap.size+1+1) (.int .i64 0) (.slice none 0 0) (.bool false) (.int .u64 0) (.int .u64 0) (.int .i64 0) (.int .i64 0) (.int .i64 0) (.slice none 0 0) (.slice none 0 0) (.slice none 0 0))):=by
  intro W1 W2 pv cv lv ov m1 d1 m2 d2 m3 d3 m4 d4 H ⟨g1,g2,g3,g4⟩;have hlt:w.heap.size+1+1<W1.heap.size:=Nat.lt_of_lt_of_le (by rw[hw3];omega) H.below.size;have hse:∀b,b≠W1.heap.size->(W2.setCell ⟨W1.heap.size,8,none⟩ (.slice cv (fil2 own lc).length d2)).heap[b]?=W2.heap[b]?:=fun b hb=>Below.heap_setCell _ _ _ _ hb
  have hsz:(W2.setCell ⟨W1.heap.size,8,none⟩ (.slice cv (fil2 own lc).length d2)).heap.size=W2.heap.size:=by simp[World.setCell]
  have hold:∀b,b<W1.heap.size->some b≠blkOf cv->(W2.setCell ⟨W1.heap.size,8,none⟩ (.slice cv (fil2 own lc).length d2)).heap[b]?=W1.heap[b]?:=fun b hb hc=>by rw[hse b (by omega)];exact g1.block b hb fun e=>hc e
  have ncv:∀b,b<w.heap.size+3->some b≠blkOf cv:=fun b hb=>bk_ne fun g hg=>by have:=(H.b2 g hg).1;rw[hw3]at this;omega
  have nlv:∀b,b<w.heap.size+3->some b≠blkOf lv:=fun b hb=>bk_ne fun g hg=>by have:=(H.b3 g hg).1;rw[hw3]at this;omega
  have hown:(W2.setCell ⟨W1.heap.size,8,none⟩ (.slice cv (fil2 own lc).length d2)).cell? ⟨w.heap.size,0,none⟩=some (.int .i64 own):=by have h1:=hold w.heap.size (by omega) (ncv _ (by omega));rw[H.below.block _ (by rw[hw3];omega),w3_own]at h1;simp[World.cell?,h1]
  have hrow:=H.r3.kept (W':=W2.setCell ⟨W1.heap.size,8,none⟩ (.slice cv (fil2 own lc).length d2)) fun g hg=>hold g (H.b3 g hg).2 fun e=>H.ne g e.symm hg
  have hrow2:=g3.kept (W':=W2.setCell ⟨W1.heap.size,8,none⟩ (.slice cv (fil2 own lc).length d2)) fun g hg=>hse g (by have:=(H.b2 g hg).2;omega)
  refine(del3_row own w.heap.size lv m3 d3 ll _ hown hrow H.n3 H.s3 (fun e=>nlv _ (by omega) e.symm)).mono fun r W4 ⟨k1,k2,k3⟩=>?_
  have hall:∀b,b<W1.heap.size->some b≠blkOf cv->some b≠blkOf lv->W4.heap[b]?=W1.heap[b]?:=fun b hb hc hl=>by rw[k2.block b (by rw[hsz];omega) (fun e=>hl e)];exact hold b hb hc
  refine⟨k1,⟨?_,?_,?_,?_,?_⟩,hlt,?_,hall,?_,k3,?_,?_⟩
  .rw[k2.os];exact(g1.os.trans H.below.os).trans (w3_below w own xs).os
  .rw[k2.tape];exact(g1.tape.trans H.below.tape).trans (w3_below w own xs).tape
  .rw[k2.output];exact(g1.output.trans H.below.output).trans (w3_below w own xs).output
  .exact Nat.le_trans (by omega) (Nat.le_trans (Nat.le_of_lt g2) (by rw[<-hsz];exact k2.size))
  .intro b hb;rw[hall b (by omega) (ncv b (by omega)) (nlv b (by omega)),H.below.block b (by rw[hw3];omega),(w3_below w own xs).block b hb]
  .exact Nat.lt_of_lt_of_le g2 (by rw[<-hsz];exact k2.size)
  .exact hrow2.kept fun g hg=>k2.block g (by rw[hsz];have:=(H.b2 g hg).2;omega) fun e=>H.ne g hg e.symm
  .unfold blk11;rw[k2.block W1.heap.size (by rw[hsz];exact g2) (bk_ne fun g hg=>by have:=(H.b3 g hg).2;omega),setCell_eq_setRow _ _ _ _ _ _ _ g4,setRow_heap _ _ _ _ _ _ g4];rfl
  .unfold blk11;rw[hall _ hlt (ncv _ (by omega)) (nlv _ (by omega)),H.below.block _ (by rw[hw3];omega)];exact w3_res w own xs
 have HE : Aside (∀ (W1 W4 Wf : World) (pv cv lv ov : Option Addr) (m1 d1 m2 d2 m3 d3 m4 d4 : Nat), K W1 (.slice pv m1 d1) (.slice cv m2 d2) (.slice lv m3 d3) (.slice ov m4 d4) → Cp w (W3 w own xs) W1 lc ll cv lv m2 d2 m3 d3 →
     (Below w.heap.size w W4/\w.heap.size+1+1<W1.heap.size/\W1.heap.size<W4.heap.size/\(∀b,b<W1.heap.size->some b≠blkOf cv->some b≠blkOf lv->W4.heap[b]?=W1.heap[b]?)/\RowIs W4 2 cv (fil2 own lc).length d2 (cmC (fil2 own lc)).flatten/\RowIs W4 3 lv (fil3 own ll).length d3 (lgC (fil3 own ll)).flatten)->
     Wf.os=W4.os->Wf.tape=W4.tape->Wf.output=W4.output->Wf.heap.size=W4.heap.size->(∀b,b≠w.heap.size+1+1->b≠W1.heap.size->Wf.heap[b]?=W4.heap[b]?)->
     aJE (.agg #[.int .i64 o,.slice pv m1 d1,.bool b6,.int .u64 hi,.int .u64 lo,.int .i64 md,.int .i64 pr,.int .i64 oc,.slice cv (fil2 own lc).length d2,.slice lv (fil3 own ll).length d3,.slice ov m4 d4]) Wf):=by
  intro W1 W4 Wf pv cv lv ov m1 d1 m2 d2 m3 d3 m4 d4 HK H ⟨g1,g2,g3,g4,g5,g6⟩ h1 h2 h3 h4 h5;have hn:∀{co:Option Addr},(∀g,blkOf co=some g->(W3 w own xs).heap.size<=g/\g<W1.heap.size)->∀g,blkOf co=some g->Wf.heap[g]?=W4.heap[g]?:=fun hb g hg=>h5 g (by have:=(hb g hg).1;rw[hw3]at this;omega) (by have:=(hb g hg).2;omega)
  exact HP W1 pv m1 d1 cv m2 d2 lv m3 d3 ov m4 d4 Wf HK H ⟨h1.trans g1.os,h2.trans g1.tape,h3.trans g1.output,by rw[h4];exact g1.size,fun b hb=>(h5 b (by omega) (by omega)).trans (g1.block b hb)⟩
   (fun b hb hne hc hl=>(h5 b hne (by omega)).trans (g4 b hb hc hl)) (g5.kept (hn H.b2)) (g6.kept (hn H.b3))
 have H52':Aside _:=H52;subst hxs;clear H52 HP hw3
 go_enter Tryd.func26,Tryd.ntmps26
 go_wp2_with (first
  |(go_at_fn 52;refine Calls.mono H52'.out ?_;rintro r w1 ⟨pv,cv,lv,ov,m1,d1,m2,d2,m3,d3,m4,d4,rfl,hcp,hk⟩;have KC:=Lib.hid hcp;have KK:=Lib.hid hk;clear hcp hk)
  |(go_at_fn 53;refine(HA.out _ pv cv lv ov m1 d1 m2 d2 m3 d3 m4 d4 KC.out).mono ?_;rintro r w2 ⟨rfl,hq⟩;obtain⟨q0,q1,q2,q3,q4,q5,q6,q7,q8,q9,q10⟩:=(c11_of hq.2.2.2).1;have qf:=(c11_of hq.2.2.2).2 8;have K2:=Lib.hid hq;clear hq)
  |(go_at_fn 55;refine(HB.out _ _ pv cv lv ov m1 d1 m2 d2 m3 d3 m4 d4 KC.out K2.out).mono ?_;rintro r w4 ⟨rfl,hq⟩;obtain⟨s0,s1,s2,s3,s4,s5,s6,s7,s8,s9,s10⟩:=(c11_of hq.2.2.2.2.2.2.1).1;have sf:=(c11_of hq.2.2.2.2.2.2.1).2 9;obtain⟨u0,u1,u2,u3,u4,u5,u6,u7,u8,u9,u10⟩:=(c11_of hq.2.2.2.2.2.2.2).1;have uf0:=(c11_of hq.2.2.2.2.2.2.2).2 0;have uf1:=(c11_of hq.2.2.2.2.2.2.2).2 1;have uf2:=(c11_of hq.2.2.2.2.2.2.2).2 2;have uf3:=(c11_of hq.2.2.2.2.2.2.2).2 3;have uf4:=(c11_of hq.2.2.2.2.2.2.2).2 4;have uf5:=(c11_of hq.2.2.2.2.2.2.2).2 5;have uf6:=(c11_of hq.2.2.2.2.2.2.2).2 6;have uf7:=(c11_of hq.2.2.2.2.2.2.2).2 7;have uf8:=(c11_of hq.2.2.2.2.2.2.2).2 8;have uf9:=(c11_of hq.2.2.2.2.2.2.2).2 9;have uf10:=(c11_of hq.2.2.2.2.2.2.2).2 10;have hne:=hq.2.1;have K3:=Lib.hid hq;clear hq))
 (try simp only[Exit.inBlock,Exit.then])
 have hz:blk11 (w4.setCell ⟨w1.heap.size,9,none⟩ (.slice lv (fil3 own ll).length d3)) (w.heap.size+1+1) (.int .i64 0) (.slice none 0 0) (.bool false) (.int .u64 0) (.int .u64 0) (.int .i64 0) (.int .i64 0) (.int .i64 0) (.slice none 0 0) (.slice none 0 0) (.slice none 0 0):=by unfold blk11;rw[Below.heap_setCell _ _ _ _ (by have:=K3.out.2.1;show w.heap.size+1+1≠w1.heap.size;omega)];exact K3.out.2.2.2.2.2.2.2
 have hset:=set11 (w4.setCell ⟨w1.heap.size,9,none⟩ (.slice lv (fil3 own ll).length d3)) (w.heap.size+1+1) (.int .i64 o) (.slice pv m1 d1) (.bool b6) (.int .u64 hi) (.int .u64 lo) (.int .i64 md) (.int .i64 pr) (.int .i64 oc) (.slice cv (fil2 own lc).length d2) (.slice lv (fil3 own ll).length d3) (.slice ov m4 d4) _ _ _ _ _ _ _ _ _ _ _ hz;refine bodyPost_ret (v:=.agg #[.int .i64 o,.slice pv m1 d1,.bool b6,.int .u64 hi,.int .u64 lo,.int .i64 md,.int .i64 pr,.int .i64 oc,.slice cv (fil2 own lc).length d2,.slice lv (fil3 own ll).length d3,.slice ov m4 d4]) ?_ rfl ?_
 .exact res26 _ (w.heap.size+1+1) _ (.int .i64 o) (.slice pv m1 d1) (.bool b6) (.int .u64 hi) (.int .u64 lo) (.int .i64 md) (.int .i64 pr) (.int .i64 oc) (.slice cv (fil2 own lc).length d2) (.slice lv (fil3 own ll).length d3) (.slice ov m4 d4) rfl hset
 .have hrest:=set11_rest (w4.setCell ⟨w1.heap.size,9,none⟩ (.slice lv (fil3 own ll).length d3)) (w.heap.size+1+1) (.int .i64 o) (.slice pv m1 d1) (.bool b6) (.int .u64 hi) (.int .u64 lo) (.int .i64 md) (.int .i64 pr) (.int .i64 oc) (.slice cv (fil2 own lc).length d2) (.slice lv (fil3 own ll).length d3) (.slice ov m4 d4);exact⟨_,rfl,HE.out w1 w4 _ pv cv lv ov m1 d1 m2 d2 m3 d3 m4 d4 KK.out KC.out ⟨K3.out.1,K3.out.2.1,K3.out.2.2.1,K3.out.2.2.2.1,K3.out.2.2.2.2.1,K3.out.2.2.2.2.2.1⟩ hrest.os hrest.tape hrest.output (hrest.size.trans (World.size_setCell ..)) fun b h1 h2=>(hrest.rest b h1).trans (Below.heap_setCell _ _ _ _ h2)⟩
end Go.Proofs.YtgfmodmeimhhpaaDoor
