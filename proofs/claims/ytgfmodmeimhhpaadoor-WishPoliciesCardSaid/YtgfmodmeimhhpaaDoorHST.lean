/- Walked by hand: Strip. -/
import Derived.Test.YtgfmodmeimhhpaaDoorHDC
import Derived.Test.YtgfmodmeimhhpaaDoorHDL
import Derived.Test.YtgfmodmeimhhpaaDoorGA
import Derived.Test.YtgfmodmeimhhpaaDoorZO
namespace Go.Proofs.YtgfmodmeimhhpaaDoor
open Go.RowKit Go.Lib Go.VM
set_option maxHeartbeats 2000000 in
set_option maxRecDepth 100000 in
theorem out2_fn (a b own : Int) (cb : Nat) (w : World) (h0 : w.cell? ⟨cb, 0, none⟩ = some (.int .i64 own)) :
  Calls Tryd.prog 54 #[.agg #[.int .i64 a,.int .i64 b],.pointer (some ⟨cb,0,none⟩)] w fun r w'=>r=.returned (.bool (a==0||a==own))∧Below w.heap.size w w':=by
 have hcb:cb < w.heap.size:=block_lt_of_cell h0
 go_enter Tryd.func54,Tryd.ntmps54
 go_wp2
 all_goals
  go_ret
  exact ⟨by simp [*],(Below.refl _ _).alloc (Nat.le_refl _) _⟩
set_option maxHeartbeats 2000000 in
set_option maxRecDepth 100000 in
theorem out3_fn (a b c own : Int) (cb : Nat) (w : World) (h0 : w.cell? ⟨cb, 0, none⟩ = some (.int .i64 own)) :
  Calls Tryd.prog 56 #[.agg #[.int .i64 a,.int .i64 b,.int .i64 c],.pointer (some ⟨cb,0,none⟩)] w fun r w'=>r=.returned (.bool (a==own))∧Below w.heap.size w w':=by
 have hcb:cb < w.heap.size:=block_lt_of_cell h0
 go_enter Tryd.func56,Tryd.ntmps56
 go_wp2
 all_goals
  go_ret
  exact ⟨by simp [*],(Below.refl _ _).alloc (Nat.le_refl _) _⟩
/- the nil row -/
set_option maxHeartbeats 2000000 in
set_option maxRecDepth 100000 in
theorem idx2_nil (lb:Array Value) (w:World):Calls Tryd.prog 82 #[.slice none 0 0,.func (.func 54) #[] lb] w fun r w'=>r=.returned (.int .i64 (-1))∧w=w':=by
 go_enter Tryd.func82,Tryd.ntmps82
 go_wp2
 go_loopg [5,8] 0 (fun _ _ s8 wr=>s8=.int .i64 0∧w=wr)
 case atStart=>exact ⟨rfl,rfl⟩
 case round =>
  obtain ⟨rfl,rfl⟩:=hrel
  go_wp2
  go_ret
  exact ⟨rfl,rfl⟩
set_option maxHeartbeats 2000000 in
set_option maxRecDepth 100000 in
theorem del2_nil (lb:Array Value) (w:World):Calls Tryd.prog 53 #[.slice none 0 0,.func (.func 54) #[] lb] w fun r w'=>r=.returned (.slice none 0 0)∧w=w':=by
 have e82:∀ args w,(callFunc 82 args).run Tryd.prog w=.ok (.enter 82 args) w:=fun args w=>by kernel_rfl
 go_enter Tryd.func53,Tryd.ntmps53
 go_wp2_with (go_at_fn 82; refine (idx2_nil lb _).mono ?_; rintro r w' ⟨rfl,rfl⟩)
 go_ret
 exact ⟨rfl,rfl⟩
set_option maxHeartbeats 2000000 in
set_option maxRecDepth 100000 in
theorem idx3_nil (lb:Array Value) (w:World):Calls Tryd.prog 83 #[.slice none 0 0,.func (.func 56) #[] lb] w fun r w'=>r=.returned (.int .i64 (-1))∧w=w':=by
 go_enter Tryd.func83,Tryd.ntmps83
 go_wp2
 go_loopg [5,8] 0 (fun _ _ s8 wr=>s8=.int .i64 0∧w=wr)
 case atStart=>exact ⟨rfl,rfl⟩
 case round =>
  obtain ⟨rfl,rfl⟩:=hrel
  go_wp2
  go_ret
  exact ⟨rfl,rfl⟩
set_option maxHeartbeats 2000000 in
set_option maxRecDepth 100000 in
theorem del3_nil (lb:Array Value) (w:World):Calls Tryd.prog 55 #[.slice none 0 0,.func (.func 56) #[] lb] w fun r w'=>r=.returned (.slice none 0 0)∧w=w':=by
 have e83:∀ args w,(callFunc 83 args).run Tryd.prog w=.ok (.enter 83 args) w:=fun args w=>by kernel_rfl
 go_enter Tryd.func55,Tryd.ntmps55
 go_wp2_with (go_at_fn 83; refine (idx3_nil lb _).mono ?_; rintro r w' ⟨rfl,rfl⟩)
 go_ret
 exact ⟨rfl,rfl⟩
/- rows of numbers -/
def cmC (l:List (Int×Int)):List (List Value):=l.map fun c=>[.int .i64 c.1,.int .i64 c.2]
def lgC (l:List (Int×Int×Int)):List (List Value):=l.map fun c=>[.int .i64 c.1,.int .i64 c.2.1,.int .i64 c.2.2]
def cmW (l:List (Int×Int)):List V:=(l.map fun c=>[V.int .i64 c.1,.int .i64 c.2]).flatten
def lgW (l:List (Int×Int×Int)):List V:=(l.map fun c=>[V.int .i64 c.1,.int .i64 c.2.1,.int .i64 c.2.2]).flatten
theorem cm_rows {w:World} {Q:Nat→Prop}:∀ {l:List (Int×Int)} {rows:List Value},HRows (HC w Q tyCm) l rows→rows=(cmC l).flatten
 | [],_,h=>h
 | c::l,_,⟨x,r,e,⟨p,q,e1,e2,e3⟩,h2⟩=>by
  have e2:p=[.int .i64 c.1]:=e2
  have e3:q=[.int .i64 c.2]:=e3
  rw [e,e1,e2,e3,cm_rows h2]; rfl
theorem lg_rows {w:World} {Q:Nat→Prop}:∀ {l:List (Int×Int×Int)} {rows:List Value},HRows (HC w Q tyLg) l rows→rows=(lgC l).flatten
 | [],_,h=>h
 | c::l,_,⟨x,r,e,⟨p,q,e1,e2,s,u,e3,e4,e5⟩,h2⟩=>by
  have e2:p=[.int .i64 c.1]:=e2
  have e4:s=[.int .i64 c.2.1]:=e4
  have e5:u=[.int .i64 c.2.2]:=e5
  rw [e,e1,e2,e3,e4,e5,lg_rows h2]; rfl
theorem cm_rel (w:World) (A:Pl) (B:List Nat):∀ l:List (Int×Int),RelL w A B (cmW l) (cmC l).flatten
 | []=>.nil
 | c::l=>.cons _ _ _ _ (.int _ _) (.cons _ _ _ _ (.int _ _) (cm_rel w A B l))
theorem lg_rel (w:World) (A:Pl) (B:List Nat):∀ l:List (Int×Int×Int),RelL w A B (lgW l) (lgC l).flatten
 | []=>.nil
 | c::l=>.cons _ _ _ _ (.int _ _) (.cons _ _ _ _ (.int _ _) (.cons _ _ _ _ (.int _ _) (lg_rel w A B l)))
def fil2 (own:Int) (l:List (Int×Int)):List (Int×Int):=l.filter fun c=>!(c.1==0||c.1==own)
def fil3 (own:Int) (l:List (Int×Int×Int)):List (Int×Int×Int):=l.filter fun c=>!(c.1==own)
def pr2 (own:Int):List Value→Bool
 | .int _ a::_=>a==0||a==own
 | _=>false
def pr3 (own:Int):List Value→Bool
 | .int _ a::_=>a==own
 | _=>false
/-- A row of the call's own,as it is found and left. -/
def RowIs (W:World) (z:Nat) (co:Option Addr) (n d:Nat) (rows:List Value):Prop :=
 (co=none∧n=0∧d=0∧rows=[])∨∃ g cur e,∃ fr:Nat×Nat,co=some ⟨g,0,none⟩∧W.heap[g]?=some (.cells cur e fr)∧Fz fr cur.size∧n≤d∧d≤maxLen∧cur.size=d * z∧cur.toList.take (n * z)=rows
def blkOf (co:Option Addr):Option Nat:=co.map (·.block)
theorem RowIs.kept {W W':World} {z:Nat} {co:Option Addr} {n d:Nat} {rows:List Value} (h:RowIs W z co n d rows) (hk:∀ g,blkOf co=some g→W'.heap[g]?=W.heap[g]?):RowIs W' z co n d rows:=by
 rcases h with h | ⟨g,cur,e,fr,rfl,h2,h3⟩
 · exact .inl h
 · exact .inr ⟨g,cur,e,fr,rfl,by rw [hk g rfl]; exact h2,h3⟩
theorem del2_row (own : Int) (cb : Nat) (co : Option Addr) (n d : Nat) (l : List (Int × Int)) (W : World) (hb : W.cell? ⟨cb, 0, none⟩ = some (.int .i64 own)) (hr : RowIs W 2 co n d (cmC l).flatten) (hn : n = l.length) (hl : l.length ≤ 100000) (hne : blkOf co ≠ some cb) :
  Calls Tryd.prog 53 #[.slice co n d,.func (.func 54) #[] #[.pointer (some ⟨cb,0,none⟩)]] W fun r W'=>r=.returned (.slice co (fil2 own l).length d)∧W.grownBy W' (blkOf co)∧RowIs W' 2 co (fil2 own l).length d (cmC (fil2 own l)).flatten:=by
 have e54:∀ args w,(callFunc 54 args).run Tryd.prog w=.ok (.enter 54 args) w:=fun args w=>by kernel_rfl
 rcases hr with ⟨rfl,h1,rfl,h2⟩ | ⟨g,cur,e,fr,rfl,h2,h3,h4,h5,h6,h7⟩
 · have hl0:l=[]:=List.eq_nil_of_length_eq_zero (by omega)
   subst hl0
   subst h1
   refine (del2_nil _ W).mono fun r W' ⟨e1,e2⟩=>?_
   subst e2
   exact ⟨e1,grownBy_refl _ _,.inl ⟨rfl,rfl,rfl,rfl⟩⟩
 · subst hn
   have hcb:cb < W.heap.size:=block_lt_of_cell hb
   have:=HC2.del_fn 54 #[.pointer (some ⟨cb,0,none⟩)] (pr2 own) (fun W'=>W'.cell? ⟨cb,0,none⟩=some (.int .i64 own)) (fun q=>∃ a b:Int,q=[.int .i64 a,.int .i64 b]) e54
    (fun W' q k0 ⟨a,b,hq⟩=>by subst hq; exact out2_fn a b own cb W' k0) g l.length d cur e fr (cmC l) W
    (fun W' hg=>by rw [World.cell?_of_block (w:=W) (a:=⟨cb,0,none⟩) (hg.block cb hcb fun e=>hne (by rw [e]; rfl))]; exact hb)
    (by simp [cmC]) (fun q hq=>by
     obtain ⟨p,_,rfl⟩:=List.mem_map.1 hq
     exact ⟨⟨_,_,rfl⟩,rfl,fun v hv=>by simp at hv; rcases hv with rfl | rfl <;> exact ⟨_,rfl⟩⟩) (by omega) h2 h3 h6 h4 h7
   have hf:((cmC l).filter fun q=>!pr2 own q)=cmC (fil2 own l):=by
    unfold cmC fil2
    rw [List.filter_map]
    rfl
   rw [hf] at this
   have hlen:(cmC (fil2 own l)).length=(fil2 own l).length:=by simp [cmC]
   rw [hlen] at this
   refine this.mono fun r W' ⟨e1,e2,cur',e3,e4,e5⟩=>⟨e1,e2,.inr ⟨g,cur',e,fr,rfl,e3,by rw [e4,← h6]; exact h3,Nat.le_trans (List.length_filter_le _ _) h4,h5,e4,e5⟩⟩
theorem del3_row (own : Int) (cb : Nat) (co : Option Addr) (n d : Nat) (l : List (Int × Int × Int)) (W : World) (hb : W.cell? ⟨cb, 0, none⟩ = some (.int .i64 own)) (hr : RowIs W 3 co n d (lgC l).flatten) (hn : n = l.length) (hl : l.length ≤ 100000) (hne : blkOf co ≠ some cb) :
  Calls Tryd.prog 55 #[.slice co n d,.func (.func 56) #[] #[.pointer (some ⟨cb,0,none⟩)]] W fun r W'=>r=.returned (.slice co (fil3 own l).length d)∧W.grownBy W' (blkOf co)∧RowIs W' 3 co (fil3 own l).length d (lgC (fil3 own l)).flatten:=by
 have e56:∀ args w,(callFunc 56 args).run Tryd.prog w=.ok (.enter 56 args) w:=fun args w=>by kernel_rfl
 rcases hr with ⟨rfl,h1,rfl,h2⟩ | ⟨g,cur,e,fr,rfl,h2,h3,h4,h5,h6,h7⟩
 · have hl0:l=[]:=List.eq_nil_of_length_eq_zero (by omega)
   subst hl0
   subst h1
   refine (del3_nil _ W).mono fun r W' ⟨e1,e2⟩=>?_
   subst e2
   exact ⟨e1,grownBy_refl _ _,.inl ⟨rfl,rfl,rfl,rfl⟩⟩
 · subst hn
   have hcb:cb < W.heap.size:=block_lt_of_cell hb
   have:=HC3.del_fn 56 #[.pointer (some ⟨cb,0,none⟩)] (pr3 own) (fun W'=>W'.cell? ⟨cb,0,none⟩=some (.int .i64 own)) (fun q=>∃ a b c:Int,q=[.int .i64 a,.int .i64 b,.int .i64 c]) e56
    (fun W' q k0 ⟨a,b,c,hq⟩=>by subst hq; exact out3_fn a b c own cb W' k0) g l.length d cur e fr (lgC l) W
    (fun W' hg=>by rw [World.cell?_of_block (w:=W) (a:=⟨cb,0,none⟩) (hg.block cb hcb fun e=>hne (by rw [e]; rfl))]; exact hb)
    (by simp [lgC]) (fun q hq=>by
     obtain ⟨p,_,rfl⟩:=List.mem_map.1 hq
     exact ⟨⟨_,_,_,rfl⟩,rfl,fun v hv=>by simp at hv; rcases hv with rfl | rfl | rfl <;> exact ⟨_,rfl⟩⟩) (by omega) h2 h3 h6 h4 h7
   have hf:((lgC l).filter fun q=>!pr3 own q)=lgC (fil3 own l):=by
    unfold lgC fil3
    rw [List.filter_map]
    rfl
   rw [hf] at this
   have hlen:(lgC (fil3 own l)).length=(fil3 own l).length:=by simp [lgC]
   rw [hlen] at this
   refine this.mono fun r W' ⟨e1,e2,cur',e3,e4,e5⟩=>⟨e1,e2,.inr ⟨g,cur',e,fr,rfl,e3,by rw [e4,← h6]; exact h3,Nat.le_trans (List.length_filter_le _ _) h4,h5,e4,e5⟩⟩
/-- Eleven cells. -/
def C11 (W:World) (b:Nat) (x0 x1 x2 x3 x4 x5 x6 x7 x8 x9 x10:Value):Prop :=
 W.cell? ⟨b,0,none⟩=some x0∧W.cell? ⟨b,1,none⟩=some x1∧W.cell? ⟨b,2,none⟩=some x2∧W.cell? ⟨b,3,none⟩=some x3∧W.cell? ⟨b,4,none⟩=some x4∧W.cell? ⟨b,5,none⟩=some x5∧W.cell? ⟨b,6,none⟩=some x6∧W.cell? ⟨b,7,none⟩=some x7∧W.cell? ⟨b,8,none⟩=some x8∧W.cell? ⟨b,9,none⟩=some x9∧W.cell? ⟨b,10,none⟩=some x10
def F11 (W:World) (b:Nat):Prop:=∀ j,W.frozen? ⟨b,j,none⟩=false
theorem c11_of {W:World} {b:Nat} {x0 x1 x2 x3 x4 x5 x6 x7 x8 x9 x10:Value} {e:TypeId} (h:W.heap[b]?=some (.cells #[x0,x1,x2,x3,x4,x5,x6,x7,x8,x9,x10] e (0,0))):C11 W b x0 x1 x2 x3 x4 x5 x6 x7 x8 x9 x10∧F11 W b:=by
 refine ⟨⟨?_,?_,?_,?_,?_,?_,?_,?_,?_,?_,?_⟩,fun j=>?_⟩
 all_goals simp [World.cell?,World.frozen?,h]
end Go.Proofs.YtgfmodmeimhhpaaDoor
