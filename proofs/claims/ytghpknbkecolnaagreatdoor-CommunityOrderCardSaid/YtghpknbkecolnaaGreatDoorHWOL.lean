/- Walked by hand: without (rows of three). -/
import Derived.Test.YtghpknbkecolnaaGreatDoorHDGL
import Derived.Lib.OwnBridge
namespace Go.Proofs.YtghpknbkecolnaaGreatDoor
namespace HL
open Go.RowKit Go.Lib Go.VM
set_option maxHeartbeats 2000000 in
set_option maxRecDepth 100000 in
theorem clone_own (ad : Addr) (n c : Nat) (news : List Value) (w : World) (hl : news.length = n * 3) (hn : n ≤ 4294967295)
  (hc:∀ j u,news[j]?=some u→w.cell? (ad.add j)=some u) (h1:∀ u∈news,u.oneCell'=true) :
  Calls Tryz.prog 77 #[.slice (some ad) n c] w fun r w'=>∃ v',r=.returned v'∧w'.ownsRow w.heap.size 51 3 v' n news∧v'≠.slice none 0 0∧Below w.heap.size w w':=by
 obtain ⟨i0,hi0,hz0,hzs,hzb⟩:=info_parts info_e
 have A:Aside (∀ j u,news[j]?=some u→w.cell? (ad.add j)=some u):=hc
 have q22:∀ (w:World) (a:Option Addr) (n c n' c':Nat),(binOp .eql 23 (.slice a n c) (.slice none n' c')).run Tryz.prog w=.ok (.bool a.isNone) w:=fun w a n c n' c'=>Lib.run_eql_slice_nil w _ _ a n c n' c' Tryz.underlying23
 clear hc
 go_enter Tryz.func77,Tryz.ntmps77
 go_wp2_with (at_builtin; refine wpList_append_own _ rfl _ _ 23 rfl w.heap.size 51 i0 (.agg #[.int .i64 0,.int .i64 0,.int .i64 0]) 3 24 Tryz.underlying23 hi0 hz0 hzs hzb rfl (by omega) _ _ _ rfl (World.ownsRow_made w #[] 0 (Nat.le_refl _) (Nat.zero_le _) (by simp)) ad n c news rfl ?qc1 ?qc2 ?qc3 ?qc4 ?qc5 ?qc6 ?_)
 case qc1=>exact hl
 case qc2 =>
  intro j u hj
  exact Lib.cell?_alloc_some _ (A.out j u hj)
 case qc3=>exact h1
 case qc4=>rw [Nat.zero_add]; unfold maxLen; omega
 case qc5=>rw [Nat.zero_add]; omega
 case qc6=>simp
 intro v' w1 hown hgrow hnil
 go_wp2
 go_ret
 refine ⟨v',rfl,by simpa using hown,?_,?_⟩
 · exact hnil
 · exact ((Below.refl _ w).alloc (Nat.le_refl _) _).grown hgrow (by simp) (by intro k hk; simp [Value.ownBlock] at hk; omega)
theorem clone_nil (n c:Nat) (w:World):Calls Tryz.prog 77 #[.slice none n c] w fun r w'=>r=.returned (.slice none 0 0)∧w=w':=by
 have q22:∀ (w:World) (a:Option Addr) (n c n' c':Nat),(binOp .eql 23 (.slice a n c) (.slice none n' c')).run Tryz.prog w=.ok (.bool a.isNone) w:=fun w a n c n' c'=>Lib.run_eql_slice_nil w _ _ a n c n' c' Tryz.underlying23
 go_enter Tryz.func77,Tryz.ntmps77
 go_wp2
 go_ret
 exact ⟨rfl,rfl⟩
set_option maxRecDepth 100000 in
theorem same_fn (a b b2 x y y2 : Int) (cb : Nat) (w : World) (h0 : w.cell? ⟨cb, 0, none⟩ = some (.int .i64 x)) (h1 : w.cell? ⟨cb, 1, none⟩ = some (.int .i64 y)) (h2 : w.cell? ⟨cb, 2, none⟩ = some (.int .i64 y2)) :
  Calls Tryz.prog 80 #[.agg #[.int .i64 a,.int .i64 b,.int .i64 b2],.pointer (some ⟨cb,0,none⟩)] w fun r w'=>r=.returned (.bool (a==x&&(b==y&&b2==y2)))∧Below w.heap.size w w':=by
 have hcb:cb < w.heap.size:=block_lt_of_cell h0
 go_enter Tryz.func80,Tryz.ntmps80
 go_wp2
 all_goals
  go_ret
  exact ⟨by simp [*],(Below.refl _ _).alloc (Nat.le_refl _) _⟩
/-- The cells of pairs. -/
def cellsC (l:List (Int×Int×Int)):List (List Value):=l.map fun c=>[.int .i64 c.1,.int .i64 c.2.1,.int .i64 c.2.2]
def prC (x y y2:Int):List Value→Bool
 | [.int _ a,.int _ b,.int _ b2]=>a==x&&(b==y&&b2==y2)
 | _=>false
set_option maxHeartbeats 2000000 in
set_option maxRecDepth 100000 in
theorem without_ok (ad : Addr) (n c : Nat) (l : List (Int × Int × Int)) (x y y2 : Int) (w : World) (hl : l.length = n) (hn : n ≤ 4294967295) (hc : ∀ j u, (cellsC l).flatten[j]? = some u → w.cell? (ad.add j) = some u) :
  Calls Tryz.prog 56 #[.slice (some ad) n c,.agg #[.int .i64 x,.int .i64 y,.int .i64 y2]] w fun r w'=>∃ v',r=.returned v'∧w'.ownsRow w.heap.size 51 3 v' (l.filter fun p=>!(p.1==x&&(p.2.1==y&&p.2.2==y2))).length (cellsC (l.filter fun p=>!(p.1==x&&(p.2.1==y&&p.2.2==y2)))).flatten∧v'≠.slice none 0 0∧Below w.heap.size w w':=by
 have e71:∀ args w,(callFunc 77 args).run Tryz.prog w=.ok (.enter 77 args) w:=fun args w=>by kernel_rfl
 have e73:∀ args w,(callFunc 79 args).run Tryz.prog w=.ok (.enter 79 args) w:=fun args w=>by kernel_rfl
 have e74:∀ args w,(callFunc 80 args).run Tryz.prog w=.ok (.enter 80 args) w:=fun args w=>by kernel_rfl
 have hcc:∀ q∈cellsC l,q.length=3:=fun q hq=>by obtain ⟨p,_,rfl⟩:=List.mem_map.1 hq; rfl
 have hlen:(cellsC l).flatten.length=n * 3:=by rw [flat_len2 _ hcc]; simp [cellsC,hl]
 have h1:∀ u∈(cellsC l).flatten,u.oneCell'=true:=fun u hu=>by
  obtain ⟨q,hq,hu⟩:=List.mem_flatten.1 hu
  obtain ⟨p,_,rfl⟩:=List.mem_map.1 hq
  simp at hu
  rcases hu with rfl | rfl | rfl <;> rfl
 obtain ⟨W,hW⟩:∃ W,W=w.alloc (.cells #[.int .i64 x,.int .i64 y,.int .i64 y2] 51):=⟨_,rfl⟩
 have hWs:W.heap.size=w.heap.size+1:=by rw [hW]; exact Array.size_push _
 have hWB:Below w.heap.size w W:=by rw [hW]; exact (Below.refl _ w).alloc (Nat.le_refl _) _
 have hcl:=clone_own ad n c (cellsC l).flatten W hlen hn (fun j u hj=>by rw [hW]; exact Lib.cell?_alloc_some _ (hc j u hj)) h1
 have hdel : ∀ v' w1, w1.ownsRow W.heap.size 51 3 v' n (cellsC l).flatten → v' ≠ .slice none 0 0 → Below W.heap.size W w1 →
     Calls Tryz.prog 79 #[v',.func (.func 80) #[] #[.pointer (some ⟨w.heap.size,0,none⟩)]] w1 fun r w'=>∃ v',r=.returned v'∧w'.ownsRow w.heap.size 51 3 v' (l.filter fun p=>!(p.1==x&&(p.2.1==y&&p.2.2==y2))).length (cellsC (l.filter fun p=>!(p.1==x&&(p.2.1==y&&p.2.2==y2)))).flatten∧v'≠.slice none 0 0∧Below w.heap.size w w':=fun v' w1 hown hne hb=>by
  rcases hown.2 with ⟨h,_⟩ | ⟨g,cap,cur,rfl,hg,hh,hnc,hm,hs,ht⟩
  · exact absurd h hne
  · have hcb0:W.cell? ⟨w.heap.size,0,none⟩=some (.int .i64 x):=by rw [hW]; exact World.cell?_alloc_at (w:=w) #[.int .i64 x,.int .i64 y,.int .i64 y2] 51 w.heap.size 0 rfl
    have hcb1:W.cell? ⟨w.heap.size,1,none⟩=some (.int .i64 y):=by rw [hW]; exact World.cell?_alloc_at (w:=w) #[.int .i64 x,.int .i64 y,.int .i64 y2] 51 w.heap.size 1 rfl
    have hcb2:W.cell? ⟨w.heap.size,2,none⟩=some (.int .i64 y2):=by rw [hW]; exact World.cell?_alloc_at (w:=w) #[.int .i64 x,.int .i64 y,.int .i64 y2] 51 w.heap.size 2 rfl
    have:=del_fn 80 #[.pointer (some ⟨w.heap.size,0,none⟩)] (prC x y y2) (fun W'=>W'.cell? ⟨w.heap.size,0,none⟩=some (.int .i64 x)∧W'.cell? ⟨w.heap.size,1,none⟩=some (.int .i64 y)∧W'.cell? ⟨w.heap.size,2,none⟩=some (.int .i64 y2)) (fun q=>∃ a b b2:Int,q=[.int .i64 a,.int .i64 b,.int .i64 b2]) e74
     (fun W' q ⟨k0,k1,k2⟩ ⟨a,b,b2,hq⟩=>by subst hq; exact same_fn a b b2 x y y2 w.heap.size W' k0 k1 k2) g n cap cur 51 (cellsC l) w1
     (fun W' hgr=>by
      have hlt:w.heap.size < w1.heap.size:=Nat.lt_of_lt_of_le (by rw [hWs]; exact Nat.lt_succ_self _) hb.size
      have hbk:=hgr.block w.heap.size hlt (by rw [hWs] at hg; intro e; cases e; omega)
      have hbk1:=hb.block w.heap.size (by rw [hWs]; exact Nat.lt_succ_self _)
      exact ⟨by rw [World.cell?_of_block (w:=w1) (a:=⟨w.heap.size,0,none⟩) hbk,World.cell?_of_block (w:=W) (a:=⟨w.heap.size,0,none⟩) hbk1]; exact hcb0,by rw [World.cell?_of_block (w:=w1) (a:=⟨w.heap.size,1,none⟩) hbk,World.cell?_of_block (w:=W) (a:=⟨w.heap.size,1,none⟩) hbk1]; exact hcb1,by rw [World.cell?_of_block (w:=w1) (a:=⟨w.heap.size,2,none⟩) hbk,World.cell?_of_block (w:=W) (a:=⟨w.heap.size,2,none⟩) hbk1]; exact hcb2⟩)
     (by simp [cellsC,hl]) (fun q hq=>by
      obtain ⟨p,_,rfl⟩:=List.mem_map.1 hq
      exact ⟨⟨_,_,_,rfl⟩,rfl,fun v hv=>by simp at hv; rcases hv with rfl | rfl | rfl <;> exact ⟨_,rfl⟩⟩) hn hh hs hnc ht
    have hf:((cellsC l).filter fun q=>!prC x y y2 q)=cellsC (l.filter fun p=>!(p.1==x&&(p.2.1==y&&p.2.2==y2))):=by
     unfold cellsC
     rw [List.filter_map]
     rfl
    rw [hf] at this
    refine this.mono fun r w' ⟨e1,e2,cur',e3,e4,e5⟩=>⟨_,e1,⟨?_,.inr ⟨g,cap,cur',?_,by omega,e3,?_,hm,e4,?_⟩⟩,by simp,?_⟩
    · rw [flat_len2 _ (fun q hq=>by obtain ⟨p,_,rfl⟩:=List.mem_map.1 hq; rfl)]; simp [cellsC]
    · simp [cellsC]
    · have:=List.length_filter_le (fun p:Int×Int×Int=>!(p.1==x&&(p.2.1==y&&p.2.2==y2))) l; omega
    · have hlc:(cellsC (l.filter fun p=>!(p.1==x&&(p.2.1==y&&p.2.2==y2)))).length=(l.filter fun p=>!(p.1==x&&(p.2.1==y&&p.2.2==y2))).length:=by simp [cellsC]
      rw [hlc] at e5
      exact e5
    · exact (hWB.trans (hb.mono (by omega))).trans ⟨e2.os,e2.tape,e2.output,e2.size,fun k hk=>e2.block k (Nat.lt_of_lt_of_le hk (Nat.le_trans hWB.size hb.size)) (by intro e; cases e; omega)⟩
 have HD:Aside _:=hdel
 rw [hW] at hcl
 clear hdel hcc hlen h1 hc hWB hWs
 subst hW
 go_enter Tryz.func56,Tryz.ntmps56
 go_wp2_with (first
  | (go_at_fn 77; refine hcl.mono ?_; rintro r w1 ⟨v',rfl,ho1,ho2,ho3⟩; have K:=Lib.hid (And.intro ho1 (And.intro ho2 ho3)); clear ho1 ho2 ho3)
  | (go_at_fn 79; refine (HD.out _ _ K.out.1 K.out.2.1 K.out.2.2).mono ?_; rintro r w2 ⟨v2,rfl,hz⟩; have K2:=Lib.hid hz; clear hz))
 go_ret
 exact ⟨_,rfl,K2.out⟩
set_option maxHeartbeats 2000000 in
set_option maxRecDepth 100000 in
theorem idx_nil (f:Nat) (lb:Array Value) (w:World):Calls Tryz.prog 102 #[.slice none 0 0,.func (.func f) #[] lb] w fun r w'=>r=.returned (.int .i64 (-1))∧w=w':=by
 go_enter Tryz.func102,Tryz.ntmps102
 go_wp2
 go_loopg [5,8] 0 (fun _ _ s8 wr=>s8=.int .i64 0∧w=wr)
 case atStart=>exact ⟨rfl,rfl⟩
 case round =>
  obtain ⟨rfl,rfl⟩:=hrel
  go_wp2
  go_ret
  exact ⟨rfl,rfl⟩
set_option maxHeartbeats 2000000 in
set_option maxRecDepth 100000 in
theorem del_nil (f:Nat) (lb:Array Value) (w:World):Calls Tryz.prog 79 #[.slice none 0 0,.func (.func f) #[] lb] w fun r w'=>r=.returned (.slice none 0 0)∧w=w':=by
 have e99:∀ args w,(callFunc 102 args).run Tryz.prog w=.ok (.enter 102 args) w:=fun args w=>by kernel_rfl
 go_enter Tryz.func79,Tryz.ntmps79
 go_wp2_with (go_at_fn 102; refine (idx_nil f lb _).mono ?_; rintro r w' ⟨rfl,rfl⟩)
 go_ret
 exact ⟨rfl,rfl⟩
set_option maxHeartbeats 2000000 in
set_option maxRecDepth 100000 in
theorem without_nil (x y y2:Int) (w:World):Calls Tryz.prog 56 #[.slice none 0 0,.agg #[.int .i64 x,.int .i64 y,.int .i64 y2]] w fun r w'=>r=.returned (.slice none 0 0)∧Below w.heap.size w w':=by
 have e71:∀ args w,(callFunc 77 args).run Tryz.prog w=.ok (.enter 77 args) w:=fun args w=>by kernel_rfl
 have e73:∀ args w,(callFunc 79 args).run Tryz.prog w=.ok (.enter 79 args) w:=fun args w=>by kernel_rfl
 go_enter Tryz.func56,Tryz.ntmps56
 go_wp2_with (first
  | (go_at_fn 77; refine (clone_nil 0 0 _).mono ?_; rintro r w1 ⟨rfl,rfl⟩)
  | (go_at_fn 79; refine (del_nil 80 _ _).mono ?_; rintro r w2 ⟨rfl,rfl⟩))
 go_ret
 exact ⟨rfl,(Below.refl _ _).alloc (Nat.le_refl _) _⟩
end HL
end Go.Proofs.YtghpknbkecolnaaGreatDoor
