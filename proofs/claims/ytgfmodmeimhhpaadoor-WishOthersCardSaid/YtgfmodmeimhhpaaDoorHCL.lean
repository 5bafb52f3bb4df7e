/- Walked by hand: slices.Clone. -/
import Derived.Test.YtgfmodmeimhhpaaDoorJA
import Derived.Test.YtgfmodmeimhhpaaDoorDP
import Derived.Deep.LoopGhost
import Derived.Lib.Mul64
open Nat(zero_add)
namespace Go.Proofs.YtgfmodmeimhhpaaDoor
open Go.RowKit Go.Lib Go.VM
theorem info_i:(Tryd.prog.info? 3).map (fun i=>(i.zero,i.size,i.bytes))=some (some (.int .i64 0),1,8):=by kernel_rfl
set_option maxHeartbeats 2000000 in
set_option maxRecDepth 100000 in
theorem clone_i(ad:Addr)(n c:Nat)(news:List Value)(w:World)(hl:news.length=n*1)(hn:n<=4294967295)
  (hc:∀j u,news[j]?=some u->w.cell? (ad.add j)=some u) (h1:∀u∈news,u.oneCell'=true) :
  Calls Tryd.prog 74 #[.slice (some ad) n c] w fun r w'=>∃v',r=.returned v'/\w'.ownsRow w.heap.size 3 1 v' n news/\v'≠.slice none 0 0/\Below w.heap.size w w':=by
 obtain⟨i0,hi0,hz0,hzs,hzb⟩:=info_parts info_i;have A:Aside (∀j u,news[j]?=some u->w.cell? (ad.add j)=some u):=hc;have q22:∀(w:World) (a:Option Addr) (n c n' c':Nat),(binOp .eql 22 (.slice a n c) (.slice none n' c')).run Tryd.prog w=.ok (.bool a.isNone) w:=fun w a n c n' c'=>Lib.run_eql_slice_nil w _ _ a n c n' c' Tryd.underlying22
 clear hc
 go_enter Tryd.func74,Tryd.ntmps74
 go_wp2_with (at_builtin;refine wpList_append_own _ rfl _ _ 22 rfl w.heap.size 3 i0 (.int .i64 0) 1 8 Tryd.underlying22 hi0 hz0 hzs hzb rfl (by omega) _ _ _ rfl (World.ownsRow_made w #[] 0 (Nat.le_refl _) (Nat.zero_le _) (by simp)) ad n c news rfl ?qc1 ?qc2 ?qc3 ?qc4 ?qc5 ?qc6 ?_)
 case qc1=>exact hl
 case qc2=>intro j u hj;exact Lib.cell?_alloc_some _ (A.out j u hj)
 case qc3=>exact h1
 case qc4=>rw[zero_add];unfold maxLen;omega
 case qc5=>rw[zero_add];omega
 case qc6=>simp
 intro v' w1 hown hgrow hnil
 go_wp2
 go_ret
 refine⟨v',rfl,by simpa using hown,?_,?_⟩
 .exact hnil
 .exact((Below.refl _ w).alloc (Nat.le_refl _) _).grown hgrow (by simp) (by intro k hk;simp[Value.ownBlock]at hk;omega)
theorem clone_inil(n c:Nat)(w:World):Calls Tryd.prog 74 #[.slice none n c] w fun r w'=>r=.returned (.slice none 0 0)/\w=w':=by
 have q22:∀(w:World) (a:Option Addr) (n c n' c':Nat),(binOp .eql 22 (.slice a n c) (.slice none n' c')).run Tryd.prog w=.ok (.bool a.isNone) w:=fun w a n c n' c'=>Lib.run_eql_slice_nil w _ _ a n c n' c' Tryd.underlying22
 go_enter Tryd.func74,Tryd.ntmps74
 go_wp2
 go_ret
 exact⟨rfl,rfl⟩
set_option maxHeartbeats 2000000 in
set_option maxRecDepth 100000 in
theorem clone_s(ad:Addr)(n c:Nat)(news:List Value)(w:World)(hl:news.length=n*2)(hn:n<=4294967295)
  (hc:∀j u,news[j]?=some u->w.cell? (ad.add j)=some u) (h1:∀u∈news,u.oneCell'=true) :
  Calls Tryd.prog 73 #[.slice (some ad) n c] w fun r w'=>∃v',r=.returned v'/\w'.ownsRow w.heap.size 63 2 v' n news/\v'≠.slice none 0 0/\Below w.heap.size w w':=by
 obtain⟨i0,hi0,hz0,hzs,hzb⟩:=info_parts info_e;have A:Aside (∀j u,news[j]?=some u->w.cell? (ad.add j)=some u):=hc;have q22:∀(w:World) (a:Option Addr) (n c n' c':Nat),(binOp .eql 43 (.slice a n c) (.slice none n' c')).run Tryd.prog w=.ok (.bool a.isNone) w:=fun w a n c n' c'=>Lib.run_eql_slice_nil w _ _ a n c n' c' Tryd.underlying43
 clear hc
 go_enter Tryd.func73,Tryd.ntmps73
 go_wp2_with (at_builtin;refine wpList_append_own _ rfl _ _ 43 rfl w.heap.size 63 i0 (.agg #[.bool false,.slice none 0 0]) 2 32 Tryd.underlying43 hi0 hz0 hzs hzb rfl (by omega) _ _ _ rfl (World.ownsRow_made w #[] 0 (Nat.le_refl _) (Nat.zero_le _) (by simp)) ad n c news rfl ?qc1 ?qc2 ?qc3 ?qc4 ?qc5 ?qc6 ?_)
 case qc1=>exact hl
 case qc2=>intro j u hj;exact Lib.cell?_alloc_some _ (A.out j u hj)
 case qc3=>exact h1
 case qc4=>rw[zero_add];unfold maxLen;omega
 case qc5=>rw[zero_add];omega
 case qc6=>simp
 intro v' w1 hown hgrow hnil
 go_wp2
 go_ret
 refine⟨v',rfl,by simpa using hown,?_,?_⟩
 .exact hnil
 .exact((Below.refl _ w).alloc (Nat.le_refl _) _).grown hgrow (by simp) (by intro k hk;simp[Value.ownBlock]at hk;omega)
theorem clone_snil(n c:Nat)(w:World):Calls Tryd.prog 73 #[.slice none n c] w fun r w'=>r=.returned (.slice none 0 0)/\w=w':=by
 have q22:∀(w:World) (a:Option Addr) (n c n' c':Nat),(binOp .eql 43 (.slice a n c) (.slice none n' c')).run Tryd.prog w=.ok (.bool a.isNone) w:=fun w a n c n' c'=>Lib.run_eql_slice_nil w _ _ a n c n' c' Tryd.underlying43
 go_enter Tryd.func73,Tryd.ntmps73
 go_wp2
 go_ret
 exact⟨rfl,rfl⟩
theorem clone_int{w W:World}{l:List Int}{u:Value}(h:HC w (fun b=>b<w.heap.size) (.sl (.int .i64)) l [u])(hb:Below w.heap.size w W)(hl:l.length<=4294967295) :
  Calls Tryd.prog 74 #[u] W fun r w'=>∃v',r=.returned v'/\w'.ownsRow W.heap.size 3 1 v' l.length (intC l)/\Below W.heap.size W w':=by
 rcases hc_slice h with⟨h0,rfl⟩|⟨a,cap,rows,rfl,h1,h2,h3,h4,h5⟩
 .subst h0;refine(clone_inil 0 0 W).mono fun r w' ⟨e1,e2⟩=>⟨_,e1,World.ownsRow_nil _ _ _ _,by rw[<-e2];exact Below.refl _ _⟩
 .have e:=hrows_ints h4;subst e;refine(clone_i a l.length cap (intC l) W (by rw[intC_len];omega) hl (fun j v hj=>?_) (intC_one l)).mono fun r w' ⟨v',e1,e2,_,e3⟩=>⟨v',e1,e2,e3⟩
  have:=h3 j v hj;rw[<-this];refine World.cell?_of_block ?_;rw[bM];exact hb.block _ (h5 fun h0=>by rw[h0]at hj;simp at hj)
end Go.Proofs.YtgfmodmeimhhpaaDoor
