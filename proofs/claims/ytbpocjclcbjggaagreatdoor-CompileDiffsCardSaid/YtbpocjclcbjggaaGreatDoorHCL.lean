/- Walked by hand: slices.Clone, and its entries. -/
import Derived.Test.YtbpocjclcbjggaaGreatDoorHCX
import Derived.Lib.SliceRun
import Derived.Lib.Walk
namespace Go.Proofs.YtbpocjclcbjggaaGreatDoor
open Go.RowKit Go.Lib Go.VM
def ClPost(w:World)(e z n:Nat)(u:Value)(xs:List Value)(r:Ending)(w':World):Prop:=∃v',r=.returned v'/\w'.ownsRow w.heap.size e z v' n xs/\(v'=.slice none 0 0↔u=.slice none 0 0)/\Below w.heap.size w w'
def enCl(vs:List V){β:Type}(_:β):List V:=[match vs.headD .undef with
 |.sl _ z n ws=>.sl .none z n ws
 |_=>.nils]
def gCl{α:Type}(l:List α):Option (List α):=if l.length<=100000 then some l else none
theorem enCl_en{vs:List V}{β:Type}{r:β}:∀v∈enCl vs r,aN v=false/\v.flat=true/\∀xs,v≠.tup xs:=fun v hv=>by
 rw[enCl,List.mem_singleton]at hv;subst hv;split<;>exact⟨rfl,rfl,fun xs h=>by cases h⟩
theorem sl_word{t:Ty}{l:List t.den}{v:V}(h:gP (.sl t) l v):bP (.sl t) l [v]:=by
 rcases h.1 with⟨e,hn⟩|⟨lb,rs,e,h3,h4⟩
 .cases v<;>first|exact h.1|(cases e)|skip
  cases h.2
 .cases v<;>first|exact h.1|(cases e)|skip
  cases h.2
theorem hCl{t:Ty}:∀(x:List t.den) r,gCl x=some r->∀vs,iQ [.sl t] x vs->(∀u∈vs.flatMap V.cells,u.bare0)->iQ [.sl t] r (enCl vs r)/\∀c∈(enCl vs r).flatMap V.cells,c.bare0:=fun x r hx vs ht _=>by
 unfold gCl at hx;split at hx
 .cases hx;obtain⟨v,vs',rfl,hv,hvs⟩:=ht;cases hvs;rcases sl_word hv with⟨e,hn⟩|⟨lb,rs,e,h3,h4⟩
  .cases e;exact⟨⟨_,_,rfl,⟨.inl ⟨rfl,hn⟩,rfl⟩,rfl⟩,fun c hc=>by simp[enCl,V.cells]at hc;subst hc;trivial⟩
  .cases e;exact⟨⟨_,_,rfl,⟨.inr ⟨.none,_,rfl,h3,h4⟩,rfl⟩,rfl⟩,fun c hc=>by simp[enCl,V.cells]at hc;subst hc;rfl⟩
 .cases hx
theorem clone_prim{Ω:World->Prop}{P:Program}{f e:Nat}{fn:Func}{c:Code}{t:Ty}(hf:P.funcs[f]?=some fn)(hb:fn.body=some c)(hname:(fn.name == "runtime.NumGoroutine")=false)(hz:0<t.size)
  (hw:∀(u:Value) (n:Nat) (xs:List Value) (w:World),RowAt w t.size u n xs->n<=100000->Calls P f #[u] w (ClPost w e t.size n u xs)):PrimOk Ω P f [] (pM [.sl t] gCl (fun vs r=>enCl vs r)):=by
 refine pM_ok hf hb hname (fun vs x r _ _ _=>enCl_en) fun x r hx vs ht hbare G w cs bx hs=>?_
 unfold gCl at hx;split at hx
 .rename_i hl;cases hx;obtain⟨v,vs',rfl,hv,hvs⟩:=ht;cases hvs;have hr:=hs.args;cases hr with
  |cons _ u _ _ hr hnil=>
   cases hnil;have hc:=sl_word hv;have hvb:v.bare0:=hbare v (by rcases hc with⟨e,_⟩|⟨_,_,e,_⟩<;>(cases e;simp[V.cells]));obtain⟨xs,m,p,_,_,n⟩:=rel_rowAt hr hc hvb;refine(hw u _ xs w m hl).mono fun e w' ⟨v',e1,e2,e3,e4⟩=>⟨[v'],e1,e4,.cons _ _ _ _ ?_ .nil⟩
   rcases hc with⟨e,hn⟩|⟨lb,rs,e,h3,h4⟩
   .cases e;rw[e3.2 hr.nils_inv];exact .nils
   .cases e;refine own_bk e2 (Nat.le_refl _) hz (p.keepB (keeps_bk hs e4) n) n fun e=>?_
    obtain⟨a,cap,_,e5,_⟩:=hr.sl_inv;rw[e5]at e3;cases e3.1 e
 .cases hx
theorem info_51:(Tryz.prog.info? 51).map (fun i=>(i.zero,i.size,i.bytes))=some (some (.agg #[.int .u8 0,.int .u8 0,.int .u8 0,.int .u8 0,.int .u8 0,.int .u8 0]),6,6):=by kernel_rfl
set_option maxHeartbeats 2000000 in
set_option maxRecDepth 100000 in
theorem clone_76(u:Value)(n:Nat)(xs:List Value)(w:World)(hu:RowAt w 6 u n xs)(hn:n<=100000):Calls Tryz.prog 76 #[u] w (ClPost w 51 6 n u xs):=by
 have q22:∀(w:World) (a:Option Addr) (n c n' c':Nat),(binOp .eql 52 (.slice a n c) (.slice none n' c')).run Tryz.prog w=.ok (.bool a.isNone) w:=fun w a n c n' c'=>Lib.run_eql_slice_nil w _ _ a n c n' c' Tryz.underlying52
 obtain⟨hl,h1,hu⟩:=hu;rcases hu with⟨rfl,rfl⟩|⟨ad,c,rfl,_,_,hr,hb⟩
 .obtain rfl:xs=[]:=List.eq_nil_of_length_eq_zero (by simpa using hl)
  go_enter Tryz.func76,Tryz.ntmps76
  go_wp2
  go_ret
  exact⟨_,rfl,World.ownsRow_nil _ _ _ _,Iff.rfl,Below.refl _ _⟩
 .obtain⟨i0,hi0,hz0,hzs,hzb⟩:=info_parts info_51;have A:Aside (∀j u,xs[j]?=some u->w.cell? (ad.add j)=some u):=hr;clear hr
  go_enter Tryz.func76,Tryz.ntmps76
  go_wp2_with (at_builtin;refine wpList_append_own _ rfl _ _ 52 rfl w.heap.size 51 i0 (.agg #[.int .u8 0,.int .u8 0,.int .u8 0,.int .u8 0,.int .u8 0,.int .u8 0]) 6 6 Tryz.underlying52 hi0 hz0 hzs hzb rfl (by omega) _ _ _ rfl (World.ownsRow_made w #[] 0 (Nat.le_refl _) (Nat.zero_le _) (by simp)) ad n c xs rfl ?qc1 ?qc2 ?qc3 ?qc4 ?qc5 ?qc6 ?_)
  case qc1=>exact hl
  case qc2=>
   intro j u hj;exact Lib.cell?_alloc_some _ (A.out j u hj)
  case qc3=>exact h1
  case qc4=>rw[Nat.zero_add];unfold maxLen;omega
  case qc5=>rw[Nat.zero_add];omega
  case qc6=>simp
  intro v' w1 hown hgrow hnil
  go_wp2
  go_ret
  refine⟨v',rfl,by simpa using hown,⟨fun e=>absurd e hnil,fun e=>by cases e⟩,?_⟩;exact((Below.refl _ w).alloc (Nat.le_refl _) _).grown hgrow (by simp) (by intro k hk;simp[Value.ownBlock]at hk;omega)
theorem primCl76{Ω:World->Prop}:PrimOk Ω Tryz.prog 76 [] (pM [.sl tyMac] gCl (fun vs r=>enCl vs r)):=by
 obtain⟨c,hb⟩:∃c,Tryz.f76.body=some c:=⟨_,rfl⟩;exact clone_prim Tryz.func76 hb (by kernel_rfl) (by decide) clone_76
theorem info_25:(Tryz.prog.info? 25).map (fun i=>(i.zero,i.size,i.bytes))=some (some (.agg #[.bool false,.int .u64 0,.int .u64 0]),3,24):=by kernel_rfl
set_option maxHeartbeats 2000000 in
set_option maxRecDepth 100000 in
theorem clone_77(u:Value)(n:Nat)(xs:List Value)(w:World)(hu:RowAt w 3 u n xs)(hn:n<=100000):Calls Tryz.prog 77 #[u] w (ClPost w 25 3 n u xs):=by
 have q22:∀(w:World) (a:Option Addr) (n c n' c':Nat),(binOp .eql 53 (.slice a n c) (.slice none n' c')).run Tryz.prog w=.ok (.bool a.isNone) w:=fun w a n c n' c'=>Lib.run_eql_slice_nil w _ _ a n c n' c' Tryz.underlying53
 obtain⟨hl,h1,hu⟩:=hu;rcases hu with⟨rfl,rfl⟩|⟨ad,c,rfl,_,_,hr,hb⟩
 .obtain rfl:xs=[]:=List.eq_nil_of_length_eq_zero (by simpa using hl)
  go_enter Tryz.func77,Tryz.ntmps77
  go_wp2
  go_ret
  exact⟨_,rfl,World.ownsRow_nil _ _ _ _,Iff.rfl,Below.refl _ _⟩
 .obtain⟨i0,hi0,hz0,hzs,hzb⟩:=info_parts info_25;have A:Aside (∀j u,xs[j]?=some u->w.cell? (ad.add j)=some u):=hr;clear hr
  go_enter Tryz.func77,Tryz.ntmps77
  go_wp2_with (at_builtin;refine wpList_append_own _ rfl _ _ 53 rfl w.heap.size 25 i0 (.agg #[.bool false,.int .u64 0,.int .u64 0]) 3 24 Tryz.underlying53 hi0 hz0 hzs hzb rfl (by omega) _ _ _ rfl (World.ownsRow_made w #[] 0 (Nat.le_refl _) (Nat.zero_le _) (by simp)) ad n c xs rfl ?qc1 ?qc2 ?qc3 ?qc4 ?qc5 ?qc6 ?_)
  case qc1=>exact hl
  case qc2=>
   intro j u hj;exact Lib.cell?_alloc_some _ (A.out j u hj)
  case qc3=>exact h1
  case qc4=>rw[Nat.zero_add];unfold maxLen;omega
  case qc5=>rw[Nat.zero_add];omega
  case qc6=>simp
  intro v' w1 hown hgrow hnil
  go_wp2
  go_ret
  refine⟨v',rfl,by simpa using hown,⟨fun e=>absurd e hnil,fun e=>by cases e⟩,?_⟩;exact((Below.refl _ w).alloc (Nat.le_refl _) _).grown hgrow (by simp) (by intro k hk;simp[Value.ownBlock]at hk;omega)
theorem primCl77{Ω:World->Prop}:PrimOk Ω Tryz.prog 77 [] (pM [.sl tyAd] gCl (fun vs r=>enCl vs r)):=by
 obtain⟨c,hb⟩:∃c,Tryz.f77.body=some c:=⟨_,rfl⟩;exact clone_prim Tryz.func77 hb (by kernel_rfl) (by decide) clone_77
theorem info_69:(Tryz.prog.info? 69).map (fun i=>(i.zero,i.size,i.bytes))=some (some (.agg #[.int .i64 0,.int .i64 0,.int .i64 0,.slice none 0 0,.bool false,.int .u64 0,.int .u64 0,.bool false,.int .u64 0,.int .u64 0]),10,96):=by kernel_rfl
set_option maxHeartbeats 2000000 in
set_option maxRecDepth 100000 in
theorem clone_91(u:Value)(n:Nat)(xs:List Value)(w:World)(hu:RowAt w 10 u n xs)(hn:n<=100000):Calls Tryz.prog 91 #[u] w (ClPost w 69 10 n u xs):=by
 have q22:∀(w:World) (a:Option Addr) (n c n' c':Nat),(binOp .eql 37 (.slice a n c) (.slice none n' c')).run Tryz.prog w=.ok (.bool a.isNone) w:=fun w a n c n' c'=>Lib.run_eql_slice_nil w _ _ a n c n' c' Tryz.underlying37
 obtain⟨hl,h1,hu⟩:=hu;rcases hu with⟨rfl,rfl⟩|⟨ad,c,rfl,_,_,hr,hb⟩
 .obtain rfl:xs=[]:=List.eq_nil_of_length_eq_zero (by simpa using hl)
  go_enter Tryz.func91,Tryz.ntmps91
  go_wp2
  go_ret
  exact⟨_,rfl,World.ownsRow_nil _ _ _ _,Iff.rfl,Below.refl _ _⟩
 .obtain⟨i0,hi0,hz0,hzs,hzb⟩:=info_parts info_69;have A:Aside (∀j u,xs[j]?=some u->w.cell? (ad.add j)=some u):=hr;clear hr
  go_enter Tryz.func91,Tryz.ntmps91
  go_wp2_with (at_builtin;refine wpList_append_own _ rfl _ _ 37 rfl w.heap.size 69 i0 (.agg #[.int .i64 0,.int .i64 0,.int .i64 0,.slice none 0 0,.bool false,.int .u64 0,.int .u64 0,.bool false,.int .u64 0,.int .u64 0]) 10 96 Tryz.underlying37 hi0 hz0 hzs hzb rfl (by omega) _ _ _ rfl (World.ownsRow_made w #[] 0 (Nat.le_refl _) (Nat.zero_le _) (by simp)) ad n c xs rfl ?qc1 ?qc2 ?qc3 ?qc4 ?qc5 ?qc6 ?_)
  case qc1=>exact hl
  case qc2=>
   intro j u hj;exact Lib.cell?_alloc_some _ (A.out j u hj)
  case qc3=>exact h1
  case qc4=>rw[Nat.zero_add];unfold maxLen;omega
  case qc5=>rw[Nat.zero_add];omega
  case qc6=>simp
  intro v' w1 hown hgrow hnil
  go_wp2
  go_ret
  refine⟨v',rfl,by simpa using hown,⟨fun e=>absurd e hnil,fun e=>by cases e⟩,?_⟩;exact((Below.refl _ w).alloc (Nat.le_refl _) _).grown hgrow (by simp) (by intro k hk;simp[Value.ownBlock]at hk;omega)
end Go.Proofs.YtbpocjclcbjggaaGreatDoor
