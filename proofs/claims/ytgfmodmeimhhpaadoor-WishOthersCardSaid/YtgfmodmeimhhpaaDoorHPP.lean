/- Walked by hand: Prepend. -/
import Derived.Test.YtgfmodmeimhhpaaDoorHPA
open List(length_cons)
open Nat(le_trans)
namespace Go.Proofs.YtgfmodmeimhhpaaDoor
open Go.RowKit Go.Lib Go.VM
structure CallsOk(w:World):Prop where
 valid:∀(L:List Seg) (v:Value) (W:World),Below w.heap.size w W->Mid L->HV W (fun b=>b<W.heap.size) (.sl tyS) L v->Calls Tryd.prog 38 #[v] W fun e W'=>e=.returned (.bool (pvd L))/\Below W.heap.size W W'
 numb:∀(a:Int) (W:World),Below w.heap.size w W->Calls Tryd.prog 39 #[.int .i64 a] W fun e W'=>e=.returned (.bool (num a))/\Below W.heap.size W W'
 flat:∀(L:List Seg) (v:Value) (W:World),Below w.heap.size w W->Mid L->HV W (fun b=>b<W.heap.size) (.sl tyS) L v->Calls Tryd.prog 48 #[v] W fun e W'=>(∃o c,e=.returned (.slice o (tot L) c))/\Below W.heap.size W W'
def PrPost(w:World)(a:Option Addr)(L:List Seg)(n:Int)(r:Ending)(w':World):Prop:=
 ∃v' vs,r=.returned (.tuple #[v',.int .i64 0])/\Deep w' w.heap.size v' L vs/\(v'=.slice none 0 0↔a=none/\n=0)/\Below w.heap.size w w'
theorem hv_next{w W:World}{L:List Seg}{v:Value}(hv:HV w (fun b=>b<w.heap.size) (.sl tyS) L v)(hb:Below w.heap.size w W):HV W (fun b=>b<W.heap.size) (.sl tyS) L v:=
 ⟨hc_mono (fun b h=>Nat.lt_of_lt_of_le h hb.size) (fun a rows hr hq=>by
  by_cases h0:rows=[]
  .subst h0;intro j u hu;simp at hu
  .exact hr.keep fun j _=>World.cell?_of_block (by rw[bM];exact hb.block _ (hq h0))) hv.1,hv.2⟩
set_option maxHeartbeats 4000000 in
set_option maxRecDepth 100000 in
theorem prep_zero(L:List Seg)(asn:Int)(a:Option Addr)(m cap:Nat)(w:World)(hC:CallsOk w)(hm:Mid L)(hv:HV w (fun b=>b<w.heap.size) (.sl tyS) L (.slice a m cap))(hp:pvd L=true)(hn:num asn=true)(ht:tot L<=64) :
  Calls Tryd.prog 24 #[.slice a m cap,.int .i64 asn,.int .i64 0] w (PrPost w a L 0):=by
 have e38:∀args w,(callFunc 38 args).run Tryd.prog w=.ok (.enter 38 args) w:=fun args w=>by kernel_rfl
 have e39:∀args w,(callFunc 39 args).run Tryd.prog w=.ok (.enter 39 args) w:=fun args w=>by kernel_rfl
 have e48:∀args w,(callFunc 48 args).run Tryd.prog w=.ok (.enter 48 args) w:=fun args w=>by kernel_rfl
 have e49:∀args w,(callFunc 49 args).run Tryd.prog w=.ok (.enter 49 args) w:=fun args w=>by kernel_rfl
 have h38:=hC.valid L _ w (Below.refl _ _) hm hv;have h39:=fun W hb=>hC.numb asn W hb
 have h48:=fun W (hb:Below w.heap.size w W)=>hC.flat L _ W hb hm (hv_next hv hb)
 have h49:=fun W (hb:Below w.heap.size w W)=>owned_ok L a m cap W (hv_next hv hb) (by have:=hm.1;omega) hm.2
 rw[hp]at h38;rw[hn]at h39;have hw64:IntKind.i64.wrap (64-((tot L:Nat):Int))=64-((tot L:Nat):Int):=by rw[IntKind.wrap_i64];omega
 have hc:¬((0:Int)>64-((tot L:Nat):Int)):=by omega
 have H40:Aside _:=h39;have H14:Aside _:=h48;have H42:Aside _:=h49;clear hv h39 h48 h49
 go_enter Tryd.func24,Tryd.ntmps24
 go_wp2_with (first
  |(go_at_fn 38;refine h38.mono ?_;rintro r w1 ⟨rfl,hb⟩;have H1:=Lib.hid hb;clear hb)
  |(go_at_fn 39;refine(H40.out _ H1.out).mono ?_;rintro r w2 ⟨rfl,hb⟩;have H2:=Lib.hid (H1.out.trans (hb.mono H1.out.size));clear hb)
  |(go_at_fn 48;refine(H14.out _ H2.out).mono ?_;rintro r w3 ⟨⟨o,c,rfl⟩,hb⟩;have H3:=Lib.hid (H2.out.trans (hb.mono H2.out.size));clear hb)
  |(go_at_fn 49;refine(H42.out _ H3.out).mono ?_;rintro r w4 ⟨v',vs,rfl,hd,hz,hb⟩;have H4:=Lib.hid (And.intro hd (And.intro hz hb));clear hd hz hb))
 go_ret2
 unfold PrPost;exact⟨_,vs,rfl,H4.out.1.mono H3.out.size,⟨fun h=>⟨H4.out.2.1.1 h,rfl⟩,fun h=>H4.out.2.1.2 h.1⟩,H3.out.trans (H4.out.2.2.mono H3.out.size)⟩
theorem put_front{w5 w7:World}{base g n c:Nat}{L:List Seg}{vs:List Value}{s:Seg}{u:Value}{l:List Int}(h:Deep w5 base (.slice (some ⟨g,0,none⟩) n c) (s::L) vs)(hb:Below w5.heap.size w5 w7)(hu:ownG w7 w5.heap.size 1 u l.length (intC l))(hbs:base<=w5.heap.size) :
  Deep (w7.setCell ⟨g,1,none⟩ u) base (.slice (some ⟨g,0,none⟩) n c) ((s.1,l)::L) (vs.set 0 u)/\w7.grownBy (w7.setCell ⟨g,1,none⟩ u) (some g):=by
 have:=h.setIn (i:=0) (u:=u) (l:=l) (w':=w7) (by simp) (grown_none hb _) (hu.mono hbs) (fun k hk=>.inr (hu.lt k hk).1);simpa using this
theorem app_G(W:World)(base:Nat)(v:Value)(xs:List Int)(hown:ownG W base 1 v xs.length (intC xs))(u:Value)(l:List Int)(hu:HC W (fun b=>b<W.heap.size) (.sl (.int .i64)) l [u])(hbase:base<=W.heap.size)(hb:xs.length+l.length<=1000000)(ty:TypeId) :
  ∃v' w',(Builtin.append_ #[22,22] ty #[v,u]).run Tryd.prog W=.ok v' w'/\ownG w' base 1 v' (xs++l).length (intC (xs++l))/\W.grownBy w' v.ownBlock/\(v'.ownBlock=v.ownBlock\/v'.ownBlock=some W.heap.size):=by
 obtain⟨i0,hi0,hz0,hzs,hzb⟩:=info_parts info_i;rcases hc_slice hu with⟨rfl,rfl⟩|⟨a,cap,rows,rfl,h1,h2,h3,h4,h5⟩
 · have : (Builtin.append_ #[22, 22] ty #[v, .slice none 0 0]).run Tryd.prog W = .ok v W := by
     rcases hown.shape with⟨rfl,_⟩|⟨g,c,rfl⟩
     .simp[Builtin.append_,run_underlying Tryd.underlying22,sizeOf,typeInfo,hi0,Builtin.lenOf,Builtin.firstCells]
     .have hc:=(ownG.row hown).2.1;simp[Builtin.append_,run_underlying Tryd.underlying22,sizeOf,typeInfo,hi0,Builtin.lenOf,Builtin.firstCells,hc,storeCells]
   exact⟨v,W,this,by rw[List.append_nil];exact hown,grown_none (Below.refl _ _) _,.inl rfl⟩
 .have e:=hrows_ints h4;subst e;obtain⟨v',w',q1,q2,q3,_,q5⟩:=run_append_G (P:=Tryd.prog) W base 22 ty 3 i0 (.int .i64 0) 1 8 Tryd.underlying22 hi0 hz0 hzs hzb rfl (by decide) v xs.length (intC xs) hown a l.length cap (intC l) (by rw[intC_len];omega) h3 (intC_one l) (by unfold maxLen;omega) (by omega) hbase;refine⟨v',w',q1,?_,q3,q5⟩;rw[List.length_append];have:intC (xs++l)=intC xs++intC l:=List.map_append;rw[this];exact q2
set_option maxHeartbeats 8000000 in
set_option maxRecDepth 100000 in
theorem prep_seq(s:Seg)(L:List Seg)(asn:Int)(k:Nat)(a:Option Addr)(m cap:Nat)(w:World)(hC:CallsOk w)(hm:Mid (s::L))(hv:HV w (fun b=>b<w.heap.size) (.sl tyS) (s::L) (.slice a m cap))(hp:pvd (s::L)=true)(hn:num asn=true)(hk:0<k)(hc:tot (s::L)+k<=64)(hs:s.1=false) :
  Calls Tryd.prog 24 #[.slice a m cap,.int .i64 asn,.int .i64 k] w (PrPost w a ((false,List.replicate k asn++s.2)::L) k):=by
 have e38:∀args w,(callFunc 38 args).run Tryd.prog w=.ok (.enter 38 args) w:=fun args w=>by kernel_rfl
 have e39:∀args w,(callFunc 39 args).run Tryd.prog w=.ok (.enter 39 args) w:=fun args w=>by kernel_rfl
 have e48:∀args w,(callFunc 48 args).run Tryd.prog w=.ok (.enter 48 args) w:=fun args w=>by kernel_rfl
 have e49:∀args w,(callFunc 49 args).run Tryd.prog w=.ok (.enter 49 args) w:=fun args w=>by kernel_rfl
 have e51:∀args w,(callFunc 51 args).run Tryd.prog w=.ok (.enter 51 args) w:=fun args w=>by kernel_rfl
 have h38:=hC.valid _ _ w (Below.refl _ _) hm hv;have h39:=fun W hb=>hC.numb asn W hb
 have h48:=fun W (hb:Below w.heap.size w W)=>hC.flat _ _ W hb hm (hv_next hv hb)
 have h49:=fun W (hb:Below w.heap.size w W)=>owned_ok (s::L) a m cap W (hv_next hv hb) (by have:=hm.1;omega) hm.2
 rw[hp]at h38;rw[hn]at h39;have hw64:IntKind.i64.wrap (64-((tot (s::L):Nat):Int))=64-((tot (s::L):Nat):Int):=by rw[IntKind.wrap_i64];omega
 have hc2:¬(((k:Nat):Int)>64-((tot (s::L):Nat):Int)):=by omega
 have hk0:¬(((k:Nat):Int)<0):=by omega
 have hk1:(((k:Nat):Int)==0)=false:=beq_eq_false_iff_ne.2 (by omega);have hl0:((((s::L).length:Nat):Int)==0)=false:=beq_eq_false_iff_ne.2 (by simp only[length_cons];omega);have hll:(0:Int)<(((s::L).length:Nat):Int):=by simp only[length_cons];omega
 have hR:∀W:World,Calls Tryd.prog 51 #[.slice (some ⟨W.heap.size,0,none⟩) 1 1,.int .i64 k] (W.alloc (.cells #[.int .i64 asn] 3)) fun r w'=>∃v',r=.returned v'/\w'.ownsRow (W.alloc (.cells #[.int .i64 asn] 3)).heap.size 3 1 v' k (intC (List.replicate k asn))/\Below (W.alloc (.cells #[.int .i64 asn] 3)).heap.size (W.alloc (.cells #[.int .i64 asn] 3)) w':=
  fun W=>repeat_ok asn k _ _ hk (by omega) (heap_alloc_new W _)
 have hst:∀(w4:World) base g c vs,Deep w4 base (.slice (some ⟨g,0,none⟩) (s::L).length c) (s::L) vs->∃o m1 c1,vs.head?=some (.slice o m1 c1)/\w4.cell? ⟨g,0,none⟩=some (.bool false)/\w4.cell? ⟨g,1,none⟩=some (.slice o m1 c1)/\w4.frozen? ⟨g,1,none⟩=false/\g<w4.heap.size/\HC w4 (fun b=>b<w4.heap.size) (.sl (.int .i64)) s.2 [.slice o m1 c1]:=fun w4 base g c vs D=>by
  have hx:0<vs.length:=by rw[D.len];simp
  have e0:=D.row.cellAt 0 (by simp only[length_cons];omega);have e1:=D.row.cellAt 1 (by simp only[length_cons];omega);have g0:=segC_get0 (L:=s::L) (vs:=vs) (i:=0) D.len (by simp);have g1:=segC_get1 (L:=s::L) (vs:=vs) (i:=0) D.len hx;simp only[Nat.zero_mul,Nat.zero_add]at g0 g1;rw[g0]at e0;rw[g1]at e1;have hi:=D.ins 0 (by simp) hx;obtain⟨o,m1,c1,e⟩:=hi.shape3;rw[e]at e1;have:=owns_hc hi;rw[e]at this;exact⟨o,m1,c1,by rw[List.head?_eq_getElem?,List.getElem?_eq_getElem hx,e],by rw[e0];show some (Value.bool s.1)=_;rw[hs],e1,D.row.frozenAt _,(World.ownsRow.lt D.row g rfl).2,this⟩
 have hap : ∀ (w4 W6 : World) (v6 u : Value) ty, Below w4.heap.size w4 W6 → W6.ownsRow (w4.alloc (.cells #[.int .i64 asn] 3)).heap.size 3 1 v6 k (intC (List.replicate k asn)) → HC w4 (fun b => b < w4.heap.size) (.sl (.int .i64)) s.2 [u] → (w4.alloc (.cells #[.int .i64 asn] 3)).heap.size ≤ W6.heap.size →
     ∃v' w',(Builtin.append_ #[22,22] ty #[v6,u]).run Tryd.prog W6=.ok v' w'/\(ownG w' w4.heap.size 1 v' (List.replicate k asn++s.2).length (intC (List.replicate k asn++s.2))/\Below w4.heap.size w4 w'):=fun w4 W6 v6 u ty hb ho hu hsz=>by
  have hs1:w4.heap.size<=(w4.alloc (.cells #[.int .i64 asn] 3)).heap.size:=by show _<=(w4.heap.push _).size;simp
  have hu6:HC W6 (fun b=>b<W6.heap.size) (.sl (.int .i64)) s.2 [u]:=hc_mono (fun b h=>Nat.lt_of_lt_of_le h hb.size) (fun a rows hr hq=>by
   by_cases h0:rows=[]
   .subst h0;intro j u hu;simp at hu
   .exact hr.keep fun j _=>World.cell?_of_block (by rw[bM];exact hb.block _ (hq h0))) hu
  have hlen:s.2.length<=100000:=hm.2 s (by simp);obtain⟨v',w',q1,q2,q3,_⟩:=app_G W6 w4.heap.size v6 (List.replicate k asn) (by rw[List.length_replicate];exact(ownG_of ho).mono hs1) u s.2 hu6 hb.size (by rw[List.length_replicate];omega) ty;exact⟨v',w',q1,q2,hb.grown q3 hb.size (fun j hj=>le_trans hs1 (World.ownsRow.lt ho j hj).1)⟩
 have H40:Aside _:=h39;have H14:Aside _:=h48;have H42:Aside _:=h49;have HR:Aside _:=hR;have HS:Aside _:=hst;have HA:Aside _:=hap;clear hv h39 h48 h49 hR hst hap
 go_enter Tryd.func24,Tryd.ntmps24
 go_wp2_with (first
  |(go_at_fn 38;refine h38.mono ?_;rintro r w1 ⟨rfl,hb⟩;have H1:=Lib.hid hb;clear hb)
  |(go_at_fn 39;refine(H40.out _ H1.out).mono ?_;rintro r w2 ⟨rfl,hb⟩;have H2:=Lib.hid (H1.out.trans (hb.mono H1.out.size));clear hb)
  |(go_at_fn 48;refine(H14.out _ H2.out).mono ?_;rintro r w3 ⟨⟨o,c,rfl⟩,hb⟩;have H3:=Lib.hid (H2.out.trans (hb.mono H2.out.size));clear hb)
  |(go_at_fn 49;refine(H42.out _ H3.out).mono ?_;rintro r w4 ⟨v',vs,rfl,hd,hz,hb⟩;obtain⟨g,c4,rfl⟩:∃g c,v'=.slice (some ⟨g,0,none⟩) (s::L).length c:=(by rcases owns_slice hd.row with⟨_,q⟩|⟨g,c,q⟩;exact absurd q (by simp);exact⟨g,c,by rcases hd.row.2 with⟨q1,_⟩|⟨_,_,_,q1,_⟩;(rw[q1]at q;cases q);(rw[q1]at q ⊢;cases q;rfl)⟩);obtain⟨o1,m1,c1,hh,l0,l1,l2,hgw,hhc⟩:=HS.out _ _ _ _ _ hd;have H4:=Lib.hid (And.intro hd (And.intro hb (And.intro hh hhc)));clear hd hz hb hh hhc))
 have mixed:Tryd.prog.follows Departure.mixedOrders=true:=by kernel_rfl
 have hla:(w4.alloc (.cells #[.int .i64 asn] 3)).cell? ⟨g,1,none⟩=some (.slice o1 m1 c1):=by rw[World.cell?_of_block (w:=w4) (a:=⟨g,1,none⟩) (Go.heap_alloc_old w4 _ hgw)];exact l1
 have HB:Aside (∀w6,Below (w4.alloc (.cells #[.int .i64 asn] 3)).heap.size (w4.alloc (.cells #[.int .i64 asn] 3)) w6->w6.cell? ⟨g,1,none⟩=some (.slice o1 m1 c1)/\Below w4.heap.size w4 w6):=fun w6 hb=>by have hsz:(w4.alloc (.cells #[.int .i64 asn] 3)).heap.size=w4.heap.size+1:=Array.size_push _;have h0:Below w4.heap.size w4 (w4.alloc (.cells #[.int .i64 asn] 3)):=(Below.refl _ w4).alloc (Nat.le_refl _) _;exact⟨by rw[hb.cell (p:=⟨g,1,none⟩) (by rw[hsz];exact Nat.lt_succ_of_lt hgw),hla],h0.trans (hb.mono h0.size)⟩
 have HF:Aside (∀w7,Below w4.heap.size w4 w7->w7.cell? ⟨g,1,none⟩=some (.slice o1 m1 c1)/\w7.frozen? ⟨g,1,none⟩=false):=fun w7 hb=>⟨by rw[hb.cell (p:=⟨g,1,none⟩) hgw];exact l1,by rw[hb.frozen (p:=⟨g,1,none⟩) hgw];exact l2⟩
 clear l2;have HK:Aside (0<k/\k<=100000):=⟨hk,by omega⟩;have HKN:Aside (¬((k:Nat):Int)=0):=(by omega:¬((k:Nat):Int)=0);have HN:Aside ((w4.alloc (.cells #[.int .i64 asn] 3)).drew.heap[w4.heap.size]?=some (.cells #[.int .i64 asn] 3 (0,0))):=heap_alloc_new w4 _
 go_region_law_o (first
     |(go_simp;go_at_fn 51;refine(repeat_ok asn k _ _ HK.out.1 HK.out.2 HN.out).mono ?_;rintro r w6 ⟨v6,rfl,ho,hb⟩;obtain⟨p1,hb6⟩:=HB.out w6 ⟨hb.os,hb.tape,hb.output,hb.size,hb.block⟩;have H6:=Lib.hid (And.intro ho (And.intro (show(w4.alloc (.cells #[.int .i64 asn] 3)).heap.size<=w6.heap.size from hb.size) hb6));clear ho hb hb6)
     |(refine step_append_ex (by rfl) _ _ 22 22 (by rfl) _ _ (by rfl) (by rfl) (HA.out w4 _ _ _ _ H6.out.2.2 H6.out.1 H4.out.2.2.2 H6.out.2.1) ?_;rintro v7 w7 ⟨ho7,hb7⟩;obtain⟨o7,m7,c7,rfl⟩:=ho7.shape3;obtain⟨q1,q2⟩:=HF.out w7 hb7;have H7:=Lib.hid (And.intro ho7 hb7);clear ho7 hb7))
 all_goals
  go_wp2
  go_ret2
  unfold PrPost;obtain⟨f1,f2⟩:=put_front H4.out.1 H7.out.2 H7.out.1 (le_trans H4.out.2.1.size (Nat.le_refl _));rw[hs]at f1;have hb4:Below w.heap.size w w4:=H3.out.trans (H4.out.2.1.mono H3.out.size);refine⟨_,_,rfl,f1.mono H3.out.size,⟨(fun h=>by cases h),fun h=>absurd h.2 HKN.out⟩,(hb4.trans (H7.out.2.mono hb4.size)).grown f2 (le_trans hb4.size H7.out.2.size) (fun j hj=>?_)⟩;cases hj;exact le_trans H3.out.size (World.ownsRow.lt H4.out.1.row g rfl).1
end Go.Proofs.YtgfmodmeimhhpaaDoor
