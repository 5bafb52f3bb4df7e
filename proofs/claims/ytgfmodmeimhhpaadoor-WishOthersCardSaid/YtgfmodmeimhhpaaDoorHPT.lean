/- aspath.Prepend at the paths of a deck: none in front; a sequence in front; the empty path. -/
import Derived.Test.YtgfmodmeimhhpaaDoorHPR
open Nat(le_trans)
open Bool(and_eq_true)
namespace Go.Proofs.YtgfmodmeimhhpaaDoor
open Go.RowKit Go.Lib Go.VM
set_option maxRecDepth 10000
theorem insert_nil{w4:World}{base:Nat}{v:Value}{vs:List Value}(h:Deep w4 base v [] vs)(hbs:base<=w4.heap.size) :
  Calls Tryd.prog 50 #[v,.int .i64 0,.slice (some ⟨w4.heap.size,0,none⟩) 1 1] (w4.alloc (.cells #[.bool false,.slice none 0 0] 63)) fun r w'=>∃g c vs',r=.returned (.slice (some ⟨g,0,none⟩) (([]:List Seg).length+1) c)/\Deep w' base (.slice (some ⟨g,0,none⟩) ((false,([]:List Int))::([]:List Seg)).length c) ((false,[])::[]) vs'/\vs'.head?=some (.slice none 0 0)/\Below base w4 w':=by
 have ha:w4.grownBy (w4.alloc (.cells #[.bool false,.slice none 0 0] 63)) none:=World.grownBy_alloc w4 _ none;have hD:=h.kept ha (fun k hk=>by cases hk);have hsz:(w4.alloc (.cells #[.bool false,.slice none 0 0] 63)).heap.size=w4.heap.size+1:=Array.size_push _;obtain⟨a,c,hs⟩:∃a c,v=.slice a 0 c:=by
  rcases owns_slice h.row with⟨q,_⟩|⟨g,c,q⟩
  .exact⟨none,0,q⟩
  .exact⟨_,c,q⟩
 have key:=ins_end base v 0 c w4.heap.size a (segC [] vs) [.bool false,.slice none 0 0] _ hs hD.row (by omega) (by omega) (heap_alloc_new w4 _) rfl (fun v hv=>by simp at hv;rcases hv with rfl|rfl<;>rfl);rw[<-hs]at key;refine key.mono fun r w' ⟨v',e1,e2,e3,e4⟩=>?_
 have hv0:segC [] vs=[]:=by cases vs<;>rfl
 rw[hv0,List.nil_append]at e2;have e2:w'.ownsRow base 63 2 v' (([]:List Seg).length+1) ([.bool false,.slice none 0 0]++segC [] vs):=by rw[hv0];exact e2
 have hd:=hD.ins0 e2 e3 (e4.imp id fun q=>⟨_,q,by omega⟩);rcases owns_slice hd.row with⟨_,q⟩|⟨g,c,q⟩
 .simp at q
 .refine⟨g,c,_,by rw[e1,q];rfl,by rw[q]at hd;exact hd,rfl,?_⟩;have h0:Below base w4 (w4.alloc (.cells #[.bool false,.slice none 0 0] 63)):=(Below.refl _ w4).alloc hbs _;exact h0.grown e3 (by omega) (fun j hj=>(World.ownsRow.lt h.row j hj).1)
set_option maxHeartbeats 8000000 in
set_option maxRecDepth 100000 in
theorem prep_nilD(asn:Int)(k:Nat)(a:Option Addr)(m cap:Nat)(w:World)(hC:CallsOk w)(hm:Mid ([]:List Seg))(hv:HV w (fun b=>b<w.heap.size) (.sl tyS) ([]:List Seg) (.slice a m cap))(hp:pvd ([]:List Seg)=true)(hn:num asn=true)(hk:0<k)(hc:k<=64) :
  Calls Tryd.prog 24 #[.slice a m cap,.int .i64 asn,.int .i64 k] w (PrPost w a ((false,List.replicate k asn++[])::([]:List Seg)) k):=by
 have e38:∀args w,(callFunc 38 args).run Tryd.prog w=.ok (.enter 38 args) w:=fun args w=>by kernel_rfl
 have e39:∀args w,(callFunc 39 args).run Tryd.prog w=.ok (.enter 39 args) w:=fun args w=>by kernel_rfl
 have e48:∀args w,(callFunc 48 args).run Tryd.prog w=.ok (.enter 48 args) w:=fun args w=>by kernel_rfl
 have e49:∀args w,(callFunc 49 args).run Tryd.prog w=.ok (.enter 49 args) w:=fun args w=>by kernel_rfl
 have e50:∀args w,(callFunc 50 args).run Tryd.prog w=.ok (.enter 50 args) w:=fun args w=>by kernel_rfl
 have e51:∀args w,(callFunc 51 args).run Tryd.prog w=.ok (.enter 51 args) w:=fun args w=>by kernel_rfl
 have h38:=hC.valid _ _ w (Below.refl _ _) hm hv;have h39:=fun W hb=>hC.numb asn W hb
 have h48:=fun W (hb:Below w.heap.size w W)=>hC.flat _ _ W hb hm (hv_next hv hb)
 have h49:=fun W (hb:Below w.heap.size w W)=>owned_ok ([]:List Seg) a m cap W (hv_next hv hb) (by have:=hm.1;omega) hm.2
 rw[hp]at h38;rw[hn]at h39;have ht0:tot ([]:List Seg)=0:=rfl;have hw64:IntKind.i64.wrap (64-((tot ([]:List Seg):Nat):Int))=64-((tot ([]:List Seg):Nat):Int):=by rw[IntKind.wrap_i64];omega
 have hc2:¬(((k:Nat):Int)>64-((tot ([]:List Seg):Nat):Int)):=by omega
 have hk0:¬(((k:Nat):Int)<0):=by omega
 have hk1:(((k:Nat):Int)==0)=false:=beq_eq_false_iff_ne.2 (by omega);have hR:∀W:World,Calls Tryd.prog 51 #[.slice (some ⟨W.heap.size,0,none⟩) 1 1,.int .i64 k] (W.alloc (.cells #[.int .i64 asn] 3)) fun r w'=>∃v',r=.returned v'/\w'.ownsRow (W.alloc (.cells #[.int .i64 asn] 3)).heap.size 3 1 v' k (intC (List.replicate k asn))/\Below (W.alloc (.cells #[.int .i64 asn] 3)).heap.size (W.alloc (.cells #[.int .i64 asn] 3)) w':=
  fun W=>repeat_ok asn k _ _ hk (by omega) (heap_alloc_new W _)
 have hst:∀(w4:World) base g c vs,vs.head?=some (.slice none 0 0)->Deep w4 base (.slice (some ⟨g,0,none⟩) ((false,([]:List Int))::([]:List Seg)).length c) ((false,[])::([]:List Seg)) vs->w4.cell? ⟨g,1,none⟩=some (.slice none 0 0)/\w4.frozen? ⟨g,1,none⟩=false/\g<w4.heap.size:=fun w4 base g c vs hh D=>by
  have hx:0<vs.length:=by rw[D.len];simp
  have e1:=D.row.cellAt 1 (by simp only[List.length_cons];omega);have g1:=segC_get1 (L:=(false,[])::([]:List Seg)) (vs:=vs) (i:=0) D.len hx;simp only[Nat.zero_mul,Nat.zero_add]at g1;rw[g1]at e1;rw[List.head?_eq_getElem?,List.getElem?_eq_getElem hx]at hh;rw[hh]at e1;exact⟨e1,D.row.frozenAt _,(World.ownsRow.lt D.row g rfl).2⟩
 have hI:∀(w4:World) base v vs,Deep w4 base v ([]:List Seg) vs->base<=w4.heap.size->_:=fun w4 base v vs D hb=>insert_nil D hb
 have hap : ∀ (w4 W6 : World) (v6 u : Value) ty, Below w4.heap.size w4 W6 → W6.ownsRow (w4.alloc (.cells #[.int .i64 asn] 3)).heap.size 3 1 v6 k (intC (List.replicate k asn)) → u = .slice none 0 0 → (w4.alloc (.cells #[.int .i64 asn] 3)).heap.size ≤ W6.heap.size →
     ∃v' w',(Builtin.append_ #[22,22] ty #[v6,u]).run Tryd.prog W6=.ok v' w'/\(ownG w' w4.heap.size 1 v' (List.replicate k asn++[]).length (intC (List.replicate k asn++[]))/\Below w4.heap.size w4 w'):=fun w4 W6 v6 u ty hb ho hu hsz=>by
  have hs1:w4.heap.size<=(w4.alloc (.cells #[.int .i64 asn] 3)).heap.size:=by show _<=(w4.heap.push _).size;simp
  have hu6:HC W6 (fun b=>b<W6.heap.size) (.sl (.int .i64)) [] [u]:=.inl ⟨rfl,by rw[hu]⟩;obtain⟨v',w',q1,q2,q3,_⟩:=app_G W6 w4.heap.size v6 (List.replicate k asn) (by rw[List.length_replicate];exact(ownG_of ho).mono hs1) u [] hu6 hb.size (by rw[List.length_replicate];simp;omega) ty;exact⟨v',w',q1,q2,hb.grown q3 hb.size (fun j hj=>le_trans hs1 (World.ownsRow.lt ho j hj).1)⟩
 have H40:Aside _:=h39;have H14:Aside _:=h48;have H42:Aside _:=h49;have HR:Aside _:=hR;have HS:Aside _:=hst;have HI:Aside _:=hI;have HA:Aside _:=hap;clear hv h39 h48 h49 hR hst hI hap
 go_enter Tryd.func24,Tryd.ntmps24
 go_wp2_with (first
  |(go_at_fn 38;refine h38.mono ?_;rintro r w1 ⟨rfl,hb⟩;have H1:=Lib.hid hb;clear hb)
  |(go_at_fn 39;refine(H40.out _ H1.out).mono ?_;rintro r w2 ⟨rfl,hb⟩;have H2:=Lib.hid (H1.out.trans (hb.mono H1.out.size));clear hb)
  |(go_at_fn 48;refine(H14.out _ H2.out).mono ?_;rintro r w3 ⟨⟨o,c,rfl⟩,hb⟩;have H3:=Lib.hid (H2.out.trans (hb.mono H2.out.size));clear hb)
  |(go_at_fn 49;refine(H42.out _ H3.out).mono ?_;rintro r w4 ⟨v',vs,rfl,hd,hz,hb⟩;obtain⟨o4,c4,rfl⟩:∃o c,v'=.slice o 0 c:=(by rcases hd.row.2 with⟨q,_⟩|⟨g,c,_,q,_⟩;exact⟨none,0,q⟩;exact⟨_,_,q⟩);have H4:=Lib.hid (And.intro hd (H3.out.trans (hb.mono H3.out.size)));have H4s:=Lib.hid hb.size;clear hd hz hb)
  |(go_at_fn 50;refine(HI.out _ _ _ _ H4.out.1 H4s.out).mono ?_;rintro r w5 ⟨g,c5,vs5,rfl,hd,hh,hb⟩;obtain⟨l1,l2,hgw⟩:=HS.out _ _ _ _ _ hh hd;have H5:=Lib.hid (And.intro hd hb);clear hd hh hb))
 have mixed:Tryd.prog.follows Departure.mixedOrders=true:=by kernel_rfl
 have hla:(w5.alloc (.cells #[.int .i64 asn] 3)).cell? ⟨g,1,none⟩=some (.slice none 0 0):=by rw[World.cell?_of_block (w:=w5) (a:=⟨g,1,none⟩) (Go.heap_alloc_old w5 _ hgw)];exact l1
 have HB:Aside (∀w6,Below (w5.alloc (.cells #[.int .i64 asn] 3)).heap.size (w5.alloc (.cells #[.int .i64 asn] 3)) w6->w6.cell? ⟨g,1,none⟩=some (.slice none 0 0)/\Below w5.heap.size w5 w6):=fun w6 hb=>by have hsz:(w5.alloc (.cells #[.int .i64 asn] 3)).heap.size=w5.heap.size+1:=Array.size_push _;have h0:Below w5.heap.size w5 (w5.alloc (.cells #[.int .i64 asn] 3)):=(Below.refl _ w5).alloc (Nat.le_refl _) _;exact⟨by rw[hb.cell (p:=⟨g,1,none⟩) (by rw[hsz];exact Nat.lt_succ_of_lt hgw),hla],h0.trans (hb.mono h0.size)⟩
 have HF:Aside (∀w7,Below w5.heap.size w5 w7->w7.cell? ⟨g,1,none⟩=some (.slice none 0 0)/\w7.frozen? ⟨g,1,none⟩=false):=fun w7 hb=>⟨by rw[hb.cell (p:=⟨g,1,none⟩) hgw];exact l1,by rw[hb.frozen (p:=⟨g,1,none⟩) hgw];exact l2⟩
 clear l2;have HK:Aside (0<k/\k<=100000):=⟨hk,by omega⟩;have HKN:Aside (¬((k:Nat):Int)=0):=(by omega:¬((k:Nat):Int)=0);have HN:Aside ((w5.alloc (.cells #[.int .i64 asn] 3)).drew.heap[w5.heap.size]?=some (.cells #[.int .i64 asn] 3 (0,0))):=heap_alloc_new w5 _
 go_region_law_o (first
     |(go_simp;go_at_fn 51;refine(repeat_ok asn k _ _ HK.out.1 HK.out.2 HN.out).mono ?_;rintro r w6 ⟨v6,rfl,ho,hb⟩;obtain⟨p1,hb6⟩:=HB.out w6 ⟨hb.os,hb.tape,hb.output,hb.size,hb.block⟩;have H6:=Lib.hid (And.intro ho (And.intro (show(w5.alloc (.cells #[.int .i64 asn] 3)).heap.size<=w6.heap.size from hb.size) hb6));clear ho hb hb6)
     |(refine step_append_ex (by rfl) _ _ 22 22 (by rfl) _ _ (by rfl) (by rfl) (HA.out w5 _ _ _ _ H6.out.2.2 H6.out.1 rfl H6.out.2.1) ?_;rintro v7 w7 ⟨ho7,hb7⟩;obtain⟨o7,m7,c7,rfl⟩:=ho7.shape3;obtain⟨q1,q2⟩:=HF.out w7 hb7;have H7:=Lib.hid (And.intro ho7 hb7);clear ho7 hb7))
 all_goals
  go_wp2
  go_ret2
  unfold PrPost;have hb35:Below w.heap.size w w5:=H4.out.2.trans (H5.out.2.mono H3.out.size);obtain⟨f1,f2⟩:=put_front H5.out.1 H7.out.2 H7.out.1 (le_trans H4s.out (le_trans (Nat.le_refl _) H5.out.2.size));refine⟨_,_,rfl,f1.mono H3.out.size,⟨(fun h=>by cases h),fun h=>absurd h.2 HKN.out⟩,(hb35.trans (H7.out.2.mono hb35.size)).grown f2 (le_trans hb35.size H7.out.2.size) (fun j hj=>?_)⟩;cases hj;exact le_trans H3.out.size (World.ownsRow.lt H5.out.1.row g rfl).1
def deckB(x:List Seg×Int×Int):Bool:=midB x.1&&(pvd x.1&&(num x.2.1&&(decide (0<=x.2.2)&&(decide (x.2.2<=64-((tot x.1:Nat):Int))&&(match x.1 with|[]=>true|s::_=>!s.1)))))
def gPrepD(x:List Seg×Int×Int):Option (List Seg×Int):=if deckB x=true then some (prepD x.1 x.2.1 x.2.2)else none
theorem prep_walkD(L:List Seg)(asn n:Int)(a:Option Addr)(m cap:Nat)(w:World)(hC:CallsOk w)(hm:Mid L)(pv:pvd L=true)(pn:num asn=true)(n0:¬n<0)(hle:n<=64-((tot L:Nat):Int))(hseq:∀s M,L=s::M->s.1=false)(hv:HV w (fun b=>b<w.heap.size) (.sl tyS) L (.slice a m cap)) :
  Calls Tryd.prog 24 #[.slice a m cap,.int .i64 asn,.int .i64 n] w fun r w'=>∃v' vs,r=.returned (.tuple #[v',.int .i64 (prepD L asn n).2])/\Deep w' w.heap.size v' (prepD L asn n).1 vs/\(v'=.slice none 0 0↔(prepD L asn n).2≠0\/(a=none/\n=0))/\((prepD L asn n).2≠0->(prepD L asn n).1=[])/\(∀s∈(prepD L asn n).1,0<s.2.length)/\Below w.heap.size w w':=by
 unfold prepD;rw[if_neg (show ¬(!pvd L||!num asn||decide (n<0))=true from fun h=>by rw[pv,pn,decide_eq_false n0]at h;cases h)];have ne:=pvd_ne pv;have t64:tot L<=64:=by have:=pv;unfold pvd at this;rw[and_eq_true]at this;exact of_decide_eq_true this.2
 have h2:¬n>64-((tot L:Nat):Int):=by omega
 rw[if_neg h2];by_cases h3:n=0
 .subst h3;rw[if_pos rfl];exact(prep_zero L asn a m cap w hC hm hv pv pn t64).mono fun r w' ⟨v',vs,e1,e2,e3,e4⟩=>⟨v',vs,e1,e2,⟨fun h=>.inr (e3.1 h),fun h=>e3.2 (h.resolve_left fun q=>q rfl)⟩,fun q=>absurd rfl q,ne,e4⟩
 rw[if_neg h3];obtain⟨k,rfl⟩:=Int.eq_ofNat_of_zero_le (show 0<=n by omega);have hk:0<k:=by omega
 have hfin:∀{r:Ending} {w':World},PrPost w a (preP L asn k) k r w'->∃v' vs,r=.returned (.tuple #[v',.int .i64 0])/\Deep w' w.heap.size v' (preP L asn k) vs/\(v'=.slice none 0 0↔(0:Int)≠0\/(a=none/\((k:Nat):Int)=0))/\((0:Int)≠0->preP L asn k=[])/\(∀s∈preP L asn k,0<s.2.length)/\Below w.heap.size w w':=fun{r w'} ⟨v',vs,e1,e2,e3,e4⟩=>⟨v',vs,e1,e2,⟨fun h=>.inr (e3.1 h),fun h=>e3.2 (h.resolve_left fun q=>q rfl)⟩,fun q=>absurd rfl q,(preP_ne ne asn hk).2,e4⟩
 cases L with|nil=>exact(prep_nilD asn k a m cap w hC hm hv pv pn hk (by omega)).mono fun r w' h=>hfin (by rw[List.append_nil]at h;exact h)|cons s L=>
  have hs:s.1=false:=hseq s L rfl;refine(prep_seq s L asn k a m cap w hC hm hv pv pn hk (by omega) hs).mono fun r w' h=>hfin ?_
  have hpre:preP (s::L) asn k=(false,List.replicate k asn++s.2)::L:=if_neg (by rw[hs];simp);rw[hpre];exact h
theorem primPrepD{Ω:World->Prop}:PrimOk Ω Tryd.prog 24 [] (pH [.sl tyS,.int .i64,.int .i64] gPrepD enPrep):=by
 obtain⟨c,hb⟩:∃c,Tryd.f24.body=some c:=⟨_,rfl⟩;refine pH_ok Tryd.func24 hb (by kernel_rfl) (fun vs x r _ _=>plain_en nilOr) fun x r hx vs ht w A B cs hΩ hr=>?_
 obtain⟨L,asn,n⟩:=x;unfold gPrepD at hx;split at hx
 .rename_i hl;cases hx;unfold deckB at hl;simp only[and_eq_true,decide_eq_true_eq]at hl;obtain⟨hl,pv,pn,n0,hle,hq⟩:=hl;have hseq:∀s M,L=s::M->s.1=false:=fun s M e=>by
   subst e;simpa using hq
  have hm:=midB_iff.1 hl;obtain⟨s,_,rfl,h1,ca,_,rfl,h2,cf,_,rfl,h3,rfl⟩:=trel_hvs ht hr;have h2:[ca]=[.int .i64 asn]:=hv_one h2 rfl;have h3:[cf]=[.int .i64 n]:=hv_one h3 rfl;cases h2;cases h3;obtain⟨a,m,cap,rfl⟩:=hv_slice h1;obtain⟨v0,vs0,e0,k1,_⟩:=ht;subst e0;have hnil:(isNil v0=true↔a=none):=by
   cases hr with|cons _ _ _ _ r1 r2=>
   rcases eX k1 with⟨rfl,q⟩|⟨lb,rs,rfl,_⟩
   .have e:=r1.nils_inv;cases e;exact⟨fun _=>rfl,fun _=>rfl⟩
   .obtain⟨ad,cap',xs,e,_⟩:=r1.sl_inv;cases e;exact⟨(fun h=>by cases h),(fun h=>by cases h)⟩
  refine(prep_walkD L asn n a m cap w (callsOk w) hm pv pn (by omega) hle hseq h1).mono fun e w' ⟨v',vs',e1,e2,e3,e4,e5,e6⟩=>⟨[v',.int .i64 (prepD L asn n).2],e1,e6,?_⟩
  unfold enPrep;have hiff:(((prepD L asn n).1.isEmpty&&(decide ((prepD L asn n).2≠0)||isNil ((v0::vs0).headD .undef)))=true)↔v'=.slice none 0 0:=by
   rw[e3,and_eq_true,Bool.or_eq_true,decide_eq_true_eq];show _/\(_\/isNil v0=true)↔_;rw[hnil];constructor
   .rintro⟨q1,q2|q2⟩
    .exact .inl q2
    .by_cases h0:(prepD L asn n).2=0
     .refine .inr ⟨q2,?_⟩;have hv0:v'=.slice none 0 0:=by
       have:L=[]:=by
        rcases hc_slice (hv_one h1 rfl)with⟨q,_⟩|⟨_,_,_,q,_⟩
        .exact q
        .cases q;cases q2
       subst this;have hq:(prepD [] asn n).1=[]:=by simpa using q1
       unfold prepD at hq h0;split at h0
       .cases h0
       .split at h0
        .cases h0
        .rename_i g1 g2;rw[if_neg g1,if_neg g2]at hq;split at hq
         .rename_i g3;exact e3.2 (.inr ⟨q2,g3⟩)
         .cases hq
      rcases e3.1 hv0 with q|q
      .exact absurd h0 q
      .exact q.2
     .exact .inl h0
   .rintro(q|⟨q1,q2⟩)
    .exact⟨by rw[e4 q];rfl,.inl q⟩
    .refine⟨?_,.inr q1⟩;have hv0:=e3.2 (.inr ⟨q1,q2⟩);rw[hv0]at e2;rcases e2.row.2 with⟨_,q⟩|⟨_,_,_,q,_⟩
     .rw[List.length_eq_zero_iff.1 q];rfl
     .cases q
  by_cases h0:v'=.slice none 0 0
  .rw[if_pos (hiff.2 h0),h0];exact .cons _ _ _ _ .nils (.cons _ _ _ _ (.int _ _) .nil)
  .rw[if_neg (fun q=>h0 (hiff.1 q))];refine .cons _ _ _ _ (e2.rel (Nat.le_refl _) (fun i hi hi' h=>?_) h0) (.cons _ _ _ _ (.int _ _) .nil);have:=e5 _ (List.getElem_mem hi);rw[h]at this;simp at this
 .cases hx
theorem hPrepD:∀x r,gPrepD x=some r->∀vs,iQ [.sl tyS,.int .i64,.int .i64] x vs->iQ [.sl tyS,.int .i64] r (enPrep vs r)/\∀c∈(enPrep vs r).flatMap V.cells,c.bare0:=fun x r _ vs _=>path_trel fun h=>by rw[and_eq_true]at h;simpa using h.1
end Go.Proofs.YtgfmodmeimhhpaaDoor
