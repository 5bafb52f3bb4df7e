/- Concat as an entry of the table. -/
import Derived.Test.YtbpocjclcbjggaaGreatDoorHCO
namespace Go.VM
open Go.RowKit
variable{Ω:World->Prop}
theorem keeps_bk{G:Gh}{w w':World}{vs:List V}{cs:List Value}{bx:BX}(hs:Start Ω G w vs cs bx)(hb:Below w.heap.size w w'):jV w w' (A0 G w) (Abk G w w') G.bxB G.bxB:=by
 have hcell:∀(a:Addr),G.Z a.block≠.out->∀j,w'.cell? (a.add j)=w.cell? (a.add j):=fun a ha j=>by
  unfold World.cell?;rw[bM,hb.block _ (hs.ok.lt _ ha)]
 have hz:∀b,G.Z b≠.out->(aEM G w w').Z b=G.Z b:=fun b h=>newG_old (hs.ok.lt b h)
 refine⟨fun l a len z n cap hl ha=>?_,fun i blk h=>h⟩;cases l with
 |none=>
  rcases ha with ha|⟨n',q1,q2⟩|⟨nm,q1,q2,q3⟩
  .exact⟨.inl ha,fun j hj=>by omega⟩
  .exact⟨.inr (.inl ⟨n',by rw[hz _ (by rw[q1];simp)];exact q1,q2⟩),fun j _=>hcell a (by rw[q1];simp) j⟩
  .exact⟨.inr (.inr ⟨nm,q1,by rw[hz _ (by rw[q2];simp)];exact q2,q3⟩),fun j _=>hcell a (by rw[q2];simp) j⟩
 |rv s c v=>exact absurd ha (by simp[A0,At])
 |_=>simp[Lab.names]at hl
/-- A row of the call's own,handed back. -/
theorem own_bk{G:Gh}{w w':World}{base e z n:Nat}{v:Value}{xs:List Value}{ws:List V}(h:w'.ownsRow base e z v n xs)(hb:w.heap.size<=base)(hz:0<z)(hr:RelL w' (Abk G w w') G.bxB ws xs)(hn:aC ws=[])(hv:v≠.slice none 0 0):Rel w' (Abk G w w') G.bxB (.sl .none z n ws) v:=by
 rcases h.2 with⟨h1,_⟩|⟨g,cap,cur,h1,h2,h3,h4,h5,h6,h7⟩
 .exact absurd h1 hv
 .subst h1;refine .sl .none z n ws ⟨g,0,none⟩ cap xs (.inr (.inl ⟨cur.size,?_,?_⟩)) hz h.1 h4 h5 (fun j u hj=>?_) hr hn
  .simp only[aEM,if_neg (Nat.not_lt.2 (Nat.le_trans hb h2)),h3]
  .show 0+xs.length<=cur.size;rw[h.1,h6,Nat.zero_add];exact Nat.mul_le_mul_right _ h4
  .rw[Addr.add_lit,Nat.zero_add];simp only[World.cell?,h3];rw[<-h7,List.getElem?_take]at hj;split at hj
   .simpa using hj
   .cases hj
theorem rell_get{w:World}{A:Pl}{B:List Nat}:∀{vs:List V} {cs:List Value} {i:Nat} {v:V} {c:Value},RelL w A B vs cs->vs[i]?=some v->cs[i]?=some c->Rel w A B v c
 |_,_,i,_,_,.nil,h,_=>by simp at h
 |_,_,0,_,_,.cons _ _ _ _ h1 _,h,k=>by simp at h k;subst h;subst k;exact h1
 |_,_,i+1,_,_,.cons _ _ _ _ _ h2,h,k=>rell_get h2 (by simpa using h) (by simpa using k)
def rowCells:V->List V
 |.sl _ _ _ cs=>cs
 |_=>[]
/-- What the machine's words of a slice are,as cells. -/
theorem rel_rowAt{w:World}{A:Pl}{B:List Nat}{t:Ty}{l:List t.den}{v:V}{u:Value}(hr:Rel w A B v u)(hc:bP (.sl t) l [v])(hb:v.bare0):∃xs,RowAt w t.size u l.length xs/\RelL w A B (rowCells v) xs/\aL (bP t) l (rowCells v)/\(∀c∈rowCells v,c.bare0)/\aC (rowCells v)=[]:=by
 rcases hc with⟨e,h2⟩|⟨lb,rs,e,h2,h3⟩
 .cases e;rw[hr.nils_inv];have h2:l=[]:=h2;subst h2;exact⟨[],⟨by simp,fun x hx=>(by cases hx),.inl ⟨rfl,rfl⟩⟩,.nil,rfl,fun c hc=>(by cases hc),rfl⟩
 .cases e;obtain⟨a,cap,xs,rfl,hp,hz,hxs,hcap,hmax,hrow,hrel,hnm⟩:=hr.sl_inv;have hone:∀x∈xs,x.oneCell'=true:=fun x hx=>by
   have:=rel_hc (t:=.sl t) (x:=l) (.inr ⟨lb,rs,rfl,h2,h3⟩) (RelL.cons _ _ _ _ hr .nil);rcases hc_slice this with⟨_,e⟩|⟨a',cap',rows,e,_,_,h6,h7,_⟩
   .cases e
   .cases e;have hl:rows.length=xs.length:=by rw[hrows_len (fun x c hx=>hc_len hx) h7,hxs]
    have:rows=xs:=by
     apply List.ext_getElem?;intro i;by_cases hi:i<xs.length
     .have q1:=hrow i _ (List.getElem?_eq_getElem hi);have q2:=h6 i _ (List.getElem?_eq_getElem (by rw[hl];exact hi));rw[q1]at q2;rw[List.getElem?_eq_getElem hi,List.getElem?_eq_getElem (by rw[hl];exact hi),Option.some.inj q2]
     .rw[List.getElem?_eq_none (by omega),List.getElem?_eq_none (by omega)]
    subst this;exact hrows_one h7 x hx
  exact⟨xs,⟨hxs,hone,.inr ⟨a,cap,rfl,hcap,hmax,hrow,fun h0=>row_old hrow h0⟩⟩,hrel,h2,h3,hnm⟩
theorem rowsrel_append{α:Type}{R:α->List V->Prop}:∀{l m:List α} {vs us:List V},aL R l vs->aL R m us->aL R (l++m) (vs++us)
 |[],_,_,_,h,k=>by cases h;exact k
 |x::l,_,_,_,⟨c,r,e,h1,h2⟩,k=>by subst e;exact⟨c,r++_,by simp,h1,rowsrel_append h2 k⟩
end Go.VM
namespace Go.Proofs.YtbpocjclcbjggaaGreatDoor
open Go.RowKit Go.Lib Go.VM
abbrev tyMac:Ty:=.st (.pair (.int .u8) (.pair (.int .u8) (.pair (.int .u8) (.pair (.int .u8) (.pair (.int .u8) (.int .u8))))))
abbrev tyAd:Ty:=.st (.pair .bool (.pair (.int .u64) (.int .u64)))
abbrev tyPo:Ty:=.st (.pair (.int .i64) (.pair (.int .i64) (.pair (.int .i64) (.pair (.sl tyMac) (.pair tyAd tyAd)))))
abbrev tyMe:Ty:=.st (.pair (.int .i64) (.pair .str (.pair .str (.pair (.int .i64) (.pair (.int .i64) (.sl tyPo))))))
abbrev tyPf:Ty:=.st (.pair tyAd (.int .i64))
abbrev tyDb:Ty:=.st (.pair tyPf (.pair tyPf (.pair (.sl tyMe) (.sl tyMe))))
abbrev PortT:=Int×Int×Int×List MacT×AddrT×AddrT
abbrev MemT:=Int×List UInt8×List UInt8×Int×Int×List PortT
abbrev DbT:=(AddrT×Int)×(AddrT×Int)×List MemT×List MemT
def gCat(x:List (List MemT)):Option (List MemT):=if(decide (x.length=2)&&decide (x.flatten.length<=100000))=true then some x.flatten else none
def enCat(vs:List V)(r:List MemT):List V:=[if r.isEmpty=true then .nils else .sl .none 6 r.length ((rowCells (vs.headD .undef)).flatMap rowCells)]
set_option maxRecDepth 10000 in
theorem primCat{Ω:World->Prop}:PrimOk Ω Tryz.prog 110 [] (pM [.sl (.sl tyMe)] gCat enCat):=by
 obtain⟨c,hb⟩:∃c,Tryz.f110.body=some c:=⟨_,rfl⟩;refine pM_ok Tryz.func110 hb (by kernel_rfl) (fun vs x r _ _ _ v hv=>?_) fun x r hx vs ht hbare G w cs bx hs=>?_
 .rw[enCat,List.mem_singleton]at hv;subst hv;split<;>exact⟨rfl,rfl,fun xs h=>by cases h⟩
 .unfold gCat at hx;split at hx
  .rename_i hc;cases hx;simp only[Bool.and_eq_true,decide_eq_true_eq]at hc;obtain⟨h2,hl⟩:=hc
   match x,h2 with
   |[l1,l2],_=>
    obtain⟨v,vs',rfl,hv,hvs⟩:=ht;cases hvs;have hr:=hs.args;cases hr with
    |cons _ u _ _ hr hnil=>
     cases hnil;have hvb:∀q∈v.cells,q.bare0:=fun q hq=>hbare q (by simpa using hq)
     have hcv:bP (.sl (.sl tyMe)) [l1,l2] [v]:=by
      have:=hv.1;rcases hv.1 with⟨e,hn⟩|⟨lb,rs,e,h3,h4⟩
      .cases hn
      .cases v<;>first|exact hv.1|(cases e)|skip
       cases hv.2
     rcases hcv with⟨e,hn⟩|⟨lb,rs,e,h3,h4⟩
     .cases hn
     .cases e;obtain⟨a,cap,xs,rfl,hp,hz,hxs,hcap,hmax,hrow,hrel,hnm⟩:=hr.sl_inv;obtain⟨c1,r1,rfl,k1,c2,r2,rfl,k2,k3⟩:=h3;have k3:r2=[]:=k3;subst k3;obtain⟨v1,rfl⟩:∃v1,c1=[v1]:=by rcases k1 with⟨e,_⟩|⟨_,_,e,_⟩<;>exact⟨_,e⟩
      obtain⟨v2,rfl⟩:∃v2,c2=[v2]:=by rcases k2 with⟨e,_⟩|⟨_,_,e,_⟩<;>exact⟨_,e⟩
      have hrel:RelL w (A0 G w) G.bxB [v1,v2] xs:=hrel;cases hrel with
      |cons _ u1 _ ys hr1 hrel2=>
       cases hrel2 with
       |cons _ u2 _ zs hr2 hrel3=>
        cases hrel3;have hr1:Rel w (A0 G w) G.bxB v1 u1:=hr1;have hr2:Rel w (A0 G w) G.bxB v2 u2:=hr2;obtain⟨x1,m1,p1,q1,b1,n1⟩:=rel_rowAt hr1 k1 (h4 v1 (by simp));obtain⟨x2,m2,p2,q2,b2,n2⟩:=rel_rowAt hr2 k2 (h4 v2 (by simp));have hw:=concat_walk a 2 cap (fun i=>if i=0 then u1 else u2) (fun i=>if i=0 then l1.length else l2.length) (fun i=>if i=0 then x1 else x2) w
         (fun i hi=>by
          match i,hi with
          |0,_=>exact hrow 0 _ rfl
          |1,_=>exact hrow 1 _ rfl) (fun _=>row_old hrow (by simp)) (fun i hi=>by
          match i,hi with
          |0,_=>exact m1
          |1,_=>exact m2) (by simp at hl;show 0+l1.length+l2.length<=_;omega) (by omega)
        refine hw.mono fun e w' ⟨v',e1,e2,e3,e4⟩=>⟨[v'],e1,e3,?_⟩
        have hN:sumK (fun i=>if i=0 then l1.length else l2.length) 2=[l1,l2].flatten.length:=by show 0+l1.length+l2.length=_;simp
        have hX:catR (fun i=>if i=0 then x1 else x2) 2=x1++x2:=by show([]++x1)++x2=_;simp
        rw[hN]at e2 e4;rw[hX]at e2;refine .cons _ _ _ _ ?_ .nil;by_cases h0:[l1,l2].flatten=[]
        .rw[h0]at e4;rw[if_pos (by rw[h0];rfl),e4 rfl];exact .nils
        .rw[if_neg (by simpa using h0)];have hk:=keeps_bk hs e3;have hc:((rowCells (List.headD [V.sl .none 1 2 ([v1]++([v2]++[]))] .undef)).flatMap rowCells)=rowCells v1++rowCells v2:=by simp[rowCells]
         have hlb:lb=.none:=hvb (.sl lb (Ty.sl tyMe).size [l1,l2].length ([v1]++([v2]++[]))) (List.mem_singleton_self _);subst hlb;refine own_bk e2 (Nat.le_refl _) (by omega) ?_ ?_ fun e=>h0 ?_
         .show RelL _ _ _ ((rowCells (List.headD [V.sl .none 1 2 ([v1]++([v2]++[]))] .undef)).flatMap rowCells) _;rw[hc];exact(p1.keepB hk n1).append (p2.keepB hk n2)
         .show aC ((rowCells (List.headD [V.sl .none 1 2 ([v1]++([v2]++[]))] .undef)).flatMap rowCells)=[];rw[hc,cT,n1,n2];rfl
         .subst e;rcases e2.2 with⟨_,h⟩|⟨_,_,_,h,_⟩
          .exact List.length_eq_zero_iff.1 h
          .cases h
  .cases hx
theorem hCat:∀x r,gCat x=some r->∀vs,iQ [.sl (.sl tyMe)] x vs->(∀u∈vs.flatMap V.cells,u.bare0)->iQ [.sl tyMe] r (enCat vs r)/\∀c∈(enCat vs r).flatMap V.cells,c.bare0:=fun x r hx vs ht hbare=>by
 unfold gCat at hx;split at hx
 .rename_i hc;cases hx;simp only[Bool.and_eq_true,decide_eq_true_eq]at hc;obtain⟨h2,hl⟩:=hc
  match x,h2 with
  |[l1,l2],_=>
   obtain⟨v,vs',rfl,hv,hvs⟩:=ht;cases hvs;have hcv:bP (.sl (.sl tyMe)) [l1,l2] [v]:=by
    rcases hv.1 with⟨e,hn⟩|⟨lb,rs,e,h3,h4⟩
    .cases hn
    .cases v<;>first|exact hv.1|(cases e)|skip
     cases hv.2
   rcases hcv with⟨e,hn⟩|⟨lb,rs,e,h3,h4⟩
   .cases hn
   .cases e;obtain⟨c1,r1,rfl,k1,c2,r2,rfl,k2,k3⟩:=h3;have k3:r2=[]:=k3;subst k3;obtain⟨v1,rfl⟩:∃v1,c1=[v1]:=by rcases k1 with⟨e,_⟩|⟨_,_,e,_⟩<;>exact⟨_,e⟩
    obtain⟨v2,rfl⟩:∃v2,c2=[v2]:=by rcases k2 with⟨e,_⟩|⟨_,_,e,_⟩<;>exact⟨_,e⟩
    have part:∀{l:List MemT} {v:V},bP (.sl tyMe) l [v]->aL (bP tyMe) l (rowCells v)/\∀c∈rowCells v,c.bare0:=fun{l v} k=>by
     rcases k with⟨e,h⟩|⟨_,_,e,h,h'⟩
     .cases e;have h:l=[]:=h;subst h;exact⟨rfl,fun c hc=>by cases hc⟩
     .cases e;exact⟨h,h'⟩
    obtain⟨a1,b1⟩:=part k1;obtain⟨a2,b2⟩:=part k2;have hc:((rowCells (List.headD [V.sl lb 1 2 ([v1]++([v2]++[]))] .undef)).flatMap rowCells)=rowCells v1++rowCells v2:=by simp[rowCells]
    have hf:[l1,l2].flatten=l1++l2:=by simp
    rw[hf];have hw:enCat [V.sl lb 1 2 ([v1]++([v2]++[]))] (l1++l2)=[if(l1++l2).isEmpty=true then .nils else .sl .none 6 (l1++l2).length (rowCells v1++rowCells v2)]:=by unfold enCat;rw[hc]
    show iQ _ _ (enCat [V.sl lb 1 2 ([v1]++([v2]++[]))] (l1++l2))/\∀c∈(enCat [V.sl lb 1 2 ([v1]++([v2]++[]))] (l1++l2)).flatMap V.cells,_;rw[hw];by_cases h0:l1++l2=[]
    .rw[if_pos (by rw[h0];rfl)];exact⟨⟨_,_,rfl,⟨.inl ⟨rfl,h0⟩,rfl⟩,rfl⟩,fun c hc=>by simp[V.cells]at hc;subst hc;trivial⟩
    .rw[if_neg (by simpa using h0)];exact⟨⟨_,_,rfl,⟨.inr ⟨.none,_,rfl,rowsrel_append a1 a2,fun c hc=>(List.mem_append.1 hc).elim (b1 c) (b2 c)⟩,rfl⟩,rfl⟩,fun c hc=>by simp[V.cells]at hc;subst hc;rfl⟩
 .cases hx
end Go.Proofs.YtbpocjclcbjggaaGreatDoor
