/- What becomes of the relation when a slot is written; when something is made. -/
import Derived.Test.YtbpocjclcbjggaaGreatDoorMA
import Derived.Laws.MakeOwn
import Derived.Lib.ConvBytes
import Derived.Great.BuildSlice
namespace Go.VM
open Go.RowKit
variable{Ω:World->Prop}
section
variable{P:Program}{D M:Nat->Prop}{G:Gh}{σ:St}{tm:Array Value}{w:World}
theorem vN(tm:Array Value)(d s:Nat)(c:Value)(hd:d<tm.size):(tm.setIfInBounds d c).getD s Go.undef=if s=d then c else tm.getD s Go.undef:=by
 by_cases h:s=d
 .subst h;rw[if_pos rfl];simp[Array.getD,hd]
 .rw[if_neg h];simp only[Array.getD_eq_getD_getElem?,Array.getElem?_setIfInBounds_ne (Ne.symm h)]
theorem tZ{A:Pl}{B:List Nat}:aCJ w w A A B B:=⟨fun _ _ _ _ _ _ h=>⟨h,fun _ _=>rfl⟩,fun _ _ h=>h⟩
theorem VR.not_reg{A:Pl}{e:Nat->V}{v:V}{c:Value}(h:VR G A w e v c):∀k n cs,v≠.reg k n cs:=by
 rintro k n cs rfl;exact h
theorem fP{A:Pl}{e:Nat->V}{s:Nat}{v:V}{c:Value}(h:∀k n cs,v≠.reg k n cs):fN G A w e s v c↔VR G A w e v c:=by
 cases v<;>first|exact Iff.rfl|exact absurd rfl (h _ _ _)
theorem V.reg_or(v:V):(∃k n cs,v=.reg k n cs)\/∀k n cs,v≠.reg k n cs:=by
 cases v<;>first|exact .inl ⟨_,_,_,rfl⟩|exact .inr (by simp)
theorem SR.put(h:SR Ω D M G σ tm w){d:Nat}{v:V}{c:Value}(hd:d<tm.size)(hv:VR G (At G σ.tips σ.lk w) w (get σ.env) v c) :
  SR Ω (fun s=>D s\/s=d) M G {σ with env:=set σ.env d v} (tm.setIfInBounds d c) w:=by
 have hnr:=hv.not_reg;have hg:Goes G G (At G σ.tips σ.lk w) (At G σ.tips σ.lk w) w w (get σ.env) (get (set σ.env d v)):=by
  refine⟨tZ,fun b s c hb=>⟨hb,rfl,Nat.le_refl _⟩,fun s c u cs he=>?_⟩;rw[iU]at he;split at he
  .exact absurd he (hnr _ _ _)
  .exact .inl ⟨cs,he,fun _=>rfl⟩
 refine⟨fun s=>?_,h.boxes,h.ok,h.shared,fun b s c hb=>?_,fun d' hm hD=>h.newD d' hm fun hh=>hD (.inl hh)⟩
 .show fN G (At G σ.tips σ.lk w) w (get (set σ.env d v)) s (get (set σ.env d v) s) _;rw[iU,vN _ _ _ _ hd];split
  .rename_i hs;exact(fP hnr).2 (hv.goes h.ok hg)
  .have hs:=h.slots s;rcases(get σ.env s).reg_or with⟨k,n,cs,hu⟩|hu
   .rw[hu]at hs ⊢;exact hs
   .exact(fP hu).2 (VR.goes h.ok hg ((fP hu).1 hs))
 .rcases h.clkD b s c hb with h1|⟨h1,h2⟩
  .exact .inl h1
  .exact .inr ⟨h1,.inl h2⟩
theorem fN.goes{G':Gh}{A A':Pl}{w':World}{e e':Nat->V}(hok:GOk Ω G w)(hg:Goes G G' A A' w w' e e'){s:Nat}{v:V}{c:Value}(h:fN G A w e s v c)(hr:∀k n cs,v=.reg k n cs->aAX G' A' w' s k n cs c) :
  fN G' A' w' e' s v c:=by
 rcases v.reg_or with⟨k,n,cs,hu⟩|hu
 .subst hu;exact hr k n cs rfl
 .exact(fP hu).2 (VR.goes hok hg ((fP hu).1 h))
theorem aAX.goes{G':Gh}{A A':Pl}{w':World}{e e':Nat->V}(hg:Goes G G' A A' w w' e e'){s k n:Nat}{cs:List V}{c:Value}(h:aAX G A w s k n cs c)(hb:w'.heap[G.rgB s k]?=w.heap[G.rgB s k]?)(hv:G'.ver s k=G.ver s k) :
  aAX G' A' w' s k n cs c:=by
 obtain⟨h1,h2,h3,xs,e,h4,h5⟩:=h;obtain⟨k1,k2,_⟩:=hg.rgs _ _ _ h3;exact⟨by rw[hv];exact h1,by rw[k2];exact h2,by rw[k2];exact k1,xs,e,by rw[k2,hb];exact h4,h5.keep hg.keeps⟩
theorem vO(o:Obj)(b:Nat)(h:b<w.heap.size):(w.alloc o).heap[b]?=w.heap[b]?:=Below.heap_alloc w o b h
structure Calm(w w':World):Prop where
 os:w'.os=w.os
 tape:w'.tape=w.tape
 output:w'.output=w.output
 size:w.heap.size<=w'.heap.size
 block:∀b,b<w.heap.size->w'.heap[b]?=w.heap[b]?
theorem GOk.calm{G G':Gh}{w w':World}(h:GOk Ω G w)(hc:Calm w w')(hz:∀b,b<w.heap.size->G'.Z b=G.Z b)(hl:G'.lo=G.lo) :
  (∀b,b<G'.lo->b<w'.heap.size/\(G'.Z b=.out\/∃n,G'.Z b=.st n))/\∀w'':World,(∀b,b<G'.lo->w''.heap[b]?=w'.heap[b]?)->Ω w'':=
 h.next (fun b h1 h2=>⟨Nat.lt_of_lt_of_le h2 hc.size,hc.block b h2,by rw[hz b h2];exact h1⟩) hl
theorem Calm.refl(w:World):Calm w w:=⟨rfl,rfl,rfl,Nat.le_refl _,fun _ _=>rfl⟩
theorem Calm.alloc(w:World)(o:Obj):Calm w (w.alloc o):=⟨rfl,rfl,rfl,by simp,fun b h=>vO o b h⟩
theorem Calm.drew{w w':World}(h:Calm w w'):Calm w w'.drew:=⟨h.os,h.tape,h.output,h.size,h.block⟩
theorem Calm.cell{w w':World}(h:Calm w w'){a:Addr}(hb:a.block<w.heap.size):w'.cell? a=w.cell? a:=World.cell?_of_block (h.block _ hb)
def Gh.at(G:Gh)(b:Nat)(z:Zn):Gh:={G with Z:=fun x=>if x=b then z else G.Z x}
theorem At.zone{T:Nat->Nat}{lk:Nat->Bool}{l:Lab}{a:Addr}{len z n cap:Nat}(h:At G T lk w l a len z n cap)(hpos:len≠0\/l≠.none):G.Z a.block≠.out:=by
 cases l with
 |none=>
  rcases h with h0|⟨_,h,_⟩|⟨nm,_,h,_⟩
  .exact absurd h0 (hpos.resolve_right (by simp))
  .rw[h];simp
  .rw[h];simp
 |own nm k=>obtain⟨_,h,_⟩:=h;rcases h with⟨_,h,_⟩|⟨h,_⟩<;>rw[h]<;>simp
 |pre nm k=>obtain⟨_,h,_⟩:=h;rcases h with⟨_,h,_⟩|⟨h,_⟩<;>rw[h]<;>simp
 |view nm=>rcases h with⟨_,h,_⟩|⟨h,_⟩<;>rw[h]<;>simp
 |rv=>exact h.elim
 |arg=>exact h.elim
theorem At.calm{G':Gh}{w':World}{T:Nat->Nat}{lk:Nat->Bool}(hok:GOk Ω G w)(hc:Calm w w')(hz:∀b,G.Z b≠.out->G'.Z b=G.Z b)
  (hf:∀b nm,G.Z b=.fam nm->G'.famB nm=G.famB nm/\G'.ext nm=G.ext nm) {l:Lab} {a:Addr} {len z n cap:Nat} (h:At G T lk w l a len z n cap) :
  At G' T lk w' l a len z n cap/\∀j,j<len->w'.cell? (a.add j)=w.cell? (a.add j):=by
 by_cases hpos:len=0/\l=.none
 .obtain⟨h0,rfl⟩:=hpos;exact⟨.inl h0,fun j hj=>by omega⟩
 have hb:=h.zone (by
  by_cases h0:len=0
  .exact .inr fun e=>hpos ⟨h0,e⟩
  .exact .inl h0)
 have hlt:=hok.lt _ hb;refine⟨?_,fun j _=>hc.cell (by rw[bM];exact hlt)⟩;have rd:∀nm,Rd G nm a len->Rd G' nm a len:=fun nm hr=>by
  rcases hr with hr|⟨hr,hr2⟩
  .exact .inl (hr.over fun _ h=>(hz _ hb).trans h)
  .exact .inr ⟨(hz _ hb).trans hr,by rw[(hf _ _ hr).2];exact hr2⟩
 have tip:∀nm,Tip G w nm a z cap->Tip G' w' nm a z cap:=fun nm ht=>by
  obtain⟨h1,h2,cur,e,h3,h4⟩:=ht;have hfb:=(hf _ _ h1).1;refine⟨(hz _ hb).trans h1,by rw[hfb];exact h2,cur,e,?_,h4⟩
  rw [hfb, hc.block _ (by have : a.block = G.famB nm := by rw [h2]
                          omega)]
  exact h3
 cases l with
 |none=>
  rcases h with h0|h|⟨nm,h1,h2,h3⟩
  .exact .inl h0
  .exact .inr (.inl (h.over fun _ h=>(hz _ hb).trans h))
  .exact .inr (.inr ⟨nm,h1,(hz _ hb).trans h2,by rw[(hf _ _ h2).2];exact h3⟩)
 |own nm k=>
  obtain⟨h1,h2,h3⟩:=h;refine⟨h1,rd nm h2,fun hk=>?_⟩;obtain⟨h4,h5,h6⟩:=h3 hk;exact⟨tip nm h4,by rw[(hf _ _ h4.1).2];exact h5,h6⟩
 |pre nm k=>
  obtain⟨h1,h2,h3⟩:=h;exact⟨h1,rd nm h2,fun hk=>tip nm (h3 hk)⟩
 |view nm=>exact rd nm h
 |rv=>exact h.elim
 |arg=>exact h.elim
theorem mN{G':Gh}{w':World}{T:Nat->Nat}{lk:Nat->Bool}{e:Nat->V}(hok:GOk Ω G w)(hc:Calm w w')(hz:∀b,G.Z b≠.out->G'.Z b=G.Z b)
  (hf:∀b nm,G.Z b=.fam nm->G'.famB nm=G.famB nm/\G'.ext nm=G.ext nm) (hr:∀b s c,G.Z b=.rg s c->G'.rgB s c=G.rgB s c/\G'.ver s c=G.ver s c)
  (hb:∀(i b:Nat),G.bxB[i]?=some b->G'.bxB[i]?=some b):Goes G G' (At G T lk w) (At G' T lk w') w w' e e:=by
 refine⟨⟨fun l a len z n cap h=>At.calm hok hc hz hf h,hb⟩,fun b s c h=>⟨(hz b (by rw[h];simp)).trans h,(hr b s c h).1,Nat.le_of_eq (hr b s c h).2.symm⟩,fun s c v cs he=>?_⟩;by_cases hex:∃b,G.Z b=.rg s c
 .obtain⟨b,hbz⟩:=hex;have hbb:=hok.rgU b s c hbz;refine .inl ⟨cs,he,fun j=>hc.cell (a:=⟨G.rgB s c,j,none⟩) ?_⟩;show G.rgB s c<_;rw[<-hbb];exact hok.lt b (by rw[hbz];simp)
 .exact .inr (.inl fun b hbz=>hex ⟨b,hbz⟩)
theorem SR.grow{G':Gh}{w':World}(h:SR Ω D M G σ tm w)(hc:Calm w w')(hz:∀b,G.Z b≠.out->G'.Z b=G.Z b)
  (hf:∀b nm,G.Z b=.fam nm->G'.famB nm=G.famB nm/\G'.ext nm=G.ext nm) (hr:∀b s c,G.Z b=.rg s c->G'.rgB s c=G.rgB s c/\G'.ver s c=G.ver s c)
  (hb:G'.bxB=G.bxB) (hok:GOk Ω G' w') (hclk:∀b s c,G'.Z b=.rg s c->c<σ.clk\/(c=σ.clk/\D s)) (hnew:∀d,M d->¬D d->∀b,G'.Z b≠.fam (aQ d 0)) :
  SR Ω D M G' σ tm w':=by
 have hg:Goes G G' (At G σ.tips σ.lk w) (At G' σ.tips σ.lk w') w w' (get σ.env) (get σ.env):=mN h.ok hc hz hf hr (fun i b hi=>by rw[hb];exact hi);refine⟨fun s=>?_,?_,hok,h.shared,hclk,hnew⟩
 .refine fN.goes h.ok hg (h.slots s) fun k n cs hv=>?_
  have hs:=h.slots s;rw[hv]at hs;obtain⟨h1,h2,h3,h4⟩:=hs;exact aAX.goes hg ⟨h1,h2,h3,h4⟩ (hc.block _ (h.ok.lt _ (by rw[h3];simp))) (hr _ _ _ h3).2
 .refine⟨by rw[hb];exact h.boxes.1,fun i cs hi=>?_⟩;obtain⟨hn,b,h1,h2,xs,e,h3,h4⟩:=h.boxes.2 i cs hi;exact⟨hn,b,by rw[hb];exact h1,(hz b (by rw[h2];simp)).trans h2,xs,e,by rw[hc.block b (h.ok.lt b (by rw[h2];simp))];exact h3,h4.keep hg.keeps⟩
theorem nY{G':Gh}{w':World}(hok:GOk Ω G w)(hc:Calm w w')(hz:∀b,b<w.heap.size->G'.Z b=G.Z b)(hf:∀b nm,G.Z b=.fam nm->G'.ext nm=G.ext nm)(hb:∀(i b:Nat),G.bxB[i]?=some b->G'.bxB[i]?=some b):Fr G w G' w':=
 ⟨hc.os,hc.tape,hc.output,hc.size,fun b hlt _=>⟨hc.block b hlt,hz b hlt⟩,
  fun b nm _ h=>⟨fun x hx _=>hc.cell (by rw[hx];exact hok.lt b (by rw[h];simp)),.inl ⟨(hz b (hok.lt b (by rw[h];simp))).trans h,Nat.le_of_eq (hf b nm h).symm⟩⟩,hb⟩
theorem SR.new_rg(h:SR Ω D M G σ tm w){d:Nat}{cs:List V}{xs:Array Value}{ty:TypeId}(hd:d<tm.size)(hD:¬D d)(hl:RelL w (At G σ.tips σ.lk w) G.bxB cs xs.toList) :
  ∃G',SR Ω (fun s=>D s\/s=d) M G' {σ with env:=set σ.env d (.reg σ.clk 0 cs)} (tm.setIfInBounds d (.pointer (some ⟨w.heap.size,0,none⟩))) (w.alloc (.cells xs ty))/\Fr G w G' (w.alloc (.cells xs ty)):=by
 have hout:G.Z w.heap.size=.out:=by
  by_cases ho:G.Z w.heap.size=.out
  .exact ho
  .exact absurd (h.ok.lt _ ho) (Nat.lt_irrefl _)
 have hno:∀b,G.Z b≠.rg d σ.clk:=fun b hb=>by
  rcases h.clkD b d σ.clk hb with h1|⟨_,h1⟩
  .omega
  .exact hD h1
 let G':Gh:={G with Z:=fun x=>if x=w.heap.size then .rg d σ.clk else G.Z x,rgB:=fun s c=>if s=d/\c=σ.clk then w.heap.size else G.rgB s c,ver:=fun s c=>if s=d/\c=σ.clk then 0 else G.ver s c};have hc:Calm w (w.alloc (.cells xs ty)):=Calm.alloc w _;have hz:∀b,b≠w.heap.size->G'.Z b=G.Z b:=fun b hb=>by simp[G',hb]
 have hz':∀b,G.Z b≠.out->G'.Z b=G.Z b:=fun b hb=>hz b (fun e=>hb (e▸hout))
 have hrg:∀b s c,G.Z b=.rg s c->G'.rgB s c=G.rgB s c/\G'.ver s c=G.ver s c:=fun b s c hb=>by
  have:¬(s=d/\c=σ.clk):=fun⟨e1,e2⟩=>hno b (by rw[<-e1,<-e2];exact hb)
  simp[G',this]
 have hg:Goes G G' (At G σ.tips σ.lk w) (At G' σ.tips σ.lk (w.alloc (.cells xs ty))) w (w.alloc (.cells xs ty)) (get σ.env) (get (set σ.env d (.reg σ.clk 0 cs))):=by
  have h0:=mN (T:=σ.tips) (lk:=σ.lk) (e:=get σ.env) (G':=G') h.ok hc hz' (fun _ _ _=>⟨rfl,rfl⟩) hrg (fun _ _ hb=>hb);refine⟨h0.keeps,h0.rgs,fun s c v cs' he=>?_⟩;rw[iU]at he;split at he
  .rename_i hs;cases he;subst hs;exact .inr (.inl hno)
  .exact h0.live s c v cs' he
 refine⟨G',⟨fun s=>?_,?_,⟨fun b hb=>?_,fun b nm hb=>?_,fun b nm hb=>?_,fun b s c hb=>?_,(h.ok.calm hc (fun b hb=>hz b (Nat.ne_of_lt hb)) rfl).1,(h.ok.calm hc (fun b hb=>hz b (Nat.ne_of_lt hb)) rfl).2⟩,h.shared,fun b s c hb=>?_,fun d' hm hD' b hb=>?_⟩,nY h.ok hc (fun b hb=>hz b (by omega)) (fun _ _ _=>rfl) (fun _ _ hb=>hb)⟩
 .show fN G' _ _ (get (set σ.env d (.reg σ.clk 0 cs))) s (get (set σ.env d (.reg σ.clk 0 cs)) s) _;rw[vN _ _ _ _ hd];rw[show get (set σ.env d (.reg σ.clk 0 cs)) s=if s=d then .reg σ.clk 0 cs else get σ.env s from iU _ _ _ _];split
  .rename_i hs;subst hs;refine⟨by simp[G'],by simp[G'],by simp[G'],xs,ty,?_,hl.keep hg.keeps⟩;simp only[G',and_self,if_true];exact Go.heap_alloc_new w _
  .rename_i hs;refine fN.goes h.ok hg (h.slots s) fun k n cs' hv=>?_
   have hs':=h.slots s;rw[hv]at hs';obtain⟨h1,h2,h3,h4⟩:=hs';exact aAX.goes hg ⟨h1,h2,h3,h4⟩ (hc.block _ (h.ok.lt _ (by rw[h3];simp))) (hrg _ _ _ h3).2
 .refine⟨h.boxes.1,fun i cs' hi=>?_⟩;obtain⟨hn,b,h1,h2,ys,e,h3,h4⟩:=h.boxes.2 i cs' hi;exact⟨hn,b,h1,(hz' b (by rw[h2];simp)).trans h2,ys,e,by rw[hc.block b (h.ok.lt b (by rw[h2];simp))];exact h3,h4.keep hg.keeps⟩
 .by_cases e:b=w.heap.size
  .subst e;simp
  .have:=h.ok.lt b (by rw[<-hz b e];exact hb);simp;omega
 .by_cases e:b=w.heap.size
  .subst e;simp[G']at hb
  .exact h.ok.famU b nm (by rw[<-hz b e];exact hb)
 .by_cases e:b=w.heap.size
  .subst e;simp[G']at hb
  .have h1:G.Z b=.fam nm:=by rw[<-hz b e];exact hb
   obtain⟨cur,e,h2,h3⟩:=h.ok.famC b nm h1;exact⟨cur,e,by rw[hc.block b (h.ok.lt b (by rw[h1];simp))];exact h2,h3⟩
 .by_cases e:b=w.heap.size
  .subst e;simp only[G',if_true]at hb;cases hb;simp[G']
  .have h1:G.Z b=.rg s c:=by rw[<-hz b e];exact hb
   rw[(hrg b s c h1).1];exact h.ok.rgU b s c h1
 .by_cases e:b=w.heap.size
  .subst e;simp only[G',if_true]at hb;cases hb;exact .inr ⟨rfl,.inr rfl⟩
  .rcases h.clkD b s c (by rw[<-hz b e];exact hb)with h1|⟨h1,h2⟩
   .exact .inl h1
   .exact .inr ⟨h1,.inl h2⟩
 .by_cases e:b=w.heap.size
  .subst e;simp[G']at hb
  .exact h.newD d' hm (fun hh=>hD' (.inl hh)) b (by rw[<-hz b e];exact hb)
end
end Go.VM
namespace Go.VM
open Go.RowKit
variable{Ω:World->Prop}
theorem Rel.one{w:World}{A:Pl}{B:List Nat}{v:V}{c:Value}(h:Rel w A B v c)(hk:v.ok1=true):c.oneCell'=true:=by
 cases h<;>first|rfl|cases hk
theorem RelL.one{w:World}{A:Pl}{B:List Nat}{vs:List V}{cs:List Value}(h:RelL w A B vs cs)(hk:vs.all V.ok1=true):∀u∈cs,u.oneCell'=true:=by
 induction vs generalizing cs with
 |nil=>cases h;intro u hu;cases hu
 |cons v vs ih=>
  cases h with
  |cons _ c _ cs h1 h2=>
   simp only[List.all_cons,Bool.and_eq_true]at hk;intro u hu;rcases List.mem_cons.1 hu with rfl|hu
   .exact h1.one hk.1
   .exact ih h2 hk.2 u hu
section
variable{P:Program}{w:World}
def Src(P:Program)(w:World)(x:Value)(size m:Nat)(news:List Value):Prop:=
 (∀w',(Builtin.lenOf x).run P w'=.ok m w')/\(∀w',w'.heap=w.heap->(Builtin.firstCells size m x).run P w'=.ok news.toArray w')/\news.length=m*size
theorem qO{a:Addr}{size m c:Nat}{news:List Value}(hl:news.length=m*size)(hr:Row w a news):Src P w (.slice (some a) m c) size m news:=
 ⟨fun _=>rfl,fun w' hw=>run_firstCells_some w' size m a m c news hl fun j u hu=>by
  have:=hr j u hu;unfold World.cell? at this ⊢;rw[hw];exact this,hl⟩
theorem aDi{size:Nat}:Src P w (.slice none 0 0) size 0 []:=⟨fun _=>rfl,fun w' _=>by simp[Builtin.firstCells],by simp⟩
theorem aHO{s:ByteArray}:Src P w (.string s) 1 s.size (s.data.toList.map fun b=>.int .u8 b.toNat):=by
 refine⟨fun _=>rfl,fun w' _=>?_,by simp⟩;simp only[Builtin.firstCells,Sem.run_pure];congr 1;have:(s.extract 0 s.size)=s:=by simp
 rw[this];apply Array.ext';simp
def aHu(P:Program)(w:World)(ud:TypeDesc)(i:TypeInfo)(x:Value)(m:Nat)(news:List Value):Prop:=
 ((∀k,ud≠.int k)/\Src P w x i.size m news)\/∃k zv,ud=.int k/\x=.int .i64 (m:Int)/\i.zero=some zv/\news=(Builtin.zeroCells zv.cells m).toList/\zv.cells.size=i.size/\0<i.size/\m<=9223372036854775807/\m*i.bytes<=140737488355328
theorem aHu.len{ud:TypeDesc}{i:TypeInfo}{x:Value}{m:Nat}{news:List Value}(h:aHu P w ud i x m news):news.length=m*i.size:=by
 rcases h with⟨_,h⟩|⟨k,zv,_,_,_,rfl,h1,_⟩
 .exact h.2.2
 .rw[Array.length_toList,size_zeroCells,h1]
theorem qP{k:IntKind}{n:Int}(h:k.min<=n)(h2:n<=k.max):k.wrap n=n:=by
 cases k<;>simp[IntKind.wrap,IntKind.min,IntKind.max,IntKind.signed,IntKind.bits]at h h2⊢<;> first|omega|(split<;>omega)
theorem aIU{m:Nat}(h:m<=9223372036854775807):IntKind.i64.wrap (m:Int)=m:=qP (by show(-(2:Int)^63)<=_;omega) (by show(m:Int)<=(2:Int)^63-1;omega)
theorem aDj:IntKind.i64.wrap 0=0:=by decide
theorem gF{P:Program}{w:World}(n:Int):(asIntOf (.int .i64 n)).run P w=.ok (.i64,n) w:=rfl
theorem run_storeCells_fz(P:Program)(g o:Nat)(t:TypeId)(fr:Nat×Nat):∀(vs:List Value) (i:Nat) (cur:Array Value) (w:World),w.heap[g]?=some (.cells cur t fr)->Fz fr cur.size->o+i+vs.length<=cur.size->(∀v∈vs,v.oneCell'=true)->
  (storeCells ⟨g,o,none⟩ vs i).run P w=.ok () (w.setRow g (cur.toList.take (o+i)++vs++cur.toList.drop (o+i+vs.length)).toArray)
 |[],i,cur,w,hg,_,_,_=>by
  simp only[storeCells,List.append_nil,List.length_nil,Nat.add_zero,List.take_append_drop,Array.toArray_toList];rw[setRow_self w g cur t fr hg];rfl
 |v::rest,i,cur,w,hg,hz,hl,h1=>by
  have hi:o+i<cur.size:=by simp at hl;omega
  have hadd:(⟨g,o,none⟩:Addr).add i=⟨g,o+i,none⟩:=by unfold Addr.add;split<;>simp_all
  have hcell:w.cell? ⟨g,o+i,none⟩=some cur[o+i]:=by simp[World.cell?,hg,hi]
  have hfro:w.frozen? ⟨g,o+i,none⟩=false:=by
   simp only[World.frozen?,hg];unfold Fz at hz;rw[Bool.and_eq_false_iff];rcases hz with hz|hz
   .by_cases h:fr.1<=o+i
    .exact .inr (decide_eq_false (by omega))
    .exact .inl (decide_eq_false h)
   .exact .inl (decide_eq_false (by omega))
  have hst:(store ((⟨g,o,none⟩:Addr).add i) v).run P w=.ok () (w.setRow g (cur.setIfInBounds (o+i) v)):=by
   rw[hadd,run_store P w _ v _ (h1 v (by simp)),hcell];simp[hfro,setCell_eq_setRow w g (o+i) cur t fr v hg]
  have ih:=run_storeCells_fz P g o t fr rest (i+1) (cur.setIfInBounds (o+i) v) (w.setRow g (cur.setIfInBounds (o+i) v)) (setRow_heap w g cur _ t _ hg) (by simpa using hz) (by simp at hl ⊢;omega) (fun x hx=>h1 x (by simp[hx]));simp only[storeCells,Sem.run_bind,hst,Result.andThen_ok,ih,setRow_setRow];congr 3;have e:=list_seg_step cur.toList (o+i) v rest (by simp at hl ⊢;omega);simpa[Array.toList_setIfInBounds,Nat.add_assoc]using e
theorem cb_set{w:World}{g:Nat}{cur news:Array Value}{e:TypeId}(h:∃fr:Nat×Nat,w.heap[g]?=some (.cells cur e fr)/\Fz fr cur.size)(hs:news.size=cur.size):∃fr:Nat×Nat,(w.setRow g news).heap[g]?=some (.cells news e fr)/\Fz fr news.size:=
 let ⟨fr,h1,h2⟩:=h
 ⟨fr,setRow_heap w g cur news e fr h1,by rw[hs];exact h2⟩
theorem mO{t u e e0:TypeId}{i:TypeInfo}{ud:TypeDesc}(ht:P.underlying t=some (.slice e))(hu:P.underlying u=some ud)(hi:P.info? e=some i){ty:TypeId}
  {g n cap m:Nat} {cur:Array Value} (hg:∃fr:Nat×Nat,w.heap[g]?=some (.cells cur e0 fr)/\Fz fr cur.size) {x:Value} {news:List Value} (hs:aHu P w ud i x m news) (h1:∀u∈news,u.oneCell'=true) (hroom:n+m<=cap) (hcs:cur.size=cap*i.size) :
  (Builtin.append_ #[t,u] ty #[.slice (some ⟨g,0,none⟩) n cap,x]).run P w=
   .ok (.slice (some ⟨g,0,none⟩) (n+m) cap) (w.setRow g (cur.toList.take (n*i.size)++news++cur.toList.drop (n*i.size+news.length)).toArray):=by
 have hfit:n*i.size+news.length<=cur.size:=by rw[hs.len,hcs,<-Nat.add_mul];exact Nat.mul_le_mul_right _ hroom
 obtain⟨fr,hg,hfz⟩:=hg;have hst:=run_storeCells_fz P g (n*i.size) e0 fr news 0 cur w hg hfz (by simpa using hfit) h1;simp only[Nat.add_zero]at hst;have hadd:(⟨g,0,none⟩:Addr).add (n*i.size)=⟨g,n*i.size,none⟩:=by rw[fO];simp
 rcases hs with⟨hud,hs⟩|⟨k,zv,rfl,rfl,hzv,rfl,hzs,hpos,hm,hb⟩
 .have hz:(match ud with|.int _=>true|_=>false)=false:=by cases ud<;>first|rfl|exact absurd rfl (hud _)
  unfold Builtin.append_;simp only[List.getElem?_toArray,List.getElem?_cons_zero,List.getElem?_cons_succ,Sem.run_bind,run_underlying ht,Result.andThen_ok];simp[sizeOf,typeInfo,hi,run_underlying hu,hs.1,hroom,hs.2.1 w rfl,hadd,hst]
 · have h48 : ¬ (281474976710656 < (m : Int) * (i.bytes : Int)) := by
     rw[<-Int.natCast_mul];omega
   have h0:¬((m:Int)<0):=by omega
   unfold Builtin.append_;simp only[List.getElem?_toArray,List.getElem?_cons_zero,List.getElem?_cons_succ,Sem.run_bind,run_underlying ht,Result.andThen_ok];by_cases hm0:m=0
   .subst hm0;have e0:Builtin.zeroCells zv.cells 0=#[]:=Array.eq_empty_of_size_eq_zero (by rw[size_zeroCells,Nat.zero_mul]);have hr:n<=cap:=hroom;rw[e0]at hst ⊢;simp only[List.append_nil,List.length_nil,Nat.add_zero,List.take_append_drop]at hst ⊢;simp[sizeOf,typeInfo,zeroValue,hi,hzv,run_underlying hu,asInt,gF,aDj,hr,hadd,hst]
   .have hms:¬(m*i.size=0):=by rw[Nat.mul_eq_zero];omega
    simp[sizeOf,typeInfo,zeroValue,hi,hzv,run_underlying hu,asInt,gF,aIU hm,h0,h48,hroom,hadd,hst,hms]
theorem run_append_out{t u e:TypeId}{i:TypeInfo}{z:Value}{ud:TypeDesc}(ht:P.underlying t=some (.slice e))(hu:P.underlying u=some ud)(hi:P.info? e=some i)(hz:i.zero=some z){ty:TypeId}
  {b:Option Addr} {n cap m:Nat} {x:Value} {olds news:List Value} (hb:Src P w (.slice b n cap) i.size n olds) (hs:aHu P w ud i x m news) (hroom:cap<n+m) (h63:n+m<=9223372036854775807) (hfit:(n+m)*i.bytes<=140737488355328) :
  (Builtin.append_ #[t,u] ty #[.slice b n cap,x]).run P w=
   .ok (.slice (some ⟨w.heap.size,0,none⟩) (n+m) (grownCap w (n+m) cap e))
    (w.drew.alloc (.cells (olds.toArray++news.toArray++Builtin.zeroCells z.cells (grownCap w (n+m) cap e-(n+m))) e)):=by
 have hn:¬(n+m<=cap):=by omega
 have h63':¬(9223372036854775807<((n:Int)+(m:Int))):=by omega
 have h48:=growslice_fits hroom hfit;have h48':¬(281474976710656<Builtin.nextslicecap (n+m) cap*i.bytes):=by omega
 have hfo:=hb.2.1 w.drew rfl;rcases hs with⟨hud,hs⟩|⟨k,zv,rfl,rfl,hzv,rfl,hzs,hpos,hm,hbb⟩
 .have hzk:(match ud with|.int _=>true|_=>false)=false:=by cases ud<;>first|rfl|exact absurd rfl (hud _)
  have hf:=hs.2.1 w.drew rfl;unfold Builtin.append_;simp only[List.getElem?_toArray,List.getElem?_cons_zero,List.getElem?_cons_succ,Sem.run_bind,run_underlying ht,Result.andThen_ok];simp[sizeOf,typeInfo,zeroValue,hi,hz,run_underlying hu,hs.1,hn,h63',h48',Question.forced,hf,hfo,newRow,grownCap];congr 2;apply Array.ext';simp[List.append_assoc]
 .obtain rfl:z=zv:=by rw[hz]at hzv;cases hzv;rfl
  have h48b:¬(281474976710656<(m:Int)*(i.bytes:Int)):=by
   rw[<-Int.natCast_mul];omega
  have h0:¬((m:Int)<0):=by omega
  unfold Builtin.append_;simp only[List.getElem?_toArray,List.getElem?_cons_zero,List.getElem?_cons_succ,Sem.run_bind,run_underlying ht,Result.andThen_ok];by_cases hm0:m=0
  .subst hm0;have e0:Builtin.zeroCells z.cells 0=#[]:=Array.eq_empty_of_size_eq_zero (by rw[size_zeroCells,Nat.zero_mul]);rw[e0];have hn0:¬(n<=cap):=hn;have h630:¬(9223372036854775807<(n:Int)):=by omega
   have h480:¬(281474976710656<Builtin.nextslicecap n cap*i.bytes):=h48';simp[sizeOf,typeInfo,zeroValue,hi,hz,run_underlying hu,asInt,gF,aDj,hn0,h630,h480,Question.forced,hfo,newRow,grownCap]
  .have hms:¬(m*i.size=0):=by rw[Nat.mul_eq_zero];omega
   simp[sizeOf,typeInfo,zeroValue,hi,hz,run_underlying hu,asInt,gF,aIU hm,h0,h48b,hn,h63',h48',Question.forced,hfo,newRow,grownCap,hms]
end
section
variable{D M:Nat->Prop}{G:Gh}{σ:St}{tm:Array Value}{w:World}
theorem bT{α:Type}(f:Nat->α)(a:Nat)(v:α):upd f a v a=v:=by simp[upd]
theorem aO{α:Type}(f:Nat->α){a b:Nat}(v:α)(h:b≠a):upd f a v b=f b:=by simp[upd,h]
def Gh.retire(G:Gh)(nm:Nat):Gh:={G with Z:=fun b=>match G.Z b with
 |.fam m=>if m=nm then .st (G.ext nm)else .fam m
 |z=>z}
theorem dR{nm b:Nat}{q:Zn}(hq:∀n,q≠.st n)(h:(G.retire nm).Z b=q):G.Z b=q/\q≠.fam nm:=by
 simp only[Gh.retire]at h;split at h
 .rename_i m hm;split at h
  .exact absurd h.symm (hq _)
  .rename_i hne;rw[hm];subst h;exact⟨rfl,by simpa using hne⟩
 .rename_i z hz;subst h;exact⟨rfl,fun e=>hz _ e⟩
theorem cJ{nm b:Nat}(h:G.Z b≠.fam nm):(G.retire nm).Z b=G.Z b:=by
 simp only[Gh.retire];split
 .rename_i m hm;have:m≠nm:=fun e=>h (by rw[hm,e])
  simp[this,hm]
 .rfl
theorem nZ{nm b:Nat}(h:G.Z b=.fam nm):(G.retire nm).Z b=.st (G.ext nm):=by simp[Gh.retire,h]
theorem At.retire{T T':Nat->Nat}{lk lk':Nat->Bool}{nm:Nat}(hT:∀m,m≠nm->T' m=T m)(hT2:T nm<T' nm)(hlk:∀m,m≠nm->lk m=true->lk' m=true){l:Lab}{a:Addr}{len z n cap:Nat}(h:At G T lk w l a len z n cap) :
  At (G.retire nm) T' lk' w l a len z n cap:=by
 have rd:∀m,Rd G m a len->Rd (G.retire nm) m a len:=fun m hr=>by
  rcases hr with hr|⟨hr,hr2⟩
  .exact .inl (hr.over fun _ h=>by rw[cJ (by rw[h];simp)];exact h)
  .by_cases e:m=nm
   .subst e;exact .inl ⟨_,nZ hr,hr2⟩
   .exact .inr ⟨by rw[cJ (by rw[hr];simpa using e)];exact hr,hr2⟩
 have tip:∀m k,m≠nm->Tip G w m a z k->Tip (G.retire nm) w m a z k:=fun m k e ⟨h1,h2⟩=>⟨by rw[cJ (by rw[h1];simpa using e)];exact h1,h2⟩
 cases l with
 |none=>
  rcases h with h0|h|⟨m,h1,h2,h3⟩
  .exact .inl h0
  .exact .inr (.inl (h.over fun _ h=>by rw[cJ (by rw[h];simp)];exact h))
  .by_cases e:m=nm
   .subst e;exact .inr (.inl ⟨_,nZ h2,h3⟩)
   .exact .inr (.inr ⟨m,hlk m e h1,by rw[cJ (by rw[h2];simpa using e)];exact h2,h3⟩)
 |own m k=>
  obtain⟨h1,h2,h3⟩:=h;by_cases e:m=nm
  .subst e;exact⟨by omega,rd _ h2,fun hk=>by omega⟩
  .refine⟨by rw[hT m e];exact h1,rd m h2,fun hk=>?_⟩;rw[hT m e]at hk;obtain⟨h4,h5,h6⟩:=h3 hk;exact⟨tip m cap e h4,h5,h6⟩
 |pre m k=>
  obtain⟨h1,h2,h3⟩:=h;by_cases e:m=nm
  .subst e;exact⟨by omega,rd _ h2,fun hk=>by omega⟩
  .refine⟨by rw[hT m e];exact h1,rd m h2,fun hk=>?_⟩;rw[hT m e]at hk;exact tip m cap e (h3 hk)
 |view m=>exact rd m h
 |rv=>exact h.elim
 |arg=>exact h.elim
theorem aCV{nm:Nat}(h:GOk Ω G w):GOk Ω (G.retire nm) w:=by
 have hn:=fun(h:GOk Ω G w)=>h.next (G':=G.retire nm) (w':=w) (fun b h1 h2=>⟨h2,rfl,by rw[cJ (by rcases h1 with h1|⟨n,h1⟩<;>rw[h1]<;>simp)];exact h1⟩) rfl
 refine⟨fun b hb=>h.lt b fun ho=>hb ?_,fun b m hb=>h.famU b m (dR (by simp) hb).1,fun b m hb=>h.famC b m (dR (by simp) hb).1,fun b s c hb=>h.rgU b s c (dR (by simp) hb).1,(hn h).1,(hn h).2⟩;rw[cJ (by rw[ho];simp)];exact ho
theorem SR.retire(h:SR Ω D M G σ tm w){nm:Nat}{T':Nat->Nat}{lk':Nat->Bool}(hT:∀m,m≠nm->T' m=σ.tips m)(hT2:σ.tips nm<T' nm)(hlk:∀m,m≠nm->σ.lk m=true->lk' m=true)(hsh:∀m,m<64->lk' m=true) :
  SR Ω D M (G.retire nm) {σ with tips:=T',lk:=lk'} tm w/\Fr G w (G.retire nm) w:=by
 have hg:Goes G (G.retire nm) (At G σ.tips σ.lk w) (At (G.retire nm) T' lk' w) w w (get σ.env) (get σ.env):=
  ⟨⟨fun l a len z n cap hh=>⟨At.retire hT hT2 hlk hh,fun _ _=>rfl⟩,fun _ _ hb=>hb⟩,fun b s c hb=>⟨by rw[cJ (by rw[hb];simp)];exact hb,rfl,Nat.le_refl _⟩,fun s c v cs he=>.inl ⟨cs,he,fun _=>rfl⟩⟩
 refine⟨⟨fun s=>?_,?_,aCV h.ok,hsh,fun b s c hb=>h.clkD b s c (dR (by simp) hb).1,fun d hm hD b hb=>h.newD d hm hD b (dR (by simp) hb).1⟩,?_⟩
 .refine fN.goes h.ok hg (h.slots s) fun k n cs hv=>?_
  have hs:=h.slots s;rw[hv]at hs;exact aAX.goes hg hs rfl rfl
 .refine⟨h.boxes.1,fun i cs hi=>?_⟩;obtain⟨hn,b,h1,h2,xs,e,h3,h4⟩:=h.boxes.2 i cs hi;exact⟨hn,b,h1,by rw[cJ (by rw[h2];simp)];exact h2,xs,e,h3,h4.keep hg.keeps⟩
 .refine⟨rfl,rfl,rfl,Nat.le_refl _,fun b hb hz=>⟨rfl,cJ (by rcases hz with hz|⟨_,hz⟩<;>rw[hz]<;>simp)⟩,fun b m hm hz=>⟨fun _ _ _=>rfl,?_⟩,fun _ _ hb=>hb⟩;by_cases e:m=nm
  .subst e;exact .inr ⟨_,nZ hz,Nat.le_refl _⟩
  .exact .inl ⟨by rw[cJ (by rw[hz];simpa using e)];exact hz,Nat.le_refl _⟩
theorem SR.mono{D':Nat->Prop}(h:SR Ω D M G σ tm w)(hD:∀s,D s->D' s):SR Ω D' M G σ tm w:=
 ⟨h.slots,h.boxes,h.ok,h.shared,fun b s c hb=>(h.clkD b s c hb).imp id fun⟨h1,h2⟩=>⟨h1,hD _ h2⟩,fun d hm hd=>h.newD d hm fun hh=>hd (hD _ hh)⟩
theorem At.leak{T:Nat->Nat}{lk lk':Nat->Bool}(hlk:∀m,lk m=true->lk' m=true){l:Lab}{a:Addr}{len z n cap:Nat}(h:At G T lk w l a len z n cap):At G T lk' w l a len z n cap:=by
 cases l with
 |none=>exact h.imp id (Or.imp id fun⟨m,h1,h2⟩=>⟨m,hlk m h1,h2⟩)
 |_=>exact h
theorem xX{T:Nat->Nat}{lk lk':Nat->Bool}{e:Nat->V}(hlk:∀m,lk m=true->lk' m=true):Goes G G (At G T lk w) (At G T lk' w) w w e e:=
 ⟨⟨fun _ _ _ _ _ _ hh=>⟨At.leak hlk hh,fun _ _=>rfl⟩,fun _ _ hb=>hb⟩,fun _ _ _ hb=>⟨hb,rfl,Nat.le_refl _⟩,fun _ _ _ cs he=>.inl ⟨cs,he,fun _=>rfl⟩⟩
theorem SR.leak(h:SR Ω D M G σ tm w){lk':Nat->Bool}(hlk:∀m,σ.lk m=true->lk' m=true):SR Ω D M G {σ with lk:=lk'} tm w:=by
 have hg:Goes G G (At G σ.tips σ.lk w) (At G σ.tips lk' w) w w (get σ.env) (get σ.env):=xX hlk;refine⟨fun s=>?_,⟨h.boxes.1,fun i cs hi=>?_⟩,h.ok,fun m hm=>hlk m (h.shared m hm),h.clkD,h.newD⟩
 .refine fN.goes h.ok hg (h.slots s) fun k n cs hv=>?_
  have hs:=h.slots s;rw[hv]at hs;exact aAX.goes hg hs rfl rfl
 .obtain⟨hn,b,h1,h2,xs,e,h3,h4⟩:=h.boxes.2 i cs hi;exact⟨hn,b,h1,h2,xs,e,h3,h4.keep hg.keeps⟩
theorem Rel.bare{T:Nat->Nat}{lk:Nat->Bool}{B:List Nat}{v:V}{c:Value}(h:Rel w (At G T lk w) B v c)(hlk:∀nm∈v.names,lk nm=true)(hk:v.ok1=true) :
  Rel w (At G T lk w) B v.bare c:=by
 have rd:∀{nm:Nat} {a:Addr} {len z n cap:Nat},lk nm=true->Rd G nm a len->At G T lk w .none a len z n cap:=fun hl hr=>.inr (hr.imp id fun hr=>⟨_,hl,hr⟩)
 cases h with
 |sl l z n cs a cap xs h1 h2 h3 h4 h5 h6 h7 h8=>
  refine .sl .none z n cs a cap xs ?_ h2 h3 h4 h5 h6 h7 h8;cases l with
  |none=>exact h1
  |own nm k=>exact rd (hlk nm (by simp[V.names,Lab.names])) h1.2.1
  |pre nm k=>exact rd (hlk nm (by simp[V.names,Lab.names])) h1.2.1
  |view nm=>exact rd (hlk nm (by simp[V.names,Lab.names])) h1
  |rv=>exact h1.elim
  |arg=>exact h1.elim
 |ep l cs off a z n cap xs h1 h2 h3 h4=>
  refine .ep .none cs off a z n cap xs ?_ h2 h3 h4;cases l with
  |none=>exact h1
  |own nm k=>exact rd (hlk nm (by simp[V.names,Lab.names])) h1.2.1
  |pre nm k=>exact rd (hlk nm (by simp[V.names,Lab.names])) h1.2.1
  |view nm=>exact rd (hlk nm (by simp[V.names,Lab.names])) h1
  |rv=>exact h1.elim
  |arg=>exact h1.elim
 |agg=>cases hk
 |tup=>cases hk
 |undef=>exact .undef _
 |bool b=>exact .bool b
 |int k n=>exact .int k n
 |str s=>exact .str s
 |nilp=>exact .nilp
 |nilf=>exact .nilf
 |nili=>exact .nili
 |nils=>exact .nils
 |bp b off blk h=>exact .bp b off blk h
 |fn f a b xs ys h1 h2 h3 h4=>exact .fn f a b xs ys h1 h2 h3 h4
 |iface t v c h1 h2=>exact .iface t v c h1 h2
theorem V.bare_names1{v:V}(hk:v.ok1=true):v.bare.names=[]/\v.bare.ok1=true:=by
 cases v<;>first|(cases hk;done)|exact⟨rfl,rfl⟩|skip
theorem SR.new_fam{w':World}{nm len:Nat}{e:TypeId}{cur:Array Value}(h:SR Ω D M G σ tm w)(hc:Calm w w')(hb:∃fr:Nat×Nat,w'.heap[w.heap.size]?=some (.cells cur e fr)/\Fz fr cur.size)(hlen:len<=cur.size)
  (hno:∀b,G.Z b≠.fam nm) (hM:∀d,M d->¬D d->aQ d 0≠nm) :
  ∃G',SR Ω D M G' σ tm w'/\Fr G w G' w'/\(G'.Z w.heap.size=.fam nm/\G'.famB nm=w.heap.size/\G'.ext nm=len/\G'.bxB=G.bxB)/\Goes G G' (At G σ.tips σ.lk w) (At G' σ.tips σ.lk w') w w' (get σ.env) (get σ.env):=by
 have hout:G.Z w.heap.size=.out:=by
  by_cases ho:G.Z w.heap.size=.out
  .exact ho
  .exact absurd (h.ok.lt _ ho) (Nat.lt_irrefl _)
 let G':Gh:={G with Z:=fun x=>if x=w.heap.size then .fam nm else G.Z x,famB:=upd G.famB nm w.heap.size,ext:=upd G.ext nm len};have hz:∀b,b≠w.heap.size->G'.Z b=G.Z b:=fun b hb=>by simp[G',hb]
 have hz':∀b,G.Z b≠.out->G'.Z b=G.Z b:=fun b hb=>hz b (fun e=>hb (e▸hout))
 have hf:∀b m,G.Z b=.fam m->G'.famB m=G.famB m/\G'.ext m=G.ext m:=fun b m hm=>by
  have:m≠nm:=fun e=>hno b (e▸hm)
  exact⟨aO _ _ this,aO _ _ this⟩
 have hsz:w.heap.size<w'.heap.size:=by
  have:=(Array.getElem?_eq_some_iff.1 hb.choose_spec.1).1;exact this
 have back:∀b (q:Zn),q≠.fam nm->G'.Z b=q->G.Z b=q:=fun b q hq hb=>by
  by_cases e:b=w.heap.size
  .subst e;simp[G']at hb;exact absurd hb.symm hq
  .rw[<-hz b e];exact hb
 have hok:GOk Ω G' w':=by
  refine⟨fun b hb=>?_,fun b m hm=>?_,fun b m hm=>?_,fun b s c hb=>?_,(h.ok.calm (G':=G') hc (fun b hb=>hz b (Nat.ne_of_lt hb)) rfl).1,(h.ok.calm (G':=G') hc (fun b hb=>hz b (Nat.ne_of_lt hb)) rfl).2⟩
  .by_cases e:b=w.heap.size
   .omega
   .have:=h.ok.lt b (by rw[<-hz b e];exact hb);have:=hc.size;omega
  .by_cases e:b=w.heap.size
   .subst e;simp only[G',if_true]at hm;cases hm;exact(bT _ _ _).symm
   .have h1:G.Z b=.fam m:=by rw[<-hz b e];exact hm
    rw[(hf b m h1).1];exact h.ok.famU b m h1
  .by_cases e:b=w.heap.size
   .subst e;simp only[G',if_true]at hm;cases hm;exact⟨cur,_,hb,by simp only[G'];rw[bT];exact hlen⟩
   .have h1:G.Z b=.fam m:=by rw[<-hz b e];exact hm
    obtain⟨cur',e',h2,h3⟩:=h.ok.famC b m h1;exact⟨cur',e',by rw[hc.block b (h.ok.lt b (by rw[h1];simp))];exact h2,by rw[(hf b m h1).2];exact h3⟩
  .exact h.ok.rgU b s c (back b _ (by simp) hb)
 refine⟨G',h.grow hc hz' hf (fun _ _ _ _=>⟨rfl,rfl⟩) rfl hok (fun b s c hb=>h.clkD b s c (back b _ (by simp) hb)) (fun d hm hD b hb=>h.newD d hm hD b (back b _ (by simpa using hM d hm hD) hb)),
  nY h.ok hc (fun b hb=>hz b (by omega)) (fun b m hm=>(hf b m hm).2) (fun _ _ hb=>hb),⟨by simp[G'],bT _ _ _,bT _ _ _,rfl⟩,mN h.ok hc hz' hf (fun _ _ _ _=>⟨rfl,rfl⟩) (fun _ _ hb=>hb)⟩
end
end Go.VM
namespace Go.VM
open Go.RowKit
variable{Ω:World->Prop}
section
variable{D M:Nat->Prop}{G:Gh}{σ:St}{tm:Array Value}{w:World}
theorem aDk{w w':World}{x:Addr}{cur news:Array Value}{e e':TypeId}{fr fr':Nat×Nat}(h:w.heap[x.block]?=some (.cells cur e fr))(h':w'.heap[x.block]?=some (.cells news e' fr'))(hs:news[x.off]?=cur[x.off]?):w'.cell? x=w.cell? x:=by
 unfold World.cell?;rw[h,h'];simp only[hs]
theorem SR.extend{nm n:Nat}{e:TypeId}{cur news:Array Value}(h:SR Ω D M G σ tm w)(hz:G.Z (G.famB nm)=.fam nm)(hcur:∃fr:Nat×Nat,w.heap[G.famB nm]?=some (.cells cur e fr)/\Fz fr cur.size)
  (hnews:news.size=cur.size) (hsame:∀j,j<G.ext nm->news[j]?=cur[j]?) (hlen:G.ext nm<=n) (hn:n<=cur.size) {T':Nat->Nat} (hT:∀m,m≠nm->T' m=σ.tips m) (hT2:σ.tips nm<T' nm) :
  SR Ω D M {G with ext:=upd G.ext nm n} {σ with tips:=T'} tm (w.setRow (G.famB nm) news)/\Fr G w {G with ext:=upd G.ext nm n} (w.setRow (G.famB nm) news)/\
   Goes G {G with ext:=upd G.ext nm n} (At G σ.tips σ.lk w) (At {G with ext:=upd G.ext nm n} T' σ.lk (w.setRow (G.famB nm) news)) w (w.setRow (G.famB nm) news) (get σ.env) (get σ.env):=by
 obtain⟨fr,hcur,hfz⟩:=hcur;have hnew:=setRow_heap w (G.famB nm) cur news e fr hcur;have ne:∀{b:Nat} {q:Zn},G.Z b=q->q≠.fam nm->b≠G.famB nm:=fun h1 h2 e=>h2 (by rw[<-h1,e];exact hz)
 have blk:∀{b:Nat},b≠G.famB nm->(w.setRow (G.famB nm) news).heap[b]?=w.heap[b]?:=fun hb=>setRow_other w _ _ _ hb
 have below:∀(x:Addr),x.block=G.famB nm->x.off<G.ext nm->(w.setRow (G.famB nm) news).cell? x=w.cell? x:=fun x hx ho=>
  aDk (by rw[hx];exact hcur) (by rw[hx];exact hnew) (hsame _ ho)
 have extm:∀m,G.ext m<=upd G.ext nm n m:=fun m=>by
  by_cases e:m=nm
  .subst e;rw[bT];exact hlen
  .rw[aO _ _ e];exact Nat.le_refl _
 have rdc:∀{m:Nat} {a:Addr} {len:Nat},Rd G m a len->Rd {G with ext:=upd G.ext nm n} m a len/\∀j,j<len->(w.setRow (G.famB nm) news).cell? (a.add j)=w.cell? (a.add j):=fun{m a len} hr=>by
  rcases hr with hr|⟨hr,hr2⟩
  .obtain⟨k,hk,hk2⟩:=hr;exact⟨.inl ⟨k,hk,hk2⟩,fun j _=>cell_setRow_other _ _ _ _ (by rw[bM];exact ne hk (by simp))⟩
  .refine⟨.inr ⟨hr,Nat.le_trans hr2 (extm m)⟩,fun j hj=>?_⟩;by_cases e:m=nm
   .subst e;exact below _ (by rw[bM];exact h.ok.famU _ _ hr) (by rw[qL];omega)
   .exact cell_setRow_other _ _ _ _ (by rw[bM];exact ne hr (by simpa using e))
 have tip:∀{m:Nat} {a:Addr} {z k:Nat},m≠nm->Tip G w m a z k->Tip {G with ext:=upd G.ext nm n} (w.setRow (G.famB nm) news) m a z k:=fun{m a z k} e ⟨h1,h2,cur',e',h3,h4⟩=>
  ⟨h1,h2,cur',e',by rw[blk (ne (q:=.fam m) (by rw[h2]at h1;exact h1) (by simpa using e))];exact h3,h4⟩
 have hat:∀l a len z k cap,At G σ.tips σ.lk w l a len z k cap->At {G with ext:=upd G.ext nm n} T' σ.lk (w.setRow (G.famB nm) news) l a len z k cap/\∀j,j<len->(w.setRow (G.famB nm) news).cell? (a.add j)=w.cell? (a.add j):=by
  intro l a len z k cap hh;cases l with
  |none=>
   rcases hh with h0|hh|⟨m,h1,h2,h3⟩
   .exact⟨.inl h0,fun j hj=>by omega⟩
   .have:=rdc (m:=0) (len:=len) (.inl hh);exact⟨.inr (.inl hh),this.2⟩
   .have:=rdc (.inr ⟨h2,h3⟩);exact⟨.inr (.inr ⟨m,h1,h2,Nat.le_trans h3 (extm m)⟩),this.2⟩
  |own m k'=>
   obtain⟨h1,h2,h3⟩:=hh;obtain⟨r1,r2⟩:=rdc h2;refine⟨?_,r2⟩;by_cases e:m=nm
   .subst e;exact⟨by omega,r1,fun hk=>by omega⟩
   .refine⟨by rw[hT m e];exact h1,r1,fun hk=>?_⟩;rw[hT m e]at hk;obtain⟨h4,h5,h6⟩:=h3 hk;exact⟨tip e h4,by rw[show({G with ext:=upd G.ext nm n}:Gh).ext m=G.ext m from aO _ _ e];exact h5,h6⟩
  |pre m k'=>
   obtain⟨h1,h2,h3⟩:=hh;obtain⟨r1,r2⟩:=rdc h2;refine⟨?_,r2⟩;by_cases e:m=nm
   .subst e;exact⟨by omega,r1,fun hk=>by omega⟩
   .refine⟨by rw[hT m e];exact h1,r1,fun hk=>?_⟩;rw[hT m e]at hk;exact tip e (h3 hk)
  |view m=>exact⟨(rdc hh).1,(rdc hh).2⟩
  |rv=>exact hh.elim
  |arg=>exact hh.elim
 have hg:Goes G {G with ext:=upd G.ext nm n} (At G σ.tips σ.lk w) (At {G with ext:=upd G.ext nm n} T' σ.lk (w.setRow (G.famB nm) news)) w (w.setRow (G.famB nm) news) (get σ.env) (get σ.env):=by
  refine⟨⟨hat,fun _ _ hb=>hb⟩,fun b s c hb=>⟨hb,rfl,Nat.le_refl _⟩,fun s c v cs he=>?_⟩;by_cases hex:∃b,G.Z b=.rg s c
  .obtain⟨b,hbz⟩:=hex;have hbb:=h.ok.rgU b s c hbz;exact .inl ⟨cs,he,fun j=>cell_setRow_other _ _ _ _ (by show G.rgB s c≠_;rw[<-hbb];exact ne hbz (by simp))⟩
  .exact .inr (.inl fun b hbz=>hex ⟨b,hbz⟩)
 have hnx:=h.ok.next (G':={G with ext:=upd G.ext nm n}) (w':=w.setRow (G.famB nm) news) (fun b h1 h2=>⟨by rw[setRow_size];exact h2,blk (by rcases h1 with h1|⟨_,h1⟩<;>exact ne h1 (by simp)),h1⟩) rfl;refine⟨⟨fun s=>?_,⟨h.boxes.1,fun i cs hi=>?_⟩,⟨fun b hb=>?_,fun b m hm=>h.ok.famU b m hm,fun b m hm=>?_,fun b s c hb=>h.ok.rgU b s c hb,hnx.1,hnx.2⟩,h.shared,h.clkD,h.newD⟩,?_,hg⟩
 .refine fN.goes h.ok hg (h.slots s) fun k m cs hv=>?_
  have hs:=h.slots s;rw[hv]at hs;obtain⟨h1,h2,h3,h4⟩:=hs;exact aAX.goes hg ⟨h1,h2,h3,h4⟩ (blk (ne h3 (by simp))) rfl
 .obtain⟨hn,b,h1,h2,xs,e,h3,h4⟩:=h.boxes.2 i cs hi;exact⟨hn,b,h1,h2,xs,e,by rw[blk (ne h2 (by simp))];exact h3,h4.keep hg.keeps⟩
 .rw[setRow_size];exact h.ok.lt b hb
 .by_cases e:m=nm
  .subst e;have:b=G.famB m:=h.ok.famU b m hm;subst this;exact⟨news,_,⟨fr,hnew,by rw[hnews];exact hfz⟩,by rw[show({G with ext:=upd G.ext m n}:Gh).ext m=n from bT _ _ _];omega⟩
  .obtain⟨cur',e',h2,h3⟩:=h.ok.famC b m hm;exact⟨cur',e',by rw[blk (ne hm (by simpa using e))];exact h2,by rw[show({G with ext:=upd G.ext nm n}:Gh).ext m=G.ext m from aO _ _ e];exact h3⟩
 .refine⟨rfl,rfl,rfl,by rw[setRow_size];exact Nat.le_refl _,fun b hb hzz=>⟨blk (by rcases hzz with hzz|⟨_,hzz⟩<;>exact ne hzz (by simp)),rfl⟩,fun b m hm hzz=>⟨fun x hx hj=>?_,.inl ⟨hzz,extm m⟩⟩,fun _ _ hb=>hb⟩;by_cases e:m=nm
  .subst e;exact below _ (hx.trans (h.ok.famU _ _ hzz)) hj
  .exact cell_setRow_other _ _ _ _ (by rw[hx];exact ne hzz (by simpa using e))
structure Only(g:Nat)(w w':World):Prop where
 os:w'.os=w.os
 tape:w'.tape=w.tape
 output:w'.output=w.output
 size:w'.heap.size=w.heap.size
 block:∀b,b≠g->w'.heap[b]?=w.heap[b]?
theorem Only.setRow(w:World)(g:Nat)(cs:Array Value):Only g w (w.setRow g cs):=⟨rfl,rfl,rfl,setRow_size _ _ _,fun _ hb=>setRow_other w _ _ _ hb⟩
theorem Only.same(w:World)(g:Nat):Only g w w:=⟨rfl,rfl,rfl,rfl,fun _ _=>rfl⟩
theorem Only.cell{g:Nat}{w w':World}(h:Only g w w'){a:Addr}(hb:a.block≠g):w'.cell? a=w.cell? a:=World.cell?_of_block (h.block _ hb)
theorem At.only{g:Nat}{w':World}{T:Nat->Nat}{lk:Nat->Bool}(ho:Only g w w')(hs:∀n,G.Z g≠.st n)(hf:∀m,G.Z g≠.fam m){G':Gh}(hG:G'.Z=G.Z/\G'.famB=G.famB/\G'.ext=G.ext){l:Lab}{a:Addr}{len z n cap:Nat}(h:At G T lk w l a len z n cap) :
  At G' T lk w' l a len z n cap/\∀j,j<len->w'.cell? (a.add j)=w.cell? (a.add j):=by
 obtain⟨g1,g2,g3⟩:=hG;have tip:∀{m z k},Tip G w m a z k->Tip G' w' m a z k:=fun{m z k} ⟨h1,h2,cur,e,h3,h4⟩=>
  ⟨by rw[g1];exact h1,by rw[g2];exact h2,cur,e,by rw[g2,ho.block _ (fun e=>hf m (by rw[h2,e]at h1;exact h1))];exact h3,h4⟩
 have rd:∀{m},Rd G m a len->Rd G' m a len:=fun{m} hr=>by
  unfold Rd qJ;rw[g1,g3];exact hr
 have blk:(∃n,G.Z a.block=.st n)\/(∃m,G.Z a.block=.fam m)->∀j,j<len->w'.cell? (a.add j)=w.cell? (a.add j):=fun hb j _=>ho.cell (by
  rw[bM];intro e;rcases hb with⟨n,hb⟩|⟨m,hb⟩
  .exact hs n (e▸hb)
  .exact hf m (e▸hb))
 cases l with
 |none=>
  rcases h with h0|h|⟨m,h1,h2,h3⟩
  .exact⟨.inl h0,fun j hj=>by omega⟩
  .exact⟨.inr (.inl (h.over fun _ h=>by rw[g1];exact h)),blk (.inl (let ⟨n,h,_⟩:=h;⟨n,h⟩))⟩
  .exact⟨.inr (.inr ⟨m,h1,by rw[g1];exact h2,by rw[g3];exact h3⟩),blk (.inr ⟨m,h2⟩)⟩
 |own m k=>
  obtain⟨h1,h2,h3⟩:=h;exact⟨⟨h1,rd h2,fun hk=>⟨tip (h3 hk).1,by rw[g3];exact(h3 hk).2.1,(h3 hk).2.2⟩⟩,blk (h2.imp (fun⟨n,h,_⟩=>⟨n,h⟩) fun h=>⟨m,h.1⟩)⟩
 |pre m k=>
  obtain⟨h1,h2,h3⟩:=h;exact⟨⟨h1,rd h2,fun hk=>tip (h3 hk)⟩,blk (h2.imp (fun⟨n,h,_⟩=>⟨n,h⟩) fun h=>⟨m,h.1⟩)⟩
 |view m=>exact⟨rd h,blk (h.imp (fun⟨n,h,_⟩=>⟨n,h⟩) fun h=>⟨m,h.1⟩)⟩
 |rv=>exact h.elim
 |arg=>exact h.elim
theorem SR.store_r{s c n:Nat}{cs cs':List V}{cur news:Array Value}{e:TypeId}(h:SR Ω D M G σ tm w)(hs:get σ.env s=.reg c n cs)(hcur:w.heap[G.rgB s c]?=some (.cells cur e (0,0)))(hl:RelL w (At G σ.tips σ.lk w) G.bxB cs' news.toList) :
  ∃G',SR Ω D M G' {σ with env:=set σ.env s (.reg c (n+1) cs')} tm (w.setRow (G.rgB s c) news)/\Fr G w G' (w.setRow (G.rgB s c) news):=by
 have hsl:=h.slots s;rw[hs]at hsl;obtain⟨q1,q2,q3,_⟩:=hsl;have ho:=Only.setRow w (G.rgB s c) news;have hnew:=setRow_heap w (G.rgB s c) cur news e (0,0) hcur;let G':Gh:={G with ver:=fun s' c'=>if s'=s/\c'=c then n+1 else G.ver s' c'};have ne:∀{b:Nat} {q:Zn},G.Z b=q->q≠.rg s c->b≠G.rgB s c:=fun h1 h2 e=>h2 (by rw[<-h1,e];exact q3)
 have hg:Goes G G' (At G σ.tips σ.lk w) (At G' σ.tips σ.lk (w.setRow (G.rgB s c) news)) w (w.setRow (G.rgB s c) news) (get σ.env) (get (set σ.env s (.reg c (n+1) cs'))):=by
  refine⟨⟨fun l a len z k cap hh=>At.only ho (by rw[q3];simp) (by rw[q3];simp) ⟨rfl,rfl,rfl⟩ hh,fun _ _ hb=>hb⟩,fun b s' c' hb=>⟨hb,rfl,?_⟩,fun s' c' v cs'' he=>?_⟩
  .simp only[G'];split
   .rename_i hc;rw[hc.1,hc.2,<-q1];omega
   .exact Nat.le_refl _
  .rw[iU]at he;split at he
   .rename_i hss;cases he;subst hss;exact .inr (.inr (by rw[<-q1];omega))
   .rename_i hss;by_cases hex:∃b,G.Z b=.rg s' c'
    .obtain⟨b,hbz⟩:=hex;have hbb:=h.ok.rgU b s' c' hbz;exact .inl ⟨cs'',he,fun j=>ho.cell (by show G.rgB s' c'≠_;rw[<-hbb];exact ne hbz (by intro e;cases e;exact hss rfl))⟩
    .exact .inr (.inl fun b hbz=>hex ⟨b,hbz⟩)
 have hnx:=h.ok.next (G':=G') (w':=w.setRow (G.rgB s c) news) (fun b h1 h2=>⟨by rw[ho.size];exact h2,ho.block _ (by rcases h1 with h1|⟨_,h1⟩<;>exact ne h1 (by simp)),h1⟩) rfl;refine⟨G',⟨fun s'=>?_,⟨h.boxes.1,fun i cs hi=>?_⟩,⟨fun b hb=>?_,fun b m hm=>h.ok.famU b m hm,fun b m hm=>?_,fun b s c hb=>h.ok.rgU b s c hb,hnx.1,hnx.2⟩,h.shared,h.clkD,h.newD⟩,?_⟩
 .show fN G' _ _ (get (set σ.env s (.reg c (n+1) cs'))) s' (get (set σ.env s (.reg c (n+1) cs')) s') _;rw[show get (set σ.env s (.reg c (n+1) cs')) s'=if s'=s then .reg c (n+1) cs' else get σ.env s' from iU _ _ _ _];split
  .rename_i hss;subst hss;exact⟨by simp[G'],q2,q3,news,e,hnew,hl.keep hg.keeps⟩
  .rename_i hss;refine fN.goes h.ok hg (h.slots s') fun k m cs'' hv=>?_
   have hs':=h.slots s';rw[hv]at hs';obtain⟨h1,h2,h3,h4⟩:=hs';exact aAX.goes hg ⟨h1,h2,h3,h4⟩ (ho.block _ (ne h3 (by intro e;cases e;exact hss rfl))) (by simp[G',hss])
 .obtain⟨hn,b,h1,h2,xs,e,h3,h4⟩:=h.boxes.2 i cs hi;exact⟨hn,b,h1,h2,xs,e,by rw[ho.block _ (ne h2 (by simp))];exact h3,h4.keep hg.keeps⟩
 .rw[ho.size];exact h.ok.lt b hb
 .obtain⟨cur',e',h2,h3⟩:=h.ok.famC b m hm;exact⟨cur',e',by rw[ho.block _ (ne hm (by simp))];exact h2,h3⟩
 .exact⟨rfl,rfl,rfl,by rw[ho.size];exact Nat.le_refl _,fun b hb hzz=>⟨ho.block _ (by rcases hzz with hzz|⟨_,hzz⟩<;>exact ne hzz (by simp)),rfl⟩,fun b m hm hzz=>⟨fun x hx hj=>ho.cell (by rw[hx];exact ne hzz (by simp)),.inl ⟨hzz,Nat.le_refl _⟩⟩,fun _ _ hb=>hb⟩
theorem SR.store_b{i b:Nat}{cs cs':List V}{cur news:Array Value}{e:TypeId}(h:SR Ω D M G σ tm w)(hi:σ.bx[i]?=some cs)(hb:G.bxB[i]?=some b)(hcur:w.heap[b]?=some (.cells cur e (0,0)))(hl:RelL w (At G σ.tips σ.lk w) G.bxB cs' news.toList)(hn:aC cs'=[]) :
  SR Ω D M G {σ with bx:=σ.bx.set i cs'} tm (w.setRow b news)/\Fr G w G (w.setRow b news):=by
 obtain⟨_,b',q1,q3,_⟩:=h.boxes.2 i cs hi;obtain rfl:b=b':=by rw[hb]at q1;cases q1;rfl
 have ho:=Only.setRow w b news;have hnew:=setRow_heap w b cur news e (0,0) hcur;have ne:∀{x:Nat} {q:Zn},G.Z x=q->q≠.bx i->x≠b:=fun h1 h2 e=>h2 (by rw[<-h1,e];exact q3)
 have hg:Goes G G (At G σ.tips σ.lk w) (At G σ.tips σ.lk (w.setRow b news)) w (w.setRow b news) (get σ.env) (get σ.env):=by
  refine⟨⟨fun l a len z k cap hh=>At.only ho (by rw[q3];simp) (by rw[q3];simp) ⟨rfl,rfl,rfl⟩ hh,fun _ _ hb=>hb⟩,fun b s' c' hb=>⟨hb,rfl,Nat.le_refl _⟩,fun s' c' v cs'' he=>?_⟩;by_cases hex:∃b,G.Z b=.rg s' c'
  .obtain⟨x,hbz⟩:=hex;have hbb:=h.ok.rgU x s' c' hbz;exact .inl ⟨cs'',he,fun j=>ho.cell (by show G.rgB s' c'≠_;rw[<-hbb];exact ne hbz (by simp))⟩
  .exact .inr (.inl fun b hbz=>hex ⟨b,hbz⟩)
 have hnx:=h.ok.next (G':=G) (w':=w.setRow b news) (fun b h1 h2=>⟨by rw[ho.size];exact h2,ho.block _ (by rcases h1 with h1|⟨_,h1⟩<;>exact ne h1 (by simp)),h1⟩) rfl;refine⟨⟨fun s'=>?_,⟨?_,fun j cs2 hj=>?_⟩,⟨fun b hb=>?_,fun b m hm=>h.ok.famU b m hm,fun b m hm=>?_,fun b s c hb=>h.ok.rgU b s c hb,hnx.1,hnx.2⟩,h.shared,h.clkD,h.newD⟩,?_⟩
 .refine fN.goes h.ok hg (h.slots s') fun k m cs'' hv=>?_
  have hs':=h.slots s';rw[hv]at hs';obtain⟨h1,h2,h3,h4⟩:=hs';exact aAX.goes hg ⟨h1,h2,h3,h4⟩ (ho.block _ (ne h3 (by simp))) rfl
 .show(σ.bx.set i cs').length=_;rw[List.length_set];exact h.boxes.1
 .change (σ.bx.set i cs')[j]?=some cs2 at hj
  by_cases e1:j=i
  .subst e1;rw[List.getElem?_set_self (List.getElem?_eq_some_iff.1 hi).1]at hj;cases hj;exact⟨hn,b,hb,q3,news,e,hnew,hl.keep hg.keeps⟩
  .rw[List.getElem?_set_ne (Ne.symm e1)]at hj;obtain⟨hn,x,h1,h2,xs,e,h3,h4⟩:=h.boxes.2 j cs2 hj;exact⟨hn,x,h1,h2,xs,e,by rw[ho.block _ (ne h2 (by simpa using e1))];exact h3,h4.keep hg.keeps⟩
 .rw[ho.size];exact h.ok.lt b hb
 .obtain⟨cur',e',h2,h3⟩:=h.ok.famC b m hm;exact⟨cur',e',by rw[ho.block _ (ne hm (by simp))];exact h2,h3⟩
 .exact⟨rfl,rfl,rfl,by rw[ho.size];exact Nat.le_refl _,fun b hb hzz=>⟨ho.block _ (by rcases hzz with hzz|⟨_,hzz⟩<;>exact ne hzz (by simp)),rfl⟩,fun b m hm hzz=>⟨fun x hx hj=>ho.cell (by rw[hx];exact ne hzz (by simp)),.inl ⟨hzz,Nat.le_refl _⟩⟩,fun _ _ hb=>hb⟩
end
end Go.VM
namespace Go.VM
open Go.RowKit
variable{Ω:World->Prop}
def qQ(nm:Nat)(w w':World)(A A':Pl)(B B':List Nat):Prop:=
 (∀l a len z n cap,nm∉l.names->A l a len z n cap->A' l a len z n cap/\∀j,j<len->w'.cell? (a.add j)=w.cell? (a.add j))/\∀(i blk:Nat),B[i]?=some blk->B'[i]?=some blk
mutual
theorem Rel.keepN{nm:Nat}{w w':World}{A A':Pl}{B B':List Nat}(hk:qQ nm w w' A A' B B'){v:V}{c:Value}(h:Rel w A B v c)(hn:nm∉v.names):Rel w' A' B' v c:=by
 cases h with
 |undef=>exact .undef _
 |bool=>exact .bool _
 |int=>exact .int _ _
 |str=>exact .str _
 |nilp=>exact .nilp
 |nilf=>exact .nilf
 |nili=>exact .nili
 |nils=>exact .nils
 |sl l z n cs a cap xs h1 h2 h3 h4 h5 h6 h7 h8=>
  have hl:nm∉l.names:=by simpa[V.names]using hn
  exact .sl l z n cs a cap xs (hk.1 _ _ _ _ _ _ hl h1).1 h2 h3 h4 h5 (h6.keep (hk.1 _ _ _ _ _ _ hl h1).2) (RelL.keepN hk h7 (by simp[h8])) h8
 |ep l cs off a z n cap xs h1 h2 h3 h4=>
  have hl:nm∉l.names:=by simpa[V.names]using hn
  exact .ep l cs off a z n cap xs (hk.1 _ _ _ _ _ _ hl h1).1 (h2.keep (hk.1 _ _ _ _ _ _ hl h1).2) (RelL.keepN hk h3 (by simp[h4])) h4
 |bp b off blk h1=>exact .bp b off blk (hk.2 _ _ h1)
 |agg cs xs h1=>exact .agg cs xs (RelL.keepN hk h1 (by simpa[V.names]using hn))
 |tup cs xs h1=>exact .tup cs xs (RelL.keepN hk h1 (by simpa[V.names]using hn))
 |fn f a b xs ys h1 h2 h3 h4=>exact .fn f a b xs ys (RelL.keepN hk h1 (by simp[h3])) (RelL.keepN hk h2 (by simp[h4])) h3 h4
 |iface t v c h1 h2=>exact .iface t v c (Rel.keepN hk h1 (by simp[h2])) h2
theorem RelL.keepN{nm:Nat}{w w':World}{A A':Pl}{B B':List Nat}(hk:qQ nm w w' A A' B B'){vs:List V}{cs:List Value}(h:RelL w A B vs cs)(hn:nm∉aC vs):RelL w' A' B' vs cs:=by
 cases h with
 |nil=>exact .nil
 |cons v c vs cs h1 h2=>
  simp only[aC,List.mem_append,not_or]at hn;exact .cons v c vs cs (Rel.keepN hk h1 hn.1) (RelL.keepN hk h2 hn.2)
end
theorem RelL.map'{w w':World}{A A':Pl}{B B':List Nat}{f:V->V}{vs:List V}{cs:List Value}(h:RelL w A B vs cs)(hf:∀v c,Rel w A B v c->Rel w' A' B' (f v) c):RelL w' A' B' (vs.map f) cs:=by
 induction vs generalizing cs with
 |nil=>cases h;exact .nil
 |cons v vs ih=>cases h with|cons _ c _ cs h1 h2=>exact .cons _ _ _ _ (hf _ _ h1) (ih h2)
def aFi(nm k:Nat)(cs':List V)(w':World)(A A':Pl)(B':List Nat):Prop:=
 aC cs'=[]/\∀a len z n cap,A (.own nm k) a len z n cap->A' (.own nm k) a len z n cap/\∃xs',xs'.length=len/\Row w' a xs'/\RelL w' A' B' cs' xs'
theorem Rel.hit{nm k:Nat}{cs':List V}{w w':World}{A A':Pl}{B B':List Nat}(hk:qQ nm w w' A A' B B')(ho:aFi nm k cs' w' A A' B'){v:V}{c:Value}(h:Rel w A B v c):Rel w' A' B' (VM.hit nm k cs' v) c:=by
 have other:∀u:V,Rel w A B u c->Rel w' A' B' (if nm∈u.names then .undef else u) c:=fun u hu=>by
  split
  .exact .undef _
  .rename_i hn;exact hu.keepN hk hn
 cases h with
 |sl l z n cs a cap xs h1 h2 h3 h4 h5 h6 h7 h8=>
  simp only[VM.hit];split
  .split
   .rename_i hl;subst hl;obtain⟨k1,xs',k2,k3,k4⟩:=ho.2 _ _ _ _ _ h1;exact .sl _ z n cs' a cap xs' (by rw[k2];exact k1) h2 (by rw[k2];exact h3) h4 h5 k3 k4 ho.1
   .exact .undef _
  .rename_i hn;exact(Rel.sl l z n cs a cap xs h1 h2 h3 h4 h5 h6 h7 h8).keepN hk (by simpa[V.names]using hn)
 |ep l cs off a z n cap xs h1 h2 h3 h4=>
  simp only[VM.hit];split
  .split
   .rename_i hl;subst hl;obtain⟨k1,xs',k2,k3,k4⟩:=ho.2 _ _ _ _ _ h1;exact .ep _ cs' off a z n cap xs' (by rw[k2];exact k1) k3 k4 ho.1
   .exact .undef _
  .rename_i hn;exact(Rel.ep l cs off a z n cap xs h1 h2 h3 h4).keepN hk (by simpa[V.names]using hn)
 |undef=>exact other .undef (.undef c)
 |bool b=>exact other _ (.bool b)
 |int k n=>exact other _ (.int k n)
 |str s=>exact other _ (.str s)
 |nilp=>exact other _ .nilp
 |nilf=>exact other _ .nilf
 |nili=>exact other _ .nili
 |nils=>exact other _ .nils
 |bp b off blk h=>exact other _ (.bp b off blk h)
 |agg cs xs h=>exact other _ (.agg cs xs h)
 |tup cs xs h=>exact other _ (.tup cs xs h)
 |fn f a b xs ys h1 h2 h3 h4=>exact other _ (.fn f a b xs ys h1 h2 h3 h4)
 |iface t v c h1 h2=>exact other _ (.iface t v c h1 h2)
theorem fX(nm k:Nat)(cs':List V)(e:Env)(s:Nat):get (bY nm k cs' e) s=iO nm k cs' (get e s):=by
 induction e with
 |nil=>rfl
 |cons x r ih=>
  obtain⟨a,u⟩:=x;simp only[bY,List.map_cons,get]at ih ⊢;split
  .rfl
  .exact ih
theorem aBg{nm k:Nat}{cs':List V}{v:V}{c n:Nat}{cs:List V}(h:iO nm k cs' v=.reg c n cs):∃cs0,v=.reg c n cs0/\cs=cs0.map (VM.hit nm k cs'):=by
 cases v with
 |reg c' n' cs0=>simp only[iO]at h;cases h;exact⟨cs0,rfl,rfl⟩
 |agg=>simp only[iO]at h;cases h
 |tup vs=>simp only[iO]at h;split at h<;>cases h
 |sl l z n cs=>simp only[iO,VM.hit]at h;split at h<;>first|(split at h<;>cases h;done)|cases h
 |ep l cs off=>simp only[iO,VM.hit]at h;split at h<;>first|(split at h<;>cases h;done)|cases h
 |_=>simp[iO,VM.hit,V.names]at h
structure GoesN(nm:Nat)(G G':Gh)(A A':Pl)(w w':World)(e e':Nat->V):Prop where
 keeps:qQ nm w w' A A' G.bxB G'.bxB
 rgs:∀b s c,G.Z b=.rg s c->G'.Z b=.rg s c/\G'.rgB s c=G.rgB s c/\G'.ver s c=G.ver s c
 cell:∀b s c,G.Z b=.rg s c->w'.heap[b]?=w.heap[b]?
 live:∀s c v cs,e' s=.reg c v cs->∃cs',e s=.reg c v cs'
theorem VR.hit{nm k:Nat}{cs':List V}{G G':Gh}{A A':Pl}{w w':World}{e e':Nat->V}(hg:GoesN nm G G' A A' w w' e e')(ho:aFi nm k cs' w' A A' G'.bxB){v:V}{c:Value}(h:VR G A w e v c):VR G' A' w' e' (iO nm k cs' v) c:=by
 have far:v.far->(iO nm k cs' v).far:=fun hf=>by
  cases v with
  |sl l z n cs=>simp only[iO,VM.hit];split;split;(cases l<;>first|trivial|exact hf.elim);trivial;(cases l<;>first|trivial|exact hf.elim)
  |ep l cs off=>simp only[iO,VM.hit];split;split;(cases l<;>first|trivial|exact hf.elim);trivial;(cases l<;>first|trivial|exact hf.elim)
  |reg=>exact hf.elim
  |rp=>exact hf.elim
  |agg=>trivial
  |tup vs=>simp only[iO];split<;>trivial
  |_=>simp only[iO,VM.hit];split<;>trivial
 have rowk : ∀ (t c v : Nat) (a : Addr) (cs : List V), G.Z a.block = .rg t c → aC cs = [] → (∀ cs', e t = .reg c v cs' → ∃ xs, Row w a xs ∧ RelL w A G.bxB cs xs) →
     ∀cs',e' t=.reg c v cs'->∃xs,Row w' a xs/\RelL w' A' G'.bxB cs xs:=by
  intro t c v a cs hz hn hl cs'' he;obtain⟨cs0,h1⟩:=hg.live t c v cs'' he;obtain⟨xs,h3,h4⟩:=hl cs0 h1;refine⟨xs,fun j u hu=>?_,h4.keepN hg.keeps (by simp[hn])⟩;rw[World.cell?_of_block (show w'.heap[(a.add j).block]?=w.heap[(a.add j).block]? by rw[bM];exact hg.cell _ _ _ hz)];exact h3 j u hu
 by_cases hf:v.far
 .have hr:=VR.rel hf h;refine VR.of_rel (far hf) ?_;cases v with
  |reg=>exact hf.elim
  |agg cs=>
   obtain⟨xs,h1,h2⟩:=Rel.agg_inv hr;rw[h1];exact .agg _ _ (h2.map' fun u d hu=>hu.hit hg.keeps ho)
  |tup cs=>
   simp only[iO];split
   .exact .undef _
   .rename_i hn;exact hr.keepN hg.keeps (by simpa[V.names]using hn)
  |_=>exact hr.hit hg.keeps ho
 .cases v with
  |rp t c off=>
   obtain⟨h1,h2⟩:=h;obtain⟨k1,k2,_⟩:=hg.rgs _ _ _ h2;show VR G' A' w' e' (VM.hit nm k cs' (.rp t c off)) _;rw[show VM.hit nm k cs' (.rp t c off)=.rp t c off from by simp[VM.hit,V.names]];exact⟨by rw[k2];exact h1,by rw[k2];exact k1⟩
  |reg=>exact h.elim
  |sl l z n cs=>
   cases l with
   |rv t c v=>
    obtain⟨a,cap,h1,h2,h3,h4,h5,h6,h7,h9,h8⟩:=h;obtain⟨k1,k2,k3⟩:=hg.rgs _ _ _ h6;rw[show iO nm k cs' (.sl (.rv t c v) z n cs)=.sl (.rv t c v) z n cs from by simp[iO,VM.hit,Lab.names]];exact⟨a,cap,h1,h2,h3,h4,h5,k1,by omega,h9,rowk t c v a cs h6 h9 h8⟩
   |_=>exact absurd trivial hf
  |ep l cs off=>
   cases l with
   |rv t c v=>
    obtain⟨a,h1,h6,h7,h9,h8⟩:=h;obtain⟨k1,k2,k3⟩:=hg.rgs _ _ _ h6;rw[show iO nm k cs' (.ep (.rv t c v) cs off)=.ep (.rv t c v) cs off from by simp[iO,VM.hit,Lab.names]];exact⟨a,h1,k1,by omega,h9,rowk t c v a cs h6 h9 h8⟩
   |_=>exact absurd trivial hf
  |_=>exact absurd trivial hf
section
variable{D M:Nat->Prop}{G:Gh}{σ:St}{tm:Array Value}{w:World}
theorem qR{nm n:Nat}{w':World}{T':Nat->Nat}{lk':Nat->Bool}(_:SR Ω D M G σ tm w)(hlk:σ.lk nm=false)(hlk':∀m,σ.lk m=true->lk' m=true)
  (ho:Only (G.famB nm) w w') (hz:G.Z (G.famB nm)=.fam nm) (hT:∀m,m≠nm->T' m=σ.tips m) :
  qQ nm w w' (At G σ.tips σ.lk w) (At {G with ext:=upd G.ext nm n} T' lk' w') G.bxB G.bxB:=by
 have ne:∀{b:Nat} {q:Zn},G.Z b=q->q≠.fam nm->b≠G.famB nm:=fun h1 h2 e=>h2 (by rw[<-h1,e];exact hz)
 have exto:∀m,m≠nm->upd G.ext nm n m=G.ext m:=fun m hm=>aO _ _ hm
 refine⟨fun l a len z k cap hl hh=>?_,fun _ _ hb=>hb⟩;have cells:(∃n,G.Z a.block=.st n)\/(∃m,m≠nm/\G.Z a.block=.fam m)->∀j,j<len->w'.cell? (a.add j)=w.cell? (a.add j):=fun hb j _=>ho.cell (by
  rw[bM];rcases hb with⟨_,hb⟩|⟨m,hm,hb⟩
  .exact ne hb (by simp)
  .exact ne hb (by simpa using hm))
 have rd:∀{m},m≠nm->Rd G m a len->Rd {G with ext:=upd G.ext nm n} m a len:=fun{m} hm hr=>hr.imp id fun hr=>⟨hr.1,by rw[show({G with ext:=upd G.ext nm n}:Gh).ext m=G.ext m from exto m hm];exact hr.2⟩
 have rc:∀{m},m≠nm->Rd G m a len->(∃n,G.Z a.block=.st n)\/(∃m,m≠nm/\G.Z a.block=.fam m):=fun{m} hm hr=>hr.imp (fun⟨n,h,_⟩=>⟨n,h⟩) fun hr=>⟨m,hm,hr.1⟩
 have tip:∀{m z k},m≠nm->Tip G w m a z k->Tip {G with ext:=upd G.ext nm n} w' m a z k:=fun{m z k} hm ⟨h1,h2,cur',e',h3,h4⟩=>
  ⟨h1,h2,cur',e',by rw[ho.block _ (ne (q:=.fam m) (by rw[h2]at h1;exact h1) (by simpa using hm))];exact h3,h4⟩
 cases l with
 |none=>
  rcases hh with h0|hh|⟨m,h1,h2,h3⟩
  .exact⟨.inl h0,fun j hj=>by omega⟩
  .exact⟨.inr (.inl hh),cells (.inl (let ⟨n,h,_⟩:=hh;⟨n,h⟩))⟩
  .have hm:m≠nm:=fun e=>by rw[e,hlk]at h1;cases h1
   exact⟨.inr (.inr ⟨m,hlk' m h1,h2,by rw[show({G with ext:=upd G.ext nm n}:Gh).ext m=G.ext m from exto m hm];exact h3⟩),cells (.inr ⟨m,hm,h2⟩)⟩
 |own m k'=>
  have hm:m≠nm:=fun e=>hl (by simp[Lab.names,e])
  obtain⟨h1,h2,h3⟩:=hh;refine⟨⟨by rw[hT m hm];exact h1,rd hm h2,fun hk=>?_⟩,cells (rc hm h2)⟩;rw[hT m hm]at hk;obtain⟨h4,h5,h6⟩:=h3 hk;exact⟨tip hm h4,by rw[show({G with ext:=upd G.ext nm n}:Gh).ext m=G.ext m from exto m hm];exact h5,h6⟩
 |pre m k'=>
  have hm:m≠nm:=fun e=>hl (by simp[Lab.names,e])
  obtain⟨h1,h2,h3⟩:=hh;refine⟨⟨by rw[hT m hm];exact h1,rd hm h2,fun hk=>?_⟩,cells (rc hm h2)⟩;rw[hT m hm]at hk;exact tip hm (h3 hk)
 |view m=>
  have hm:m≠nm:=fun e=>hl (by simp[Lab.names,e])
  exact⟨rd hm hh,cells (rc hm hh)⟩
 |rv=>exact hh.elim
 |arg=>exact hh.elim
theorem SR.rewrite{nm k n:Nat}{cs':List V}{e:TypeId}{news:Array Value}{w':World}{T':Nat->Nat}{lk':Nat->Bool}(h:SR Ω D M G σ tm w)(hlk:σ.lk nm=false)(hlk':∀m,σ.lk m=true->lk' m=true)
  (ho:Only (G.famB nm) w w') (hz:G.Z (G.famB nm)=.fam nm) (hnew:∃fr:Nat×Nat,w'.heap[G.famB nm]?=some (.cells news e fr)/\Fz fr news.size) (hn:n<=news.size) (hT:∀m,m≠nm->T' m=σ.tips m)
  (hown:aFi nm k cs' w' (At G σ.tips σ.lk w) (At {G with ext:=upd G.ext nm n} T' lk' w') G.bxB) :
  SR Ω D M {G with ext:=upd G.ext nm n} {σ with env:=bY nm k cs' σ.env,tips:=T',lk:=lk'} tm w'/\Fr G w {G with ext:=upd G.ext nm n} w'/\
   qQ nm w w' (At G σ.tips σ.lk w) (At {G with ext:=upd G.ext nm n} T' lk' w') G.bxB G.bxB:=by
 have h64:¬nm<64:=fun hh=>by rw[h.shared nm hh]at hlk;cases hlk
 have ne:∀{b:Nat} {q:Zn},G.Z b=q->q≠.fam nm->b≠G.famB nm:=fun h1 h2 e=>h2 (by rw[<-h1,e];exact hz)
 have exto:∀m,m≠nm->upd G.ext nm n m=G.ext m:=fun m hm=>aO _ _ hm
 have keeps:qQ nm w w' (At G σ.tips σ.lk w) (At {G with ext:=upd G.ext nm n} T' lk' w') G.bxB G.bxB:=qR h hlk hlk' ho hz hT;have hg:GoesN nm G {G with ext:=upd G.ext nm n} (At G σ.tips σ.lk w) (At {G with ext:=upd G.ext nm n} T' lk' w') w w' (get σ.env) (get (bY nm k cs' σ.env)):=by
  refine⟨keeps,fun b s c hb=>⟨hb,rfl,rfl⟩,fun b s c hb=>ho.block _ (ne hb (by simp)),fun s c v cs he=>?_⟩;rw[fX]at he;obtain⟨cs0,h1,_⟩:=aBg he;exact⟨cs0,h1⟩
 have hnx:=h.ok.next (G':={G with ext:=upd G.ext nm n}) (w':=w') (fun b h1 h2=>⟨by rw[ho.size];exact h2,ho.block _ (by rcases h1 with h1|⟨_,h1⟩<;>exact ne h1 (by simp)),h1⟩) rfl;refine⟨⟨fun s=>?_,⟨h.boxes.1,fun i cs hi=>?_⟩,⟨fun b hb=>?_,fun b m hm=>h.ok.famU b m hm,fun b m hm=>?_,fun b s c hb=>h.ok.rgU b s c hb,hnx.1,hnx.2⟩,fun m hm=>hlk' m (h.shared m hm),h.clkD,h.newD⟩,?_,keeps⟩
 .show fN _ _ _ (get (bY nm k cs' σ.env)) s (get (bY nm k cs' σ.env) s) _;have hs:=h.slots s;rw[show get (bY nm k cs' σ.env) s=iO nm k cs' (get σ.env s)from fX _ _ _ _ _];rcases(get σ.env s).reg_or with⟨c,v,cs,hu⟩|hu
  .rw[hu]at hs ⊢;obtain⟨h1,h2,h3,xs,e',h4,h5⟩:=hs;exact⟨h1,h2,h3,xs,e',by rw[ho.block _ (ne h3 (by simp))];exact h4,h5.map' fun u d hu=>hu.hit keeps hown⟩
  .have h1:=VR.hit hg hown ((fP hu).1 hs);refine(fP fun c v cs hh=>?_).2 h1;obtain⟨cs0,h2,_⟩:=aBg hh;exact hu _ _ _ h2
 .obtain⟨hn,b,h1,h2,xs,e,h3,h4⟩:=h.boxes.2 i cs hi;exact⟨hn,b,h1,h2,xs,e,by rw[ho.block _ (ne h2 (by simp))];exact h3,h4.keepN keeps (by simp[hn])⟩
 .rw[ho.size];exact h.ok.lt b hb
 .by_cases e:m=nm
  .subst e;have:b=G.famB m:=h.ok.famU b m hm;subst this;exact⟨news,_,hnew,by rw[show({G with ext:=upd G.ext m n}:Gh).ext m=n from bT _ _ _];exact hn⟩
  .obtain⟨cur',e',h2,h3⟩:=h.ok.famC b m hm;exact⟨cur',e',by rw[ho.block _ (ne hm (by simpa using e))];exact h2,by rw[show({G with ext:=upd G.ext nm n}:Gh).ext m=G.ext m from aO _ _ e];exact h3⟩
 .refine⟨ho.os,ho.tape,ho.output,by rw[ho.size];exact Nat.le_refl _,fun b hb hzz=>⟨ho.block _ (by rcases hzz with hzz|⟨_,hzz⟩<;>exact ne hzz (by simp)),rfl⟩,fun b m hm hzz=>?_,fun _ _ hb=>hb⟩;have hmn:m≠nm:=fun e=>h64 (e▸hm)
  exact⟨fun x hx hj=>ho.cell (by rw[hx];exact ne hzz (by simpa using hmn)),.inl ⟨hzz,by rw[show({G with ext:=upd G.ext nm n}:Gh).ext m=G.ext m from exto m hmn];exact Nat.le_refl _⟩⟩
theorem SR.new_bx(h:SR Ω D M G σ tm w){cs:List V}{xs:Array Value}{ty:TypeId}(hl:RelL w (At G σ.tips σ.lk w) G.bxB cs xs.toList)(hn:aC cs=[]) :
  ∃G',SR Ω D M G' {σ with bx:=σ.bx++[cs]} tm (w.alloc (.cells xs ty))/\Fr G w G' (w.alloc (.cells xs ty))/\G'.bxB[σ.bx.length]?=some w.heap.size:=by
 have hout:G.Z w.heap.size=.out:=by
  by_cases ho:G.Z w.heap.size=.out
  .exact ho
  .exact absurd (h.ok.lt _ ho) (Nat.lt_irrefl _)
 let G':Gh:={G with Z:=fun x=>if x=w.heap.size then .bx σ.bx.length else G.Z x,bxB:=G.bxB++[w.heap.size]};have hc:Calm w (w.alloc (.cells xs ty)):=Calm.alloc w _;have hz:∀b,b≠w.heap.size->G'.Z b=G.Z b:=fun b hb=>by simp[G',hb]
 have hz':∀b,G.Z b≠.out->G'.Z b=G.Z b:=fun b hb=>hz b (fun e=>hb (e▸hout))
 have hbb:∀(i b:Nat),G.bxB[i]?=some b->G'.bxB[i]?=some b:=fun i b hb=>by
  simp only[G'];rw[List.getElem?_append_left (List.getElem?_eq_some_iff.1 hb).1];exact hb
 have hlast:G'.bxB[σ.bx.length]?=some w.heap.size:=by
  simp only[G'];rw[h.boxes.1,List.getElem?_append_right (Nat.le_refl _)];simp
 have back:∀b (q:Zn),(∀i,q≠.bx i)->G'.Z b=q->G.Z b=q:=fun b q hq hb=>by
  by_cases e:b=w.heap.size
  .subst e;simp[G']at hb;exact absurd hb.symm (hq _)
  .rw[<-hz b e];exact hb
 have hg:Goes G G' (At G σ.tips σ.lk w) (At G' σ.tips σ.lk (w.alloc (.cells xs ty))) w (w.alloc (.cells xs ty)) (get σ.env) (get σ.env):=mN h.ok hc hz' (fun _ _ _=>⟨rfl,rfl⟩) (fun _ _ _ _=>⟨rfl,rfl⟩) hbb;refine⟨G',⟨fun s=>?_,⟨by simp[G',h.boxes.1],fun i cs' hi=>?_⟩,⟨fun b hb=>?_,fun b m hm=>h.ok.famU b m (back b _ (by simp) hm),fun b m hm=>?_,fun b s c hb=>h.ok.rgU b s c (back b _ (by simp) hb),(h.ok.calm (G':=G') hc (fun b hb=>hz b (Nat.ne_of_lt hb)) rfl).1,(h.ok.calm (G':=G') hc (fun b hb=>hz b (Nat.ne_of_lt hb)) rfl).2⟩,h.shared,fun b s c hb=>h.clkD b s c (back b _ (by simp) hb),fun d hm hD b hb=>h.newD d hm hD b (back b _ (by simp) hb)⟩,
  nY h.ok hc (fun b hb=>hz b (by omega)) (fun _ _ _=>rfl) hbb,hlast⟩
 .refine fN.goes h.ok hg (h.slots s) fun k n cs' hv=>?_
  have hs:=h.slots s;rw[hv]at hs;obtain⟨h1,h2,h3,h4⟩:=hs;exact aAX.goes hg ⟨h1,h2,h3,h4⟩ (hc.block _ (h.ok.lt _ (by rw[h3];simp))) rfl
 .change (σ.bx++[cs])[i]?=some cs' at hi
  by_cases e:i<σ.bx.length
  .rw[List.getElem?_append_left e]at hi;obtain⟨hn',b,h1,h2,ys,e',h3,h4⟩:=h.boxes.2 i cs' hi;exact⟨hn',b,hbb _ _ h1,(hz' b (by rw[h2];simp)).trans h2,ys,e',by rw[hc.block b (h.ok.lt b (by rw[h2];simp))];exact h3,h4.keep hg.keeps⟩
  .rw[List.getElem?_append_right (by omega)]at hi;have:i=σ.bx.length:=by
    by_cases e2:i-σ.bx.length=0
    .omega
    .have h2:=(List.getElem?_eq_some_iff.1 hi).1;simp at h2;omega
   subst this;simp at hi;subst hi;exact⟨hn,w.heap.size,hlast,by simp[G'],xs,ty,Go.heap_alloc_new w _,hl.keep hg.keeps⟩
 .by_cases e:b=w.heap.size
  .subst e;simp
  .have:=h.ok.lt b (by rw[<-hz b e];exact hb);simp;omega
 .have h1:=back b _ (by simp) hm;obtain⟨cur,e,h2,h3⟩:=h.ok.famC b m h1;exact⟨cur,e,by rw[hc.block b (h.ok.lt b (by rw[h1];simp))];exact h2,h3⟩
end
end Go.VM
namespace Go.VM
open Go.RowKit
variable{Ω:World->Prop}
def VOp.makesS:VOp->Bool
 |.allocR _|.boxR ..|.bslice ..|.mkslice ..|.toBytes _=>true
 |_=>false
theorem uA{α:Type}{xs:Array α}{x:α}(h:xs.toList=[x]):xs=#[x]:=Array.ext' (by simpa using h)
section
variable{P:Program}{D M:Nat->Prop}{G:Gh}{σ:St}{a:Act}{w:World}{o:Oper}{t0:Nat->Nat}{clk d:Nat}{hh:Hints}
theorem aFj(h:SR Ω D M G σ a.tmps w){t:TypeId}{x:Operand}{y:Opd}{g:Bool}{sz:Nat}{v:V}{rt:RT}(ho:o.op=.load t x)(hy:aJ x=some y)(hg:aggT P t=some g)(hs:bE P t=some sz)
  (hv:aB (get σ.env) t0 clk σ.bx d (.load rt g sz y)=some v):Ans P G σ a o w v:=by
 cases rt with
 |r s=>
  simp only[aB]at hv;split at hv
  .rename_i s' c off e1;split at hv
   .rename_i c' n cs e2;split at hv
    .rename_i hc;obtain⟨rfl,rfl⟩:=hc;exact aCL h ho hy hg hs e1 e2 hv
    .cases hv
   .cases hv
  .cases hv
 |b=>
  simp only[aB]at hv;split at hv
  .rename_i b off e1;split at hv
   .rename_i cs e2;exact aCM h ho hy hg hs e1 e2 hv
   .cases hv
  .cases hv
 |e av=>
  simp only[aB]at hv;split at hv
  .rename_i l cs off e1;split at hv
   .rename_i hl;exact aCN h ho hy hg hs e1 (gU hl) hv
   .cases hv
  .cases hv
theorem aFk(h:SR Ω D M G σ a.tmps w){c:Call}(hop:o.op=.call c){vo:VOp}{v:V}(hc:aE P hh o.dst (.call c)=some vo)(hp:vo.isP=true)(hm:vo.makesS=false)(hv:aB (get σ.env) t0 clk σ.bx d vo=some v):Ans P G σ a o w v:=by
 obtain⟨callee,args,argTypes⟩:=c;simp only[aE]at hc;split at hc
 .cases hx:eE args.toList with
  |none=>rw[hx]at hc;cases hc
  |some ys=>rw[hx]at hc;cases hc;cases hp
 .split at hc
  .cases hc;cases hp
  .cases hc
 .split at hc
  .split at hc
   .rename_i i _;cases hi:P.info? _ with
    |none=>rw[hi]at hc;cases hc
    |some i=>
     rw[hi]at hc;simp only[Option.bind_some]at hc;split at hc
     .split at hc
      .cases hc;cases hp
      .cases hc
     .cases hc
   .cases hi:P.info? _ with
    |none=>rw[hi]at hc;cases hc
    |some i=>
     rw[hi]at hc;simp only[Option.bind_some]at hc;split at hc
     .split at hc
      .cases hc;cases hp
      .cases hc
     .cases hc
   .cases hi:P.info? _ with
    |none=>rw[hi]at hc;cases hc
    |some i=>
     rw[hi]at hc;simp only[Option.bind_some]at hc;split at hc
     .split at hc
      .cases hc;cases hp
      .cases hc
     .cases hc
   .cases hc
  .cases hc
 .split at hc
  .rename_i t x ht hx;have e1:=uA ht;have e2:=uA hx;subst e1 e2;split at hc
   .rename_i y hu hy;cases hc;simp only[aB]at hv;split at hv
    .rename_i s e3;cases hv;exact aA3 h hop hy hu e3
    .cases hv
   .rename_i e y hu hy;cases hc;simp only[aB]at hv;split at hv
    .rename_i l z n cs e3;cases hv;exact aCO h hop hy hu e3
    .rename_i e3;cases hv;exact aA4 h hop hy hu e3
    .cases hv
   .rename_i n e y hu;cases hc;simp only[aB]at hv;cases hv;exact aFb hop hu
   .cases hc
  .cases hc
 .split at hc
  .rename_i x r hx;cases hc;exact tY (mx:=false) h hop hx hv
  .cases hc
 .split at hc
  .rename_i x r hx;cases hc;exact tY (mx:=true) h hop hx hv
  .cases hc
 .cases hc
theorem aAb(h:SR Ω D M G σ a.tmps w){src dst:TypeId}{x:Operand}(hop:o.op=.convert src dst x){vo:VOp}{v:V}(hc:aE P hh o.dst (.convert src dst x)=some vo)(hm:vo.makesS=false)(hv:aB (get σ.env) t0 clk σ.bx d vo=some v):Ans P G σ a o w v:=by
 simp only[aE]at hc;split at hc
 .rename_i k1 k2 y h1 h2 h3;cases hc;simp only[aB]at hv;split at hv
  .rename_i k n e1;cases hv;exact aDb h hop h3 h1 h2 e1
  .cases hv
 .rename_i y h1 h2 h3;cases hc;simp only[aB]at hv;split at hv
  .rename_i s e1;cases hv;exact aDc h hop h3 h1 h2 e1
  .cases hv
 .rename_i e y h1 h2 h3;split at hc
  .rename_i h4;cases hc;exact aDe h hop h3 h1 h4 h2 hv
  .cases hc
 .split at hc
  .cases hc;cases hm
  .cases hc
 .cases hc
theorem aDl(h:SR Ω D M G σ a.tmps w){op:BinOp}{t yt:TypeId}{x y:Operand}(hop:o.op=.binOp op t x y yt){vo:VOp}{v:V}(hc:aE P hh o.dst (.binOp op t x y yt)=some vo)(hv:aB (get σ.env) t0 clk σ.bx d vo=some v):Ans P G σ a o w v:=by
 simp only[aE]at hc;split at hc
 .rename_i u u' h1 h2;split at hc
  .cases hc;exact aHM h hop h1 h2 hv
  .split at hc
   .cases hk:eqT P t x y with
    |none=>rw[hk]at hc;cases hc
    |some k=>
     rw[hk]at hc;cases hc;simp only[aB]at hv;cases he:eqV k (ev (get σ.env) u) (ev (get σ.env) u')with
     |none=>rw[he]at hv;cases hv
     |some b=>rw[he]at hv;cases hv;exact aGq (neq:=false) h hop h1 h2 hk he
   .cases hk:eqT P t x y with
    |none=>rw[hk]at hc;cases hc
    |some k=>
     rw[hk]at hc;cases hc;simp only[aB]at hv;cases he:eqV k (ev (get σ.env) u) (ev (get σ.env) u')with
     |none=>rw[he]at hv;cases hv
     |some b=>rw[he]at hv;cases hv;exact aGq (neq:=true) h hop h1 h2 hk he
   .cases hc
 .cases hc
theorem aDm(h:SR Ω D M G σ a.tmps w){t:TypeId}{x:Operand}{lo hi mx:Option Operand}(hop:o.op=.slice t x lo hi mx){vo:VOp}{v:V}(hc:aE P hh o.dst (.slice t x lo hi mx)=some vo)(hv:aB (get σ.env) t0 clk σ.bx d vo=some v):Ans P G σ a o w v:=by
 cases mx with
 |some m=>cases hc
 |none=>
  simp only[aE]at hc;split at hc
  .rename_i y lo' hi' h1 h2 h3 h4;cases hc;exact aFe h hop h2 h3 h4 h1 hv
  .rename_i e y lo' hi' h1 h2 h3 h4;cases hs:bE P e with
   |none=>rw[hs]at hc;cases hc
   |some z=>rw[hs]at hc;cases hc;exact aHK h hop h2 h3 h4 h1 hs hv
  .rename_i n e y lo' hi' h1 h2 h3 h4;split at hc
   .rename_i hn;cases hs:bE P e with
    |none=>rw[hs]at hc;cases hc
    |some z=>rw[hs]at hc;cases hc;exact aFf h hop h2 h3 h4 h1 hs hn hv
   .cases hc
  .cases hc
theorem aFl(h:SR Ω D M G σ a.tmps w){vo:VOp}{v:V}(hc:aE P hh o.dst o.op=some vo)(hp:vo.isP=true)(hm:vo.makesS=false)(hv:aB (get σ.env) t0 clk σ.bx d vo=some v):Ans P G σ a o w v:=by
 generalize hop:o.op=op at hc;cases op with
 |move x=>
  simp only[aE]at hc;cases hx:aJ x with
  |none=>rw[hx]at hc;cases hc
  |some y=>
   rw[hx]at hc;cases hc;simp only[aB]at hv;split at hv
   .cases hv
   .cases hv
   .cases hv;exact aGp h (.inl hop) hx
 |assign x=>
  simp only[aE]at hc;cases hx:aJ x with
  |none=>rw[hx]at hc;cases hc
  |some y=>
   rw[hx]at hc;cases hc;simp only[aB]at hv;split at hv
   .cases hv
   .cases hv
   .cases hv;exact aGp h (.inr hop) hx
 |pick c x y=>
  simp only[aE]at hc;split at hc
  .rename_i c' x' y' h1 h2 h3;cases hc;simp only[aB]at hv;split at hv
   .rename_i t e1;have hq:=aFa (P:=P) (o:=o) h hop h1 h2 h3 e1;generalize (if t then ev (get σ.env) x' else ev (get σ.env) y')=u at hv hq;by_cases hk:u.ok=true
    .rw[if_pos hk]at hv;cases hv;exact hq
    .rw[if_neg hk]at hv;cases hv
   .cases hv
  .cases hc
 |alloc t=>
  simp only[aE]at hc;split at hc
  .split at hc<;>cases hc
   .cases hp
   .cases hm
  .cases hc
 |box t x=>
  simp only[aE]at hc;split at hc
  .split at hc<;>cases hc
   .cases hp
   .cases hm
  .cases hc
 |build t parts=>
  simp only[aE]at hc;split at hc
  .rename_i zs fs h1 h2;split at hc
   .rename_i h3;cases hq:tU P fs parts.toList with
    |none=>rw[hq]at hc;cases hc
    |some qs=>rw[hq]at hc;cases hc;exact xV h hop h1 (.inl ⟨fs,h2,h3,hq⟩) hv
   .cases hc
  .rename_i zs n e h1 h2;split at hc
   .rename_i z h3;cases hq:jJ z parts.toList with
    |none=>rw[hq]at hc;cases hc
    |some qs=>rw[hq]at hc;cases hc;exact xV h hop h1 (.inr ⟨n,e,z,h2,h3,hq⟩) hv
   .cases hc
  .cases hc
 |buildSlice t len parts=>
  simp only[aE]at hc;split at hc
  .split at hc
   .split at hc
    .cases hq:jJ _ parts.toList with
     |none=>rw[hq]at hc;cases hc
     |some qs=>rw[hq]at hc;cases hc;cases hm
    .cases hc
   .cases hc
  .cases hc
 |load t x=>
  simp only[aE]at hc;split at hc
  .rename_i g sz y h1 h2 h3;split at hc
   .cases hc;exact aFj h hop h3 h1 h2 hv
   .cases hc
  .cases hc
 |store t x y=>
  simp only[aE]at hc;split at hc
  .split at hc
   .cases hc;cases hp
   .cases hc
  .cases hc
 |nilCheck x=>
  simp only[aE]at hc;cases hx:aJ x with
  |none=>rw[hx]at hc;cases hc
  |some y=>rw[hx]at hc;cases hc;exact aDa h hop hx hv
 |binOp op t x y yt=>exact aDl h hop hc hv
 |unOp op t x=>
  simp only[aE]at hc;cases hx:aJ x with
  |none=>rw[hx]at hc;cases hc
  |some y=>rw[hx]at hc;cases hc;exact aFg h hop hx hv
 |convert src dst x=>exact aAb h hop hc hm hv
 |sliceToArrayPointer t x=>
  simp only[aE]at hc;split at hc
  .rename_i n e y h1 h2;cases hs:bE P e with
   |none=>rw[hs]at hc;cases hc
   |some z=>rw[hs]at hc;cases hc;exact aCQ h hop h2 h1 hv
  .cases hc
 |makeInterface t x=>
  simp only[aE]at hc;split at hc
  .cases hc
  .rename_i td y h1 h2 h3;cases hc;exact aAa h hop h3 h2 (fun ms hms=>h1 ms hms) hv
  .cases hc
 |makeFunc fn p q=>
  simp only[aE]at hc;split at hc
  .rename_i p' q' h1 h2;cases hc;exact aFh h hop h1 h2 hv
  .cases hc
 |makeSlice t l c=>
  simp only[aE]at hc;split at hc
  .split at hc
   .cases hc;cases hm
   .cases hc
  .cases hc
 |slice t x lo hi mx=>exact aDm h hop hc hv
 |fieldAddr t x f=>
  simp only[aE]at hc;split at hc
  .rename_i fs y h1 h2;split at hc
   .rename_i g h3;split at hc
    .rename_i sz h4;split at hc
     .rename_i h5;cases hc;exact aCP h hop h2 h1 h3 h4 h5 hv
     .cases hc
    .cases hc
   .cases hc
  .cases hc
 |field t x f=>
  simp only[aE]at hc;split at hc
  .rename_i fs y h1 h2;split at hc
   .rename_i g h3;split at hc
    .rename_i ag sz h4 h5;cases hc;simp only[aB]at hv;split at hv
     .rename_i cs e1;exact aDd h hop h2 h1 h3 h4 h5 e1 hv
     .cases hv
    .cases hc
   .cases hc
  .cases hc
 |indexAddr t x i=>
  simp only[aE]at hc;split at hc
  .rename_i e y j h1 h2 h3;cases hs:bE P e with
   |none=>rw[hs]at hc;cases hc
   |some z=>rw[hs]at hc;cases hc;exact aFc h hop h2 h3 h1 hs hv
  .rename_i n e y j h1 h2 h3;cases hs:bE P e with
   |none=>rw[hs]at hc;cases hc
   |some z=>rw[hs]at hc;cases hc;exact aFd h hop h2 h3 h1 hs hv
  .cases hc
 |index t x i=>
  simp only[aE]at hc;split at hc
  .rename_i n e y j h1 h2 h3;split at hc
   .rename_i g z h4 h5;cases hc;exact aHI h hop h2 h3 h1 h5 h4 hv
   .cases hc
  .rename_i y j h1 h2 h3;cases hc;exact aHJ h hop h2 h3 h1 hv
  .cases hc
 |extract x i=>
  simp only[aE]at hc;cases hx:aJ x with
  |none=>rw[hx]at hc;cases hc
  |some y=>
   rw[hx]at hc;cases hc;simp only[aB]at hv;split at hv
   .rename_i vs e1;split at hv
    .rename_i v' e2;split at hv
     .rename_i e3;cases hv;exact aA5 h hop hx e1 e2 e3
     .cases hv
    .cases hv
   .cases hv
 |call c=>exact aFk h hop hc hp hm hv
 |_=>cases hc
end
end Go.VM
namespace Go.VM
open Go.RowKit
variable{Ω:World->Prop}
def pT(Ω:World->Prop)(P:Program)(D M:Nat->Prop)(G:Gh)(a:Act)(o:Oper)(w:World)(σ':St):Prop:=
 ∃c w' G',((execOp a.eval o).run P w=.ok (.value c) w'\/((execOp a.eval o).run P w=.ok .skip w'/\c=Go.undef))/\
  SR Ω (fun s=>D s\/o.dst=some s) M G' σ' (a.put o.dst c).tmps w'/\Fr G w G' w'
section
variable{P:Program}{D M:Nat->Prop}{G:Gh}{σ:St}{a:Act}{w:World}{o:Oper}{t0:Nat->Nat}{d:Nat}{hh:Hints}
theorem cG(a:Act){o:Oper}(hd:o.dst=some d)(c:Value):(a.put o.dst c).tmps=a.tmps.setIfInBounds d c:=by rw[hd];rfl
theorem fD(hd:o.dst=some d)(s:Nat):(D s\/s=d)↔(D s\/o.dst=some s):=by
 rw[hd];constructor
 .rintro(h|rfl)
  .exact .inl h
  .exact .inr rfl
 .rintro(h|h)
  .exact .inl h
  .cases h;exact .inr rfl
theorem aFm{v:V}(h:SR Ω D M G σ a.tmps w)(hd:o.dst=some d)(hs:d<a.tmps.size)(hv:Ans P G σ a o w v):pT Ω P D M G a o w {σ with env:=set σ.env d v}:=by
 obtain⟨c,h1,h2⟩:=hv;exact⟨c,w,G,.inl h1,by rw[cG a hd];exact(h.put hs h2).mono fun s=>(fD hd s).1,Fr.refl G w⟩
theorem aAc{t:TypeId}{zs:List V}(h:SR Ω D M G σ a.tmps w)(hop:o.op=.alloc t)(hz:fC P t=some zs)(hd:o.dst=some d)(hs:d<a.tmps.size)(hD:¬D d) :
  pT Ω P D M G a o w {σ with env:=set σ.env d (.reg σ.clk 0 zs)}:=by
 obtain⟨i,z,h1,h2,h3,h4,h5⟩:=fW hz;obtain⟨G',k1,k2⟩:=h.new_rg (ty:=t) hs hD (dQ h5);refine⟨_,_,G',.inl ?_,by rw[cG a hd];exact k1.mono fun s=>(fD hd s).1,k2⟩;unfold execOp;simp[hop,Instr.alloc,zeroValue,typeInfo,h1,h2,newVar,newRow]
theorem aDn{t:TypeId}{x:Operand}{y:Opd}{sz:Nat}(h:SR Ω D M G σ a.tmps w)(hop:o.op=.box t x)(hy:aJ x=some y)(hf:fits (ev (get σ.env) y) sz 0 sz=true)(hd:o.dst=some d)(hs:d<a.tmps.size)(hD:¬D d) :
  pT Ω P D M G a o w {σ with env:=set σ.env d (.reg σ.clk 0 (ev (get σ.env) y).cells)}:=by
 obtain⟨h1,h2,h3⟩:=kV hf;have h4:=h.opd_ok hy h1;obtain⟨k1,k2⟩:=V.ok_known h1;obtain⟨G',k3,k4⟩:=h.new_rg (ty:=t) hs hD (h4.cells k1 k2);refine⟨_,_,G',.inl ?_,by rw[cG a hd];exact k3.mono fun s=>(fD hd s).1,k4⟩;unfold execOp;simp[hop,Instr.box,newVar,newRow]
theorem dK{lk:Nat->Bool}{ns:List Nat}{m:Nat}:fB lk true ns m=true↔m∈ns\/lk m=true:=by
 induction ns with
 |nil=>simp[fB]
 |cons n r ih=>
  simp only[fB,upd];split
  .rename_i h;simp[h]
  .rename_i h;rw[ih];simp[h]
theorem xY{T:Nat->Nat}{lk:Nat->Bool}{B:List Nat}{vs:List V}{cs:List Value}(h:RelL w (At G T lk w) B vs cs)(hlk:∀nm∈aC vs,lk nm=true)(hk:vs.all V.ok1=true) :
  RelL w (At G T lk w) B (vs.map V.bare) cs/\aC (vs.map V.bare)=[]/\(vs.map V.bare).all V.ok1=true:=by
 induction vs generalizing cs with
 |nil=>cases h;exact⟨.nil,rfl,rfl⟩
 |cons v r ih=>
  cases h with
  |cons _ c _ cs h1 h2=>
   simp only[List.all_cons,Bool.and_eq_true]at hk;obtain⟨k1,k2,k3⟩:=ih h2 (fun nm hn=>hlk nm (by simp[aC,hn])) hk.2;obtain⟨b1,b2⟩:=V.bare_names1 hk.1;refine⟨.cons _ _ _ _ (h1.bare (fun nm hn=>hlk nm (by simp[aC,hn])) hk.1) k1,?_,?_⟩
   .simp[aC,b1,k2]
   .simp only[List.map_cons,List.all_cons,b2,Bool.true_and];exact k3
theorem V.cells_ok{v:V}(hk:v.ok=true):v.cells.all V.ok1=true:=by
 cases v with
 |agg cs=>exact hk
 |_=>simpa[V.cells,V.ok]using hk
theorem V.cells_names{v:V}(hk:v.ok=true):aC v.cells=v.names:=by
 cases v with
 |agg cs=>rfl
 |_=>simp[V.cells,aC]
theorem V.bare_cells{v:V}(hk:v.ok=true):v.bare.cells=v.cells.map V.bare:=by
 cases v with
 |agg cs=>
  have:∀cs:List V,cs.all V.ok1=true->cs.map (V.mapLab1 fun _=>Lab.none)=cs.map V.bare:=fun cs=>by
   intro h;refine List.map_congr_left fun u hu=>?_
   rw[List.all_eq_true]at h;have:=h u hu;cases u<;>first|rfl|cases this
  exact this cs hk
 |_=>rfl
theorem vP{T:Nat->Nat}{lk:Nat->Bool}{B:List Nat}{v:V}{c:Value}(h:Rel w (At G T lk w) B v c)(hlk:∀nm∈v.names,lk nm=true)(hk:v.ok=true) :
  RelL w (At G T lk w) B v.bare.cells c.cells.toList/\aC v.bare.cells=[]/\v.bare.cells.all V.ok1=true/\v.bare.cells.length=v.cells.length:=by
 obtain⟨k1,k2⟩:=V.ok_known hk;obtain⟨h1,h2,h3⟩:=xY (h.cells k1 k2) (fun nm hn=>hlk nm (by rw[<-V.cells_names hk];exact hn)) (V.cells_ok hk);rw[V.bare_cells hk];exact⟨h1,h2,h3,by simp⟩
theorem iW{cs:List Value}{vs:List V}(h:ofCells cs=some vs):aC vs=[]/\vs.all V.ok1=true:=by
 induction cs generalizing vs with
 |nil=>cases h;exact⟨rfl,rfl⟩
 |cons c r ih=>
  simp only[ofCells]at h;split at h
  .rename_i v vs' h1 h2;cases h;obtain⟨k1,k2,k3,_⟩:=xN h1;exact⟨by simp[aC,k3,(ih h2).1],by simp only[List.all_cons,k1,Bool.true_and];exact(ih h2).2⟩
  .cases h
theorem aAd{t:TypeId}{zs:List V}(h:SR Ω D M G σ a.tmps w)(hop:o.op=.alloc t)(hz:fC P t=some zs)(hd:o.dst=some d)(hs:d<a.tmps.size) :
  pT Ω P D M G a o w {σ with env:=set σ.env d (.bp σ.bx.length 0),bx:=σ.bx++[zs]}:=by
 obtain⟨i,z,h1,h2,h3,h4,h5⟩:=fW hz;obtain⟨G',k1,k2,k3⟩:=h.new_bx (ty:=t) (dQ h5) (iW h5).1;refine⟨_,_,G',.inl ?_,by rw[cG a hd];exact(k1.put (v:=.bp σ.bx.length 0) (c:=.pointer (some ⟨w.heap.size,0,none⟩)) hs (Rel.bp _ _ _ k3)).mono fun s=>(fD hd s).1,k2⟩;unfold execOp;simp[hop,Instr.alloc,zeroValue,typeInfo,h1,h2,newVar,newRow]
theorem aDo{t:TypeId}{x:Operand}{y:Opd}{sz:Nat}(h:SR Ω D M G σ a.tmps w)(hop:o.op=.box t x)(hy:aJ x=some y)(hf:fits (ev (get σ.env) y) sz 0 sz=true)(hd:o.dst=some d)(hs:d<a.tmps.size) :
  pT Ω P D M G a o w {σ with env:=set σ.env d (.bp σ.bx.length 0),bx:=σ.bx++[(ev (get σ.env) y).bare.cells],lk:=fB σ.lk true (ev (get σ.env) y).names}:=by
 obtain⟨h1,h2,h3⟩:=kV hf;have hl:=h.leak (lk':=fB σ.lk true (ev (get σ.env) y).names) fun m hm=>dK.2 (.inr hm)
 have h4:=hl.opd_ok hy h1;obtain⟨k1,k2,_,_⟩:=vP h4 (fun nm hn=>dK.2 (.inl hn)) h1;obtain⟨G',k3,k4,k5⟩:=hl.new_bx (ty:=t) k1 k2;refine⟨_,_,G',.inl ?_,by rw[cG a hd];exact(k3.put (v:=.bp σ.bx.length 0) (c:=.pointer (some ⟨w.heap.size,0,none⟩)) hs (Rel.bp _ _ _ k5)).mono fun s=>(fD hd s).1,k4⟩;unfold execOp;simp[hop,Instr.box,newVar,newRow]
theorem jT{t:TypeId}{x y:Operand}{sz g off:Nat}{e:TypeId}{cur:Array Value}(hop:o.op=.store t x y)(hs:bE P t=some sz)(hx:a.eval x=.pointer (some ⟨g,off,none⟩))(hg:∃fr:Nat×Nat,w.heap[g]?=some (.cells cur e fr)/\Fz fr cur.size)
  (hl:(a.eval y).cells.size=sz) (hfit:off+sz<=cur.size) (h1:∀u∈(a.eval y).cells.toList,u.oneCell'=true) :
  (execOp a.eval o).run P w=.ok .skip (w.setRow g (cur.toList.take off++(a.eval y).cells.toList++cur.toList.drop (off+(a.eval y).cells.toList.length)).toArray):=by
 obtain⟨fr,hg,hfz⟩:=hg;have hst:=run_storeCells_fz P g off e fr (a.eval y).cells.toList 0 cur w hg hfz (by simpa[hl]using hfit) h1;simp only[Nat.add_zero]at hst;unfold execOp;simp[hop,Instr.storeAt,hx,Instr.sureAddr,storeVar,cX hs,hl,hst]
theorem xZ{t:TypeId}{x y:Operand}{x' y':Opd}{sz s c n off:Nat}{cs:List V}(h:SR Ω D M G σ a.tmps w)(hop:o.op=.store t x y)(hs:bE P t=some sz)(hx:aJ x=some x')(hy:aJ y=some y')
  (he:ev (get σ.env) x'=.rp s c off) (hr:get σ.env s=.reg c n cs) (hf:fits (ev (get σ.env) y') sz off cs.length=true) (hd:o.dst=none) :
  pT Ω P D M G a o w {σ with env:=set σ.env s (.reg c (n+1) (splice cs off (ev (get σ.env) y').cells))}:=by
 obtain⟨h1,h2,h3⟩:=kV hf;have hxr:=h.opd hx;rw[he]at hxr;have hsl:=h.slots s;rw[hr]at hsl;obtain⟨q1,q2,q3,cur,e,q4,q5⟩:=hsl;have h4:=h.opd_ok hy h1;obtain⟨k1,k2⟩:=V.ok_known h1;have h5:=h4.cells k1 k2;have hlen:(a.eval y).cells.size=sz:=by rw[<-h2,h5.length];simp
 have hcur:cs.length=cur.size:=by rw[q5.length];simp
 have hrun:=jT (P:=P) (w:=w) hop hs hxr.1 ⟨_,q4,Fz.zero _⟩ hlen (by omega) (h5.one (V.cells_ok h1));obtain⟨G',k3,k4⟩:=h.store_r (cs':=splice cs off (ev (get σ.env) y').cells) (news:=(cur.toList.take off++(a.eval y).cells.toList++cur.toList.drop (off+(a.eval y).cells.toList.length)).toArray) hr q4 (by simpa using q5.splice h5 off);refine⟨Go.undef,_,G',.inr ⟨hrun,rfl⟩,?_,k4⟩;rw[hd];exact k3.mono fun s hs=>.inl hs
theorem yA{t:TypeId}{x y:Operand}{x' y':Opd}{sz b off:Nat}{cs:List V}(h:SR Ω D M G σ a.tmps w)(hop:o.op=.store t x y)(hs:bE P t=some sz)(hx:aJ x=some x')(hy:aJ y=some y')
  (he:ev (get σ.env) x'=.bp b off) (hr:σ.bx[b]?=some cs) (hf:fits (ev (get σ.env) y') sz off cs.length=true) (hd:o.dst=none) :
  pT Ω P D M G a o w {σ with bx:=σ.bx.set b (splice cs off (ev (get σ.env) y').bare.cells),lk:=fB σ.lk true (ev (get σ.env) y').names}:=by
 obtain⟨h1,h2,h3⟩:=kV hf;have hl:=h.leak (lk':=fB σ.lk true (ev (get σ.env) y').names) fun m hm=>dK.2 (.inr hm)
 have hxr:=hl.opd hx
 change VR _ _ _ _ (ev (get σ.env) x') _ at hxr
 rw[he]at hxr;obtain⟨blk,p1,p2⟩:=Rel.bp_inv hxr;obtain⟨hn,b',q1,q3,cur,e,q4,q5⟩:=hl.boxes.2 b cs hr;obtain rfl:blk=b':=by rw[p2]at q1;cases q1;rfl
 have h4:=hl.opd_ok hy h1;obtain⟨k1,k2,k3,k4⟩:=vP h4 (fun nm hn=>dK.2 (.inl hn)) h1;have h5:=h4.cells (V.ok_known h1).1 (V.ok_known h1).2;have hlen:(a.eval y).cells.size=sz:=by rw[<-h2];have:=h5.length;simpa using this.symm
 have hcur:cs.length=cur.size:=by rw[q5.length];simp
 have hrun:=jT (P:=P) (w:=w) hop hs p1 ⟨_,q4,Fz.zero _⟩ hlen (by omega) (h5.one (V.cells_ok h1));have hsp:aC (splice cs off (ev (get σ.env) y').bare.cells)=[]:=by
  unfold splice;rw[cT,cT,k2];simp[fV hn fun v hv=>List.mem_of_mem_take hv,fV hn fun v hv=>List.mem_of_mem_drop hv]
 obtain⟨k5,k6⟩:=hl.store_b (cs':=splice cs off (ev (get σ.env) y').bare.cells) (news:=(cur.toList.take off++(a.eval y).cells.toList++cur.toList.drop (off+(a.eval y).cells.toList.length)).toArray) hr p2 q4 (by simpa using q5.splice k1 off) hsp;refine⟨Go.undef,_,G,.inr ⟨hrun,rfl⟩,?_,k6⟩;rw[hd];exact k5.mono fun s hs=>.inl hs
theorem mP{d d' i i':Nat}(hi:i<64)(hi':i'<64)(h:aQ d i=aQ d' i'):d=d'/\i=i':=by unfold aQ at h;omega
theorem pU{w:World}{a:Addr}{xs:List Value}(h:Row w a xs)(n:Nat):Row w a (xs.take n):=fun j u hu=>by
 rw[List.getElem?_take]at hu;split at hu
 .exact h j u hu
 .cases hu
theorem yB{nm:Nat}(b:Nat):(G.retire nm).Z b≠.fam nm:=fun h=>(dR (by simp) h).2 rfl
section
variable{tm:Array Value}
theorem SR.born{w':World}{nm k z n cap:Nat}{e:TypeId}{cur:Array Value}{cs:List V}(h:SR Ω D M G σ tm w)(hc:Calm w w')(hb:∃fr:Nat×Nat,w'.heap[w.heap.size]?=some (.cells cur e fr)/\Fz fr cur.size)
  (hno:∀b,G.Z b≠.fam nm) (hM:∀d',M d'->¬(D d'\/d'=d)->aQ d' 0≠nm) (hd:d<tm.size) (hk:k<=σ.tips nm) (hz:0<z) (hn:n<=cap) (hcap:cap<=maxLen) (hsz:cur.size=cap*z)
  (hcs:RelL w (At G σ.tips σ.lk w) G.bxB cs (cur.toList.take (n*z))) (hnm:aC cs=[]) :
  ∃G',SR Ω (fun s=>D s\/s=d) M G' {σ with env:=set σ.env d (.sl (.own nm k) z n cs)} (tm.setIfInBounds d (.slice (some ⟨w.heap.size,0,none⟩) n cap)) w'/\Fr G w G' w':=by
 have hle:n*z<=cur.size:=by rw[hsz];exact Nat.mul_le_mul_right _ hn
 obtain⟨G',k1,k2,⟨q1,q2,q3,q4⟩,hg⟩:=(h.mono (D':=fun s=>D s\/s=d) fun s hs=>Or.inl hs).new_fam (len:=n*z) hc hb hle hno hM;have hlen:(cur.toList.take (n*z)).length=n*z:=by rw[List.length_take];exact Nat.min_eq_left (by simpa using hle)
 refine⟨G',(k1.put hd (v:=.sl (.own nm k) z n cs) (c:=.slice (some ⟨w.heap.size,0,none⟩) n cap) ?_).mono (fun s hs=>hs.elim id .inr),k2⟩;refine Rel.sl _ _ _ _ ⟨w.heap.size,0,none⟩ cap (cur.toList.take (n*z)) ?_ hz hlen hn hcap (pU (cR hb.choose_spec.1) _) (hcs.keep hg.keeps) hnm;rw[hlen];refine⟨hk,.inr ⟨q1,by rw[q3];simp⟩,fun _=>⟨⟨q1,by rw[q2],cur,e,by rw[q2];exact hb,hsz⟩,q3.symm,rfl⟩⟩
theorem SR.reborn{w':World}{nm z n cap:Nat}{e:TypeId}{cur:Array Value}{cs:List V}{lk':Nat->Bool}(h:SR Ω D M G σ tm w)(hc:Calm w w')(hb:w'.heap[w.heap.size]?=some (.cells cur e (0,0)))
  (hM:∀d',M d'->¬(D d'\/d'=d)->aQ d' 0≠nm) (hd:d<tm.size) (hz:0<z) (hn:n<=cap) (hcap:cap<=maxLen) (hsz:cur.size=cap*z)
  (hlk:∀m,m≠nm->σ.lk m=true->lk' m=true) (hsh:∀m,m<64->lk' m=true)
  (hcs:RelL w (At G σ.tips σ.lk w) G.bxB cs (cur.toList.take (n*z))) (hnm:aC cs=[]) :
  ∃G',SR Ω (fun s=>D s\/s=d) M G' {σ with env:=set σ.env d (.sl (.own nm (σ.tips nm+1)) z n cs),tips:=upd σ.tips nm (σ.tips nm+1),lk:=lk'} (tm.setIfInBounds d (.slice (some ⟨w.heap.size,0,none⟩) n cap)) w'/\Fr G w G' w':=by
 have hT:∀m,m≠nm->upd σ.tips nm (σ.tips nm+1) m=σ.tips m:=fun m hm=>aO _ _ hm
 have hT2:σ.tips nm<upd σ.tips nm (σ.tips nm+1) nm:=by rw[bT];omega
 obtain⟨k1,k2⟩:=h.retire hT hT2 hlk hsh;obtain⟨G',k3,k4⟩:=k1.born (k:=σ.tips nm+1) (nm:=nm) hc ⟨_,hb,Fz.zero _⟩ yB hM hd (by show _<=upd σ.tips nm (σ.tips nm+1) nm;rw[bT];exact Nat.le_refl _) hz hn hcap hsz
  (RelL.keep ⟨fun l a len z n cap hh=>⟨At.retire hT hT2 hlk hh,fun _ _=>rfl⟩,fun _ _ hb=>hb⟩ hcs) hnm
 exact⟨G',k3,k2.trans h.ok k4⟩
end
theorem fJ(z:Array Value):∀n,(madeCells z (n*z.size)).toList=(List.replicate n z.toList).flatten:=by
 intro n;apply List.ext_getElem?;intro j;unfold madeCells
 induction n generalizing j with
 |zero=>simp
 |succ n ih=>
  rw[List.replicate_succ,List.flatten_cons];by_cases hj:j<z.size
  .rw[List.getElem?_append_left (by simpa using hj)];have:j<(n+1)*z.size:=Nat.lt_of_lt_of_le hj (Nat.le_mul_of_pos_left _ (by omega));simp[this,Nat.mod_eq_of_lt hj,hj]
  .rw[List.getElem?_append_right (by simpa using hj),<-ih];have hz:0<z.size\/z.size=0:=by omega
   rcases hz with hz|hz
   .have e1:j%z.size=(j-z.size)%z.size:=by rw[Nat.mod_eq_sub_mod (by omega)]
    by_cases hlt:j<(n+1)*z.size
    .have h2:j-z.size<n*z.size:=by rw[Nat.succ_mul]at hlt;omega
     simp[hlt,h2,e1]
    .have h2:¬j-z.size<n*z.size:=by rw[Nat.succ_mul]at hlt;omega
     simp[hlt,h2]
   .simp[hz]
theorem jM{α:Type}(z:List α)(n c:Nat)(h:n<=c):((List.replicate c z).flatten).take (n*z.length)=(List.replicate n z).flatten:=by
 induction n generalizing c with
 |zero=>simp
 |succ n ih=>
  cases c with
  |zero=>omega
  |succ c=>
   rw[List.replicate_succ,List.replicate_succ,List.flatten_cons,List.flatten_cons,Nat.succ_mul,Nat.add_comm,List.take_length_add_append,ih c (by omega)]
theorem yC{t e:TypeId}{l c:Operand}{l' c':Opd}{i:TypeInfo}{zs:List V}{lv cv:Int}(h:SR Ω D M G σ a.tmps w)(hop:o.op=.makeSlice t l c)(hu:P.underlying t=some (.slice e))(hi:P.info? e=some i)(hzz:fC P e=some zs)
  (hl:aJ l=some l') (hc:aJ c=some c') (el:ev (get σ.env) l'=.int .i64 lv) (ec:ev (get σ.env) c'=.int .i64 cv) (hg:0<i.size/\zs.length=i.size/\0<=lv/\lv<=cv/\(i.bytes:Int)*cv<=281474976710656/\cv<=9223372036854775807)
  (hd:o.dst=some d) (hs:d<a.tmps.size) (hD:¬D d) (hM:M d) (ht:t0 (aQ d 0)<=σ.tips (aQ d 0)) :
  pT Ω P D M G a o w {σ with env:=set σ.env d (.sl (.own (aQ d 0) (t0 (aQ d 0))) i.size lv.toNat ((List.replicate lv.toNat zs).flatten))}:=by
 obtain⟨g1,g2,g3,g4,g5,g6⟩:=hg;obtain⟨i',z,h1,h2,h3,h4,h5⟩:=fW hzz;obtain rfl:i=i':=by rw[hi]at h1;cases h1;rfl
 have hrun:=run_make (P:=P) w t e i z hu hi h2 .i64 .i64 lv cv g3 g4 g5 g6;have hzl:z.cells.toList.length=i.size:=by simpa using h3
 have hcells:(madeCells z.cells (cv.toNat*i.size)).toList.take (lv.toNat*i.size)=(List.replicate lv.toNat z.cells.toList).flatten:=by
  rw[<-h3,fJ];have:=jM z.cells.toList lv.toNat cv.toNat (by omega);rw[<-this];congr 2
 obtain⟨G',k1,k2⟩:=h.born (k:=t0 (aQ d 0)) (nm:=aQ d 0) (w':=w.alloc (.cells (madeCells z.cells (cv.toNat*i.size)) e)) (cap:=cv.toNat) (n:=lv.toNat) (z:=i.size) (cs:=(List.replicate lv.toNat zs).flatten) (Calm.alloc w _) ⟨_,Go.heap_alloc_new w _,Fz.zero _⟩ (fun b=>h.newD d hM hD b)
  (fun d' _ hn he=>hn (.inr (mP (by omega) (by omega) he).1)) hs ht g1 (by omega) (by simp[maxLen];omega) (size_madeCells _ _) (by rw[hcells];exact(dQ h5).flatten_replicate _) (cW.2 fun v hv=>by
   obtain⟨l,hl1,hl2⟩:=List.mem_flatten.1 hv;have:=List.eq_of_mem_replicate hl1;subst this;exact cW.1 (iW h5).1 v hl2)
 refine⟨_,_,G',.inl ?_,by rw[cG a hd];exact k1.mono fun s=>(fD hd s).1,k2⟩;unfold execOp;simp[hop,h.opd_int hl el,h.opd_int hc ec,hrun]
theorem uB{t e:TypeId}{len z:Nat}{zs cs:List V}{parts:Array (Nat×Operand)}{qs:List (Nat×Nat×Opd)}(h:SR Ω D M G σ a.tmps w)(hop:o.op=.buildSlice t len parts)(hu:P.underlying t=some (.slice e))(hsz:bE P e=some z)(hzz:fC P e=some zs)
  (hsm:len*z<=16777216) (hq:jJ z parts.toList=some qs) (hf:fill (get σ.env) ((List.replicate len zs).flatten) qs=some cs) (hlen:cs.length=len*z) :
  ∃ys:Array Value,RelL w (At G σ.tips σ.lk w) G.bxB cs ys.toList/\ys.size=len*z/\len<=maxLen/\(execOp a.eval o).run P w=.ok (.value (.slice (some ⟨w.heap.size,0,none⟩) len len)) (w.alloc (.cells ys e)):=by
 obtain⟨i,zv,h1,h2,h3,h4,h5⟩:=fW hzz;obtain rfl:i.size=z:=by unfold bE at hsz;rw[h1]at hsz;cases hsz;rfl
 have hstart:RelL w (At G σ.tips σ.lk w) G.bxB ((List.replicate len zs).flatten) ((Array.range (len*i.size)).map (zv.cells[·%zv.cells.size]!)).toList:=by
  have:=fJ zv.cells len;unfold madeCells at this;rw[h3]at this;rw[h3,this];exact(dQ h5).flatten_replicate _
 obtain⟨ys,k1,k2⟩:=vM h (qN hq) hf hstart;have hys:ys.size=len*i.size:=by rw[<-hlen,k2.length];simp
 have hrun:(Instr.buildSlice t len (parts.map fun(i,x)=>(i,a.eval x))).run P w=.ok (.slice (some ⟨w.heap.size,0,none⟩) len len) (w.alloc (.cells ys e)):=by
  have k1':Instr.fill (fun j=>some (j*i.size,i.size)) ((Array.range (len*i.size)).map (zv.cells[·%zv.cells.size]!)) (parts.map fun(i,x)=>(i,a.eval x)).toList=some ys:=by rw[Array.toList_map];exact k1
  generalize (parts.map fun(i,x)=>(i,a.eval x))=L at k1' ⊢;by_cases hpos:len*i.size=0
  .rw[hpos]at k1';have hfi:∀f:Nat->Value,Instr.fill (fun j=>some (j*i.size,i.size)) ((Array.range 0).map f) L.toList=some ys:=fun f=>by
    have e0:∀g:Nat->Value,(Array.range 0).map g=#[]:=fun g=>by simp[Array.range]
    rw[e0]at k1' ⊢;exact k1'
   simp[Instr.buildSlice,run_underlying hu,sizeOf,typeInfo,h1,hpos,newRow];rw[hfi];rfl
  .exact run_buildSlice (P:=P) w t e len L ys i zv hu h1 h2 (by omega) hpos k1'
 have hle:len<=len*i.size:=Nat.le_mul_of_pos_right _ h4;refine⟨ys,k2,hys,by simp[maxLen];omega,?_⟩;unfold execOp;simp only[hop,Sem.run_bind,hrun,Result.andThen_ok];rfl
theorem aAe{t e:TypeId}{len z:Nat}{zs cs:List V}{parts:Array (Nat×Operand)}{qs:List (Nat×Nat×Opd)}(h:SR Ω D M G σ a.tmps w)(hop:o.op=.buildSlice t len parts)(hu:P.underlying t=some (.slice e))(hsz:bE P e=some z)(hzz:fC P e=some zs)
  (hsm:len*z<=16777216) (hq:jJ z parts.toList=some qs) (hf:fill (get σ.env) ((List.replicate len zs).flatten) qs=some cs) (hz:0<z) (hlen:cs.length=len*z) (hnm:aC cs=[])
  (hd:o.dst=some d) (hs:d<a.tmps.size) (hD:¬D d) (hM:M d) (ht:t0 (aQ d 0)<=σ.tips (aQ d 0)) :
  pT Ω P D M G a o w {σ with env:=set σ.env d (.sl (.own (aQ d 0) (t0 (aQ d 0))) z len cs)}:=by
 obtain⟨ys,k2,hys,hmax,hrun⟩:=uB h hop hu hsz hzz hsm hq hf hlen;obtain⟨G',k3,k4⟩:=h.born (k:=t0 (aQ d 0)) (nm:=aQ d 0) (w':=w.alloc (.cells ys e)) (cap:=len) (n:=len) (z:=z) (cs:=cs) (Calm.alloc w _) ⟨_,Go.heap_alloc_new w _,Fz.zero _⟩ (fun b=>h.newD d hM hD b)
  (fun d' _ hn he=>hn (.inr (mP (by omega) (by omega) he).1)) hs ht hz (Nat.le_refl _) hmax hys (by rw[List.take_of_length_le (by simp[hys])];exact k2) hnm
 exact⟨_,_,G',.inl hrun,by rw[cG a hd];exact k3.mono fun s=>(fD hd s).1,k4⟩
theorem qS{t e:TypeId}{len z:Nat}{zs cs:List V}{parts:Array (Nat×Operand)}{qs:List (Nat×Nat×Opd)}(h:SR Ω D M G σ a.tmps w)(hop:o.op=.buildSlice t len parts)(hu:P.underlying t=some (.slice e))(hsz:bE P e=some z)(hzz:fC P e=some zs)
  (hsm:len*z<=16777216) (hq:jJ z parts.toList=some qs) (hf:fill (get σ.env) ((List.replicate len zs).flatten) qs=some cs) (hz:0<z) (hlen:cs.length=len*z) (hk:cs.all V.ok1=true)
  (hd:o.dst=some d) (hs:d<a.tmps.size) (hD:¬D d) (hM:M d) (ht:t0 (aQ d 0)<=σ.tips (aQ d 0)) :
  pT Ω P D M G a o w {σ with env:=set σ.env d (.sl (.own (aQ d 0) (t0 (aQ d 0))) z len (cs.map V.bare)),lk:=fB σ.lk true (aC cs)}:=by
 have hl:=h.leak (lk':=fB σ.lk true (aC cs)) fun m hm=>dK.2 (.inr hm)
 obtain⟨ys,k2,hys,hmax,hrun⟩:=uB hl hop hu hsz hzz hsm hq hf hlen;obtain⟨b1,b2,b3⟩:=xY k2 (fun nm hn=>dK.2 (.inl hn)) hk;obtain⟨G',k3,k4⟩:=hl.born (k:=t0 (aQ d 0)) (nm:=aQ d 0) (w':=w.alloc (.cells ys e)) (cap:=len) (n:=len) (z:=z) (cs:=cs.map V.bare) (Calm.alloc w _) ⟨_,Go.heap_alloc_new w _,Fz.zero _⟩ (fun b=>h.newD d hM hD b)
  (fun d' _ hn he=>hn (.inr (mP (by omega) (by omega) he).1)) hs ht hz (Nat.le_refl _) hmax hys (by rw[List.take_of_length_le (by simp[hys])];exact b1) b2
 exact⟨_,_,G',.inl hrun,by rw[cG a hd];exact k3.mono fun s=>(fD hd s).1,k4⟩
theorem uC{A:Pl}{B:List Nat}(l:List UInt8):RelL w A B (gS l) (l.map fun c=>Value.int .u8 (c.toNat:Int)):=by
 unfold gS
 induction l with
 |nil=>exact .nil
 |cons c r ih=>exact .cons _ _ _ _ (.int _ _) ih
theorem yD(l:List UInt8):aC (gS l)=[]:=cW.2 fun v hv=>by
 obtain⟨c,_,rfl⟩:=List.mem_map.1 hv;rfl
theorem yE{src dst e:TypeId}{x:Operand}{x':Opd}{s:List UInt8}{u:TypeDesc}(h:SR Ω D M G σ a.tmps w)(hop:o.op=.convert src dst x)(hx:aJ x=some x')(hsr:P.underlying src=some u)(hde:P.underlying dst=some (.slice e))(he:P.underlying e=some (.int .u8))
  (hv:ev (get σ.env) x'=.str s) (hmax:s.length<=maxLen) (hd:o.dst=some d) (hs:d<a.tmps.size) (hD:¬D d) (hM:M d) (ht:t0 (aQ d 0)<=σ.tips (aQ d 0)) :
  pT Ω P D M G a o w {σ with env:=set σ.env d (.sl (.own (aQ d 0) (t0 (aQ d 0))) 1 s.length (gS s))}:=by
 obtain⟨b,h1,rfl⟩:=h.opd_str hx hv;have hcalm:Calm w (Lib.bytesWorld w e b):=⟨rfl,rfl,rfl,by rw[Lib.bytesWorld_size];omega,fun j hj=>Lib.bytesWorld_at_old w e b j hj⟩;have hlen:b.data.toList.length=b.size:=by simp
 obtain⟨G',k1,k2⟩:=h.born (k:=t0 (aQ d 0)) (nm:=aQ d 0) (w':=Lib.bytesWorld w e b) (cur:=Lib.bytesCells w e b) (e:=e) (cap:=grownCap w b.size 0 e) (n:=b.data.toList.length) (z:=1) (cs:=gS b.data.toList) hcalm ⟨_,Lib.bytesWorld_at_new w e b,.inr (Nat.le_refl _)⟩ (fun b=>h.newD d hM hD b)
  (fun d' _ hn he=>hn (.inr (mP (by omega) (by omega) he).1)) hs ht (by omega) (by rw[hlen];exact grownCap_ge _ _ _ _) (grownCap_le_maxLen _ _ _ _ (by rw[<-hlen];exact hmax)) (by
   rw[Nat.mul_one];have:=grownCap_ge w b.size 0 e;unfold Lib.bytesCells;simp;omega) (by
   rw[Nat.mul_one];unfold Lib.bytesCells;simp only[Array.toList_append,List.toList_toArray];rw[List.take_left' (by simp),Array.toList_map];exact uC _) (yD _)
 refine⟨_,_,G',.inl ?_,by rw[cG a hd];rw[hlen]at k1 ⊢;exact k1.mono fun s=>(fD hd s).1,k2⟩;unfold execOp;simp[hop,h1,Lib.run_convert_string_bytes w src dst e b hsr hde he]
theorem aAf{ys cur:List Value}{off n:Nat}(h:off+ys.length<=n)(hn:n<=cur.length) :
  (cur.take off++ys++cur.drop (off+ys.length)).take n=(cur.take n).take off++ys++(cur.take n).drop (off+ys.length):=by
 have e1:(cur.take n).take off=cur.take off:=by rw[List.take_take];congr 1;omega
 have e3:(cur.take off++ys).length=off+ys.length:=by simp only[List.length_append,List.length_take];omega
 rw[e1,List.take_append,List.take_of_length_le (by omega),List.drop_take,e3]
theorem aCW{xs ys:List Value}{off:Nat}(h:off+ys.length<=xs.length)(cur:List Value)(hc:cur.take xs.length=xs) :
  (cur.take off++ys++cur.drop (off+ys.length)).take xs.length=xs.take off++ys++xs.drop (off+ys.length):=by
 have hl:xs.length<=cur.length:=by rw[<-hc,List.length_take];exact Nat.min_le_right _ _
 rw[aAf h hl,hc]
theorem qT{w:World}{g:Nat}{xs:List Value}{cur:Array Value}{e:TypeId}{fr:Nat×Nat}(h:Row w ⟨g,0,none⟩ xs)(hc:w.heap[g]?=some (.cells cur e fr))(_:xs.length<=cur.size):cur.toList.take xs.length=xs:=by
 apply List.ext_getElem?;intro j;rw[List.getElem?_take];split
 .rename_i hj;have h1:=h j xs[j] (List.getElem?_eq_getElem hj);rw[fO,Nat.zero_add,cell_of_row w g j cur e fr hc]at h1;rw[Array.getElem?_toList,h1,List.getElem?_eq_getElem hj]
 .rename_i hj;rw[List.getElem?_eq_none (by omega)]
theorem yF{t:TypeId}{x y:Operand}{x' y':Opd}{sz nm off:Nat}{cs:List V}(h:SR Ω D M G σ a.tmps w)(hop:o.op=.store t x y)(hs:bE P t=some sz)(hx:aJ x=some x')(hy:aJ y=some y')
  (he:ev (get σ.env) x'=.ep (.own nm (σ.tips nm)) cs off) (hlk:σ.lk nm=false) (hnm:nm∉(ev (get σ.env) y').names) (hf:fits (ev (get σ.env) y') sz off cs.length=true) (hd:o.dst=none) :
  pT Ω P D M G a o w {σ with env:=bY nm (σ.tips nm) (splice cs off (ev (get σ.env) y').bare.cells) σ.env,lk:=fB σ.lk true (ev (get σ.env) y').names}:=by
 obtain⟨h1,h2,h3⟩:=kV hf;have hxr:=h.opd hx;rw[he]at hxr;obtain⟨b,z,n,cap,xs,p1,p2,p3,p4,p5⟩:=Rel.ep_inv hxr;obtain⟨_,hrd,htip⟩:=p2;obtain⟨⟨t1,t2,cur,e,t3,t4⟩,t5,t6⟩:=htip rfl;subst t2;have hzf:G.Z (G.famB nm)=.fam nm:=t1;obtain⟨cur',e',c1,c2⟩:=h.ok.famC _ _ hzf;obtain rfl:cur=cur':=cb_uniq t3 c1;have hxc:xs.length<=cur.size:=by rw[t5];exact c2
 have hpre:=qT p3 t3.choose_spec.1 hxc;have h4:=h.opd_ok hy h1;have h5:=h4.cells (V.ok_known h1).1 (V.ok_known h1).2;have hlen:(a.eval y).cells.size=sz:=by rw[<-h2];have:=h5.length;simpa using this.symm
 have hcl:cs.length=xs.length:=p4.length;have hptr:a.eval x=.pointer (some ⟨G.famB nm,off,none⟩):=by rw[p1,fO,Nat.zero_add]
 have hrun:=jT (P:=P) (w:=w) hop hs hptr t3 hlen (by omega) (h5.one (V.cells_ok h1));generalize hw':w.setRow (G.famB nm) (cur.toList.take off++(a.eval y).cells.toList++cur.toList.drop (off+(a.eval y).cells.toList.length)).toArray=w' at hrun;have hsz:(cur.toList.take off++(a.eval y).cells.toList++cur.toList.drop (off+(a.eval y).cells.toList.length)).toArray.size=cur.size:=by
  simp only[List.size_toArray,List.length_append,List.length_take,List.length_drop,Array.length_toList];omega
 have hnew:=cb_set (w:=w) t3 hsz;rw[hw']at hnew;have honly:Only (G.famB nm) w w':=by rw[<-hw'];exact Only.setRow w _ _
 have hlk':∀m,σ.lk m=true->fB σ.lk true (ev (get σ.env) y').names m=true:=fun m hm=>dK.2 (.inr hm)
 have hleak:=h.leak (lk':=fB σ.lk true (ev (get σ.env) y').names) hlk';have hl2:fB σ.lk true (ev (get σ.env) y').names nm=false:=by
  cases hh:fB σ.lk true (ev (get σ.env) y').names nm with
  |false=>rfl
  | true => rcases dK.1 hh with hh | hh
            .exact absurd hh hnm
            .rw[hlk]at hh;cases hh
 have h4':=hleak.opd_ok hy h1;obtain⟨b1,b2,b3,b4⟩:=vP h4' (fun m hn=>dK.2 (.inl hn)) h1;have hcs:RelL w (At G σ.tips (fB σ.lk true (ev (get σ.env) y').names) w) G.bxB cs xs:=RelL.keep (xX (e:=get σ.env) hlk').keeps p4;have hsn:aC (splice cs off (ev (get σ.env) y').bare.cells)=[]:=by
  unfold splice;rw[cT,cT,b2];simp[fV p5 fun v hv=>List.mem_of_mem_take hv,fV p5 fun v hv=>List.mem_of_mem_drop hv]
 have hkn:=qR (n:=G.ext nm) (T':=σ.tips) (lk':=fB σ.lk true (ev (get σ.env) y').names) hleak hl2 (fun _ hm=>hm) honly hzf (fun _ _=>rfl);have hrel:=(hcs.splice b1 off).keepN hkn (by rw[hsn];simp);have hxl:(xs.take off++(a.eval y).cells.toList++xs.drop (off+(a.eval y).cells.toList.length)).length=xs.length:=by
  simp only[List.length_append,List.length_take,List.length_drop,Array.length_toList];omega
 have hrow:Row w' ⟨G.famB nm,0,none⟩ (xs.take off++(a.eval y).cells.toList++xs.drop (off+(a.eval y).cells.toList.length)):=by
  have:=pU (cR hnew.choose_spec.1) xs.length;rw[aCW (by simp only[Array.length_toList];omega) cur.toList hpre]at this;exact this
 have hext:upd G.ext nm (G.ext nm) nm=G.ext nm:=bT _ _ _;obtain⟨k1,k2,_⟩:=hleak.rewrite (k:=σ.tips nm) (n:=G.ext nm) (cs':=splice cs off (ev (get σ.env) y').bare.cells) (T':=σ.tips) (lk':=fB σ.lk true (ev (get σ.env) y').names) hl2 (fun _ hm=>hm) honly hzf hnew (by rw[hsz];exact c2) (fun _ _=>rfl)
  ⟨hsn,fun a' len' z' n' cap' hA=>by
   obtain⟨q1,q2,q3⟩:=hA;obtain⟨⟨r1,r2,r3⟩,r4,r5⟩:=q3 rfl;obtain⟨cur2,e2,r6,r7⟩:=r3;obtain rfl:cur=cur2:=cb_uniq t3 r6;subst r2;refine⟨⟨q1,.inr ⟨r1,?_⟩,fun _=>⟨⟨r1,rfl,_,_,hnew,by rw[hsz];exact r7⟩,?_,r5⟩⟩,_,?_,hrow,hrel⟩
   .show 0+len'<=upd G.ext nm (G.ext nm) nm;rw[hext];omega
   .show len'=upd G.ext nm (G.ext nm) nm;rw[hext];exact r4
   .rw[hxl,t5,r4]⟩
 refine⟨Go.undef,w',_,.inr ⟨hrun,rfl⟩,?_,k2⟩;rw[hd];exact k1.mono fun s hs=>.inl hs
end
end Go.VM
namespace Go.VM
open Go.RowKit
variable{Ω:World->Prop}
section
variable{P:Program}{D M:Nat->Prop}{G:Gh}{σ:St}{a:Act}{w:World}{o:Oper}{t0:Nat->Nat}{d:Nat}{hh:Hints}
theorem aCX(h:SR Ω D M G σ a.tmps w){y:Operand}{y':Opd}{av:List Nat}{z m:Nat}{news:List V}(hy:aJ y=some y')(hs:jP (get σ.env) av z (ev (get σ.env) y')=some (m,news)) :
  ∃ns,Src P w (a.eval y) z m ns/\RelL w (At G σ.tips σ.lk w) G.bxB news ns/\aC news=[]:=by
 have h1:=h.opd hy;unfold jP at hs;split at hs
 .rename_i e1;cases hs;rw[e1]at h1;rw[Rel.nils_inv h1];exact⟨[],aDi,.nil,rfl⟩
 .rename_i l z' m' cs e1;split at hs
  .rename_i hc;obtain⟨rfl,hl⟩:=hc;cases hs;rw[e1]at h1;obtain⟨b,cap,xs,h2,h3,h4,h5,h6,h7,h8,h9⟩:=h1.sl_row (gU hl);rw[h2];exact⟨xs,qO h4 h7,h8,h9⟩
  .cases hs
 .rename_i b e1;split at hs
  .rename_i hz;subst hz;cases hs;rw[e1]at h1;obtain⟨s,h2,rfl⟩:=Rel.str_inv h1;rw[h2];have:s.data.toList.length=s.size:=by simp
   rw[this];exact⟨_,aHO,uC _,yD _⟩
  .cases hs
 .cases hs
theorem aAg(h:SR Ω D M G σ a.tmps w){y:Operand}{y':Opd}{av:List Nat}{zs:List V}{m:Nat}{news:List V}{td:TypeDesc}{i:TypeInfo}{zv:Value}{e:TypeId}(hi:P.info? e=some i)(hz:i.zero=some zv)(hzl:zv.cells.size=i.size)(hpos:0<i.size)
  (hk:(zs=[]/\∀k,td≠.int k)\/(zs≠[]/\(∃k,td=.int k)/\fC P e=some zs)) (hm:m*i.bytes<=140737488355328/\m<=9223372036854775807) (hy:aJ y=some y') (hs:iS (get σ.env) av i.size zs (ev (get σ.env) y')=some (m,news)) :
  ∃ns,aHu P w td i (a.eval y) m ns/\RelL w (At G σ.tips σ.lk w) G.bxB news ns/\aC news=[]:=by
 rcases hk with⟨rfl,hk⟩|⟨hne,⟨k,rfl⟩,hzz⟩
 .obtain⟨ns,k1,k2,k3⟩:=aCX (P:=P) h hy hs;exact⟨ns,.inl ⟨hk,k1⟩,k2,k3⟩
 .have h1:=h.opd hy;cases zs with
  |nil=>exact absurd rfl hne
  |cons u r=>
   unfold iS at hs;simp only at hs;split at hs
   .rename_i n e1;split at hs
    .rename_i hc;cases hs;rw[e1]at h1;have h2:=Rel.int_inv h1;obtain⟨i',z,q1,q2,q3,q4,q5⟩:=fW hzz;obtain rfl:i=i':=by rw[hi]at q1;cases q1;rfl
     obtain rfl:zv=z:=by rw[hz]at q2;cases q2;rfl
     have hcells:(Builtin.zeroCells zv.cells n.toNat).toList=(List.replicate n.toNat zv.cells.toList).flatten:=fJ _ _;refine⟨_,.inr ⟨k,zv,rfl,?_,hz,rfl,hzl,hpos,hm.2,hm.1⟩,?_,?_⟩
     .rw[h2];congr 1;omega
     .rw[hcells];exact(dQ q5).flatten_replicate _
     · exact cW.2 fun v hv => by
         obtain⟨l,hl,hv⟩:=List.mem_flatten.1 hv;rw[(List.mem_replicate.1 hl).2]at hv;exact cW.1 (iW q5).1 v hv
    .cases hs
   .cases hs
theorem qU{t u e:TypeId}{i:TypeInfo}{ud:TypeDesc}(ht:P.underlying t=some (.slice e))(hu:P.underlying u=some ud)(hi:P.info? e=some i){ty:TypeId}
  {x:Value} {news:List Value} (hs:aHu P w ud i x 0 news) :
  (Builtin.append_ #[t,u] ty #[.slice none 0 0,x]).run P w=.ok (.slice none 0 0) w:=by
 rcases hs with⟨hud,hs⟩|⟨k,zv,rfl,rfl,hzv,rfl,hzs,hpos,hm,hb⟩
 .have hz:(match ud with|.int _=>true|_=>false)=false:=by cases ud<;>first|rfl|exact absurd rfl (hud _)
  unfold Builtin.append_;simp only[List.getElem?_toArray,List.getElem?_cons_zero,List.getElem?_cons_succ,Sem.run_bind,run_underlying ht,Result.andThen_ok];simp[sizeOf,typeInfo,hi,run_underlying hu,hs.1,hs.2.1 w rfl]
 .unfold Builtin.append_;simp only[List.getElem?_toArray,List.getElem?_cons_zero,List.getElem?_cons_succ,Sem.run_bind,run_underlying ht,Result.andThen_ok];simp[sizeOf,typeInfo,hi,run_underlying hu,asInt,gF,aDj]
theorem gG(w:World)(ob:Obj):Calm w (w.drew.alloc ob):=
 ⟨(Calm.alloc w.drew ob).os,(Calm.alloc w.drew ob).tape,(Calm.alloc w.drew ob).output,(Calm.alloc w.drew ob).size,(Calm.alloc w.drew ob).block⟩
theorem grown_size{olds news:List Value}{z:Value}{e:TypeId}{n m cap size:Nat}(hz:z.cells.size=size)(h1:olds.length=n*size)(h2:news.length=m*size) :
  (olds.toArray++news.toArray++Builtin.zeroCells z.cells (grownCap w (n+m) cap e-(n+m))).size=grownCap w (n+m) cap e*size/\
   (olds.toArray++news.toArray++Builtin.zeroCells z.cells (grownCap w (n+m) cap e-(n+m))).toList.take ((n+m)*size)=olds++news:=by
 have hge:=grownCap_ge w (n+m) cap e;constructor
 .simp only[Array.size_append,List.size_toArray,size_zeroCells,hz,h1,h2,<-Nat.add_mul];congr 1;omega
 .have:(olds++news).length=(n+m)*size:=by rw[List.length_append,h1,h2,Nat.add_mul]
  rw[<-this,Array.toList_append,Array.toList_append,List.toList_toArray,List.toList_toArray,List.take_left]
theorem SR.made(h:SR Ω D M G σ a.tmps w){nm b:Nat}(hz:G.Z b=.fam nm):∀d',M d'->¬(D d'\/d'=d)->aQ d' 0≠nm:=fun d' hm hn he=>by
 subst he;exact h.newD d' hm (fun hd=>hn (.inl hd)) b hz
theorem yG{d bytes:Nat}{cut:Bool}{z:Nat}{s:V}{m:Nat}{news:List V}{σ σ':St}(h:append2 σ d bytes cut z s m news=some σ'):m*bytes<=140737488355328/\m<=9223372036854775807:=by
 have key:∀n:Nat,(n+m)*bytes<=140737488355328->n+m<=9223372036854775807->m*bytes<=140737488355328/\m<=9223372036854775807:=fun n h1 h2=>
  ⟨Nat.le_trans (Nat.mul_le_mul_right _ (by omega)) h1,by omega⟩
 unfold append2 at h;split at h
 .split at h
  .rename_i hc;exact⟨hc.1,hc.2.1⟩
  .cases h
 .split at h
  .rename_i hc;exact key _ hc.2.2.1 hc.2.2.2
  .cases h
 .split at h
  .rename_i hc;exact key _ hc.2.2.2.2.1 hc.2.2.2.2.2
  .cases h
 .cases h
theorem aAh{t u e:TypeId}{x y:Operand}{x' y':Opd}{i:TypeInfo}{zv:Value}{td:TypeDesc}{cut:Bool}{zs:List V}{m:Nat}{news:List V}{av:List Nat}{σ':St}(h:SR Ω D M G σ a.tmps w)
  (hop:o.op=.call {callee:=.builtin .append,args:=#[x,y],argTypes:=#[t,u]}) (ht:P.underlying t=some (.slice e)) (hu:P.underlying u=some td) (hi:P.info? e=some i) (hz:i.zero=some zv) (hzs:zv.cells.size=i.size) (hpos:0<i.size)
  (hx:aJ x=some x') (hy:aJ y=some y') (hk:(zs=[]/\∀k,td≠.int k)\/(zs≠[]/\(∃k,td=.int k)/\fC P e=some zs)) (hsrc:iS (get σ.env) av i.size zs (ev (get σ.env) y')=some (m,news)) (hok:news.all V.ok1=true)
  (ha:append2 σ d i.bytes cut i.size (ev (get σ.env) x') m news=some σ') (hd:o.dst=some d) (hs:d<a.tmps.size) :
  pT Ω P D M G a o w σ':=by
 have hmb:m*i.bytes<=140737488355328/\m<=9223372036854775807:=yG ha;obtain⟨ns,s1,s2,s3⟩:=aAg (P:=P) h hi hz hzs hpos hk hmb hy hsrc;have hone:=s2.one hok;have hxr:=h.opd hx;have fin:∀{c:Value} {w':World},(Builtin.append_ #[t,u] o.type #[a.eval x,a.eval y]).run P w=.ok c w'->(execOp a.eval o).run P w=.ok (.value c) w':=fun{c w'} hr=>by
  unfold execOp;simp[hop,resolve,invoke,builtin,hr]
 unfold append2 at ha;split at ha
 ·
  rename_i e1;rw[e1]at hxr;have hxv:=Rel.nils_inv hxr;split at ha
  .rename_i hc;obtain⟨c1,c2,c3⟩:=hc;split at ha
   .rename_i hm;subst hm;cases ha;refine⟨_,_,_,.inl (fin ?_),by rw[cG a hd];exact(h.put (v:=.nils) (c:=.slice none 0 0) hs .nils).mono fun s=>(fD hd s).1,Fr.refl G w⟩;rw[hxv];exact qU ht hu hi s1
   .rename_i hm;cases ha;have hrun:=run_append_out (P:=P) (w:=w) (ty:=o.type) ht hu hi hz (b:=none) (n:=0) (cap:=0) (m:=m) aDi s1 (by omega) (by omega) (by rw[Nat.zero_add];exact c1);obtain⟨g1,g2⟩:=grown_size (w:=w) (e:=e) (cap:=0) (n:=0) (m:=m) (olds:=[]) hzs (by simp) s1.len;rw[<-hxv]at hrun;simp only[Nat.zero_add]at hrun g1 g2;obtain⟨G',k1,k2⟩:=h.reborn (d:=d) (nm:=aQ d 0) (lk':=upd σ.lk (aQ d 0) false) (n:=m) (z:=i.size) (cs:=news) (gG w _) (Go.heap_alloc_new w.drew _)
     (fun d' _ hn he=>hn (.inr (mP (by omega) (by omega) he).1)) hs hpos (grownCap_ge w m 0 e) (grownCap_le_maxLen _ _ _ _ (by simp[maxLen];omega)) g1 (fun q hq hl=>by rw[aO _ _ hq];exact hl)
     (fun q hq=>by rw[aO _ _ (by unfold aQ;omega)];exact h.shared q hq) (by rw[g2];simpa using s2) s3
    exact⟨_,_,G',.inl (fin hrun),by rw[cG a hd];exact k1.mono fun s=>(fD hd s).1,k2⟩
  .cases ha
 ·
  rename_i nm k z' n cs e1;rw[e1]at hxr;split at ha
  .rename_i hc;obtain⟨rfl,rfl,c1,c2⟩:=hc;cases ha;obtain⟨b,cap,xs,p1,p2,p3,p4,p5,p6,p7,p8,p9⟩:=Rel.sl_inv hxr;obtain⟨_,hrd,htip⟩:=p2;obtain⟨⟨t1,t2,cur,e0,t3,t4⟩,t5,t6⟩:=htip rfl;subst t2;have hzf:G.Z (G.famB nm)=.fam nm:=t1;have hxc:xs.length<=cur.size:=by rw[p4,t4];exact Nat.mul_le_mul_right _ p5
   have hpre:=qT p7 t3.choose_spec.1 hxc;rw[p4]at hpre;by_cases hroom:n+m<=cap
   .have hrun:=mO (P:=P) (w:=w) (ty:=o.type) ht hu hi t3 s1 hone hroom t4;rw[<-p1]at hrun;have hfit:(n+m)*i.size<=cur.size:=by rw[t4];exact Nat.mul_le_mul_right _ hroom
    have hnl:ns.length=m*i.size:=s1.len;have hadd:(n+m)*i.size=n*i.size+ns.length:=by rw[hnl,Nat.add_mul]
    have hsz:(cur.toList.take (n*i.size)++ns++cur.toList.drop (n*i.size+ns.length)).toArray.size=cur.size:=by
     simp only[List.size_toArray,List.length_append,List.length_take,List.length_drop,Array.length_toList];omega
    obtain⟨k1,k2,hg⟩:=h.extend (n:=(n+m)*i.size) (T':=upd σ.tips nm (σ.tips nm+1)) (news:=(cur.toList.take (n*i.size)++ns++cur.toList.drop (n*i.size+ns.length)).toArray) hzf t3 hsz
     (fun j hj=>by
      rw[<-t5,<-t6]at hj;rw[List.getElem?_toArray,List.append_assoc,List.getElem?_append_left (by rw[List.length_take];simp only[Array.length_toList];omega),List.getElem?_take,if_pos hj,Array.getElem?_toList]) (by rw[<-t5,<-t6];exact Nat.mul_le_mul_right _ (by omega)) hfit (fun q hq=>aO _ _ hq) (by rw[bT];omega)
    have hnew:=cb_set (w:=w) t3 hsz;have hxl:(xs++ns).length=(n+m)*i.size:=by rw[List.length_append,p4,hadd]
    have hrow:Row (w.setRow (G.famB nm) (cur.toList.take (n*i.size)++ns++cur.toList.drop (n*i.size+ns.length)).toArray) ⟨G.famB nm,0,none⟩ (xs++ns):=by
     have:=pU (cR hnew.choose_spec.1) ((n+m)*i.size);rw[hpre]at this ⊢;rw[<-hxl,List.toList_toArray,List.take_left]at this;exact this
    have hvr:Rel (w.setRow (G.famB nm) (cur.toList.take (n*i.size)++ns++cur.toList.drop (n*i.size+ns.length)).toArray) (At {G with ext:=upd G.ext nm ((n+m)*i.size)} (upd σ.tips nm (σ.tips nm+1)) σ.lk (w.setRow (G.famB nm) (cur.toList.take (n*i.size)++ns++cur.toList.drop (n*i.size+ns.length)).toArray)) G.bxB (.sl (.own nm (σ.tips nm+1)) i.size (n+m) (cs++news)) (.slice (some ⟨G.famB nm,0,none⟩) (n+m) cap):=by
     refine Rel.sl _ _ _ _ ⟨G.famB nm,0,none⟩ cap (xs++ns) ?_ hpos hxl hroom p6 hrow ((p8.append s2).keep hg.keeps) (by rw[cT,p9,s3];rfl);rw[hxl];refine⟨by rw[bT];exact Nat.le_refl _,.inr ⟨hzf,?_⟩,fun _=>⟨⟨hzf,rfl,_,e0,hnew,by rw[hsz];exact t4⟩,?_,rfl⟩⟩
     .show 0+_<=upd G.ext nm ((n+m)*i.size) nm;rw[bT];omega
     .show _=upd G.ext nm ((n+m)*i.size) nm;rw[bT]
    exact⟨_,_,_,.inl (fin hrun),by rw[cG a hd];exact(k1.put (v:=.sl (.own nm (σ.tips nm+1)) i.size (n+m) (cs++news)) hs hvr).mono fun s=>(fD hd s).1,k2⟩
   .have hrun:=run_append_out (P:=P) (w:=w) (ty:=o.type) ht hu hi hz (b:=some ⟨G.famB nm,0,none⟩) (n:=n) (cap:=cap) (m:=m) (qO p4 p7) s1 (by omega) c2 c1;rw[<-p1]at hrun;obtain⟨g1,g2⟩:=grown_size (w:=w) (e:=e) (cap:=cap) (n:=n) (m:=m) hzs p4 s1.len;obtain⟨G',k1,k2⟩:=h.reborn (d:=d) (nm:=nm) (lk':=σ.lk) (n:=n+m) (z:=i.size) (cs:=cs++news) (gG w _) (Go.heap_alloc_new w.drew _)
     (h.made hzf) hs hpos (grownCap_ge w (n+m) cap e) (grownCap_le_maxLen _ _ _ _ (by simp[maxLen];omega)) g1 (fun _ _ hl=>hl) h.shared (by rw[g2];exact p8.append s2) (by rw[cT,p9,s3];rfl)
    exact⟨_,_,G',.inl (fin hrun),by rw[cG a hd];exact k1.mono fun s=>(fD hd s).1,k2⟩
  .cases ha
 ·
  rename_i nm k z' n cs e1;rw[e1]at hxr;split at ha
  .rename_i hc;obtain⟨_,rfl,rfl,hlk,c1,c2⟩:=hc;cases ha;obtain⟨b,cap,xs,p1,p2,p3,p4,p5,p6,p7,p8,p9⟩:=Rel.sl_inv hxr;obtain⟨_,hrd,htip⟩:=p2;obtain⟨t1,t2,cur,e0,t3,t4⟩:=htip rfl;subst t2;have hzf:G.Z (G.famB nm)=.fam nm:=t1;obtain⟨cur',e',q1,q2⟩:=h.ok.famC _ _ hzf;obtain rfl:cur=cur':=cb_uniq t3 q1;have hxc:xs.length<=cur.size:=by rw[p4,t4];exact Nat.mul_le_mul_right _ p5
   have hpre:=qT p7 t3.choose_spec.1 hxc;rw[p4]at hpre;have hnn:aC (cs++news)=[]:=by rw[cT,p9,s3];rfl
   have hown:∀{G' T' w'},aFi nm (σ.tips nm+1) [] w' (At G σ.tips σ.lk w) (At G' T' σ.lk w') G.bxB:=fun{G' T' w'}=>⟨rfl,fun a' len' z' n' cap' hA=>absurd hA.1 (by omega)⟩
   by_cases hroom:n+m<=cap
   .have hrun:=mO (P:=P) (w:=w) (ty:=o.type) ht hu hi t3 s1 hone hroom t4;rw[<-p1]at hrun;have hfit:(n+m)*i.size<=cur.size:=by rw[t4];exact Nat.mul_le_mul_right _ hroom
    have hnl:ns.length=m*i.size:=s1.len;have hadd:(n+m)*i.size=n*i.size+ns.length:=by rw[hnl,Nat.add_mul]
    have hsz:(cur.toList.take (n*i.size)++ns++cur.toList.drop (n*i.size+ns.length)).toArray.size=cur.size:=by
     simp only[List.size_toArray,List.length_append,List.length_take,List.length_drop,Array.length_toList];omega
    have hnew:=cb_set (w:=w) t3 hsz;obtain⟨k1,k2,hkn⟩:=h.rewrite (k:=σ.tips nm+1) (n:=(n+m)*i.size) (cs':=[]) (T':=upd σ.tips nm (σ.tips nm+1)) (lk':=σ.lk) hlk (fun _ hm=>hm) (Only.setRow w _ _) hzf hnew (by rw[hsz];exact hfit) (fun q hq=>aO _ _ hq) hown;have hxl:(xs++ns).length=(n+m)*i.size:=by rw[List.length_append,p4,hadd]
    have hrow:Row (w.setRow (G.famB nm) (cur.toList.take (n*i.size)++ns++cur.toList.drop (n*i.size+ns.length)).toArray) ⟨G.famB nm,0,none⟩ (xs++ns):=by
     have:=pU (cR hnew.choose_spec.1) ((n+m)*i.size);rw[hpre]at this ⊢;rw[<-hxl,List.toList_toArray,List.take_left]at this;exact this
    have hvr:Rel (w.setRow (G.famB nm) (cur.toList.take (n*i.size)++ns++cur.toList.drop (n*i.size+ns.length)).toArray) (At {G with ext:=upd G.ext nm ((n+m)*i.size)} (upd σ.tips nm (σ.tips nm+1)) σ.lk (w.setRow (G.famB nm) (cur.toList.take (n*i.size)++ns++cur.toList.drop (n*i.size+ns.length)).toArray)) G.bxB (.sl (.own nm (σ.tips nm+1)) i.size (n+m) (cs++news)) (.slice (some ⟨G.famB nm,0,none⟩) (n+m) cap):=by
     refine Rel.sl _ _ _ _ ⟨G.famB nm,0,none⟩ cap (xs++ns) ?_ hpos hxl hroom p6 hrow ((p8.append s2).keepN hkn (by rw[hnn];simp)) hnn;rw[hxl];refine⟨by rw[bT];exact Nat.le_refl _,.inr ⟨hzf,?_⟩,fun _=>⟨⟨hzf,rfl,_,e0,hnew,by rw[hsz];exact t4⟩,?_,rfl⟩⟩
     .show 0+_<=upd G.ext nm ((n+m)*i.size) nm;rw[bT];omega
     .show _=upd G.ext nm ((n+m)*i.size) nm;rw[bT]
    exact⟨_,_,_,.inl (fin hrun),by rw[cG a hd];exact(k1.put (v:=.sl (.own nm (σ.tips nm+1)) i.size (n+m) (cs++news)) hs hvr).mono fun s=>(fD hd s).1,k2⟩
   .have hrun:=run_append_out (P:=P) (w:=w) (ty:=o.type) ht hu hi hz (b:=some ⟨G.famB nm,0,none⟩) (n:=n) (cap:=cap) (m:=m) (qO p4 p7) s1 (by omega) c2 c1;rw[<-p1]at hrun;obtain⟨g1,g2⟩:=grown_size (w:=w) (e:=e) (cap:=cap) (n:=n) (m:=m) hzs p4 s1.len;obtain⟨k1,k2,hkn⟩:=h.rewrite (k:=σ.tips nm+1) (n:=G.ext nm) (cs':=[]) (T':=σ.tips) (lk':=σ.lk) hlk (fun _ hm=>hm) (Only.same w _) hzf t3 q2 (fun _ _=>rfl) hown;obtain⟨G',k3,k4⟩:=k1.reborn (d:=d) (nm:=nm) (lk':=σ.lk) (n:=n+m) (z:=i.size) (cs:=cs++news) (gG w _) (Go.heap_alloc_new w.drew _)
     (h.made hzf) hs hpos (grownCap_ge w (n+m) cap e) (grownCap_le_maxLen _ _ _ _ (by simp[maxLen];omega)) g1 (fun _ _ hl=>hl) h.shared (by rw[g2];exact(p8.append s2).keepN hkn (by rw[hnn];simp)) hnn
    exact⟨_,_,G',.inl (fin hrun),by rw[cG a hd];exact k3.mono fun s=>(fD hd s).1,k2.trans h.ok k4⟩
  .cases ha
 .cases ha
end
end Go.VM
namespace Go.VM
open Go.RowKit
variable{Ω:World->Prop}
def VOp.calls:VOp->Bool
 |.call ..|.callv ..=>true
 |_=>false
def VOp.rowed:VOp->Bool
 |.bslice ..|.mkslice ..|.toBytes _=>true
 |_=>false
section
variable{cf:cO}{sg:Nat->Sig}{σ:St}{t0:Nat->Nat}
def yH(σ:St)(t0:Nat->Nat)(dst:Option Nat)(vo:VOp):Option St:=
 match dst with
 |some d=>match aB (get σ.env) t0 σ.clk σ.bx d vo with
  |some v=>some {σ with env:=set σ.env d v}
  |none=>none
 |none=>none
theorem jU{vo:VOp}(hp:vo.isP=true)(dst:Option Nat):aU cf sg σ t0 dst vo=yH σ t0 dst vo:=by
 cases vo with
 |bslice lky z n zs ps=>cases lky with|true=>cases hp|false=>rfl
 |store=>cases hp
 |call=>cases hp
 |callv=>cases hp
 |allocB=>cases hp
 |boxB=>cases hp
 |append=>cases hp
 |_=>rfl
theorem cE{vo:VOp}(hp:vo.isP=true){dst:Option Nat}{σ':St}(h:aU cf sg σ t0 dst vo=some σ') :
  ∃d v,dst=some d/\aB (get σ.env) t0 σ.clk σ.bx d vo=some v/\σ'={σ with env:=set σ.env d v}:=by
 rw[jU hp]at h;cases dst with
 |none=>cases h
 |some d=>
  simp only[yH]at h;cases hv:aB (get σ.env) t0 σ.clk σ.bx d vo with
  |none=>rw[hv]at h;cases h
  |some v=>rw[hv]at h;cases h;exact⟨d,v,rfl,hv,rfl⟩
end
section
variable{P:Program}{D M:Nat->Prop}{G:Gh}{σ:St}{a:Act}{w:World}{o:Oper}{t0:Nat->Nat}{hh:Hints}{cf:cO}{sg:Nat->Sig}
theorem aCY(h:SR Ω D M G σ a.tmps w){t:TypeId}(hop:o.op=.alloc t){vo:VOp}(hc:aE P hh o.dst (.alloc t)=some vo){σ':St}(hs:aU cf sg σ t0 o.dst vo=some σ')(hsz:∀d,o.dst=some d->d<a.tmps.size)(hD:∀d,o.dst=some d->¬D d) :
  pT Ω P D M G a o w σ':=by
 simp only[aE]at hc;split at hc
 .rename_i zs hz;split at hc
  .cases hc;simp only[aU]at hs;cases hd:o.dst with
   |none=>rw[hd]at hs;cases hs
   |some d=>rw[hd]at hs;cases hs;exact aAd h hop hz hd (hsz d hd)
  .cases hc;obtain⟨d,v,hd,hv,rfl⟩:=cE rfl hs;cases hv;exact aAc h hop hz hd (hsz d hd) (hD d hd)
 .cases hc
theorem aFn(h:SR Ω D M G σ a.tmps w){t:TypeId}{x:Operand}(hop:o.op=.box t x){vo:VOp}(hc:aE P hh o.dst (.box t x)=some vo){σ':St}(hs:aU cf sg σ t0 o.dst vo=some σ')(hsz:∀d,o.dst=some d->d<a.tmps.size)(hD:∀d,o.dst=some d->¬D d) :
  pT Ω P D M G a o w σ':=by
 simp only[aE]at hc;split at hc
 .rename_i sz y hz hy;split at hc
  .cases hc;simp only[aU]at hs;cases hd:o.dst with
   |none=>rw[hd]at hs;cases hs
   |some d=>
    rw[hd]at hs;simp only at hs;split at hs
    .rename_i hf;cases hs;exact aDo h hop hy hf hd (hsz d hd)
    .cases hs
  .cases hc;obtain⟨d,v,hd,hv,rfl⟩:=cE rfl hs;simp only[aB]at hv;split at hv
   .rename_i hf;cases hv;exact aDn h hop hy hf hd (hsz d hd) (hD d hd)
   .cases hv
 .cases hc
theorem qV(h:SR Ω D M G σ a.tmps w){t:TypeId}{len:Nat}{parts:Array (Nat×Operand)}(hop:o.op=.buildSlice t len parts){vo:VOp}(hc:aE P hh o.dst (.buildSlice t len parts)=some vo){σ':St}(hs:aU cf sg σ t0 o.dst vo=some σ')
  (hsz:∀d,o.dst=some d->d<a.tmps.size) (hD:∀d,o.dst=some d->¬D d) (hM:∀d,o.dst=some d->vo.rowed=true->M d) (ht:∀nm,t0 nm<=σ.tips nm):pT Ω P D M G a o w σ':=by
 simp only[aE]at hc;split at hc
 .rename_i e hu;split at hc
  .rename_i z zs hz hzz;split at hc
   .rename_i hl;cases hq:jJ z parts.toList with
    |none=>rw[hq]at hc;cases hc
    |some qs=>
     rw[hq]at hc;cases hc;cases hb:aBd P 20 e with
     |true=>
      rw[hb]at hs;obtain⟨d,v,hd,hv,rfl⟩:=cE rfl hs;simp only[Bool.not_true,aB]at hv;split at hv
      .rename_i cs hf;split at hv
       .rename_i hcc;cases hv;exact aAe h hop hu hz hzz hl hq hf hcc.1 hcc.2.1 hcc.2.2 hd (hsz d hd) (hD d hd) (hM d hd rfl) (ht _)
       .cases hv
      .cases hv
     |false=>
      rw[hb]at hs;simp only[Bool.not_false,aU]at hs;split at hs
      .rename_i d cs hd hf;split at hs
       .rename_i hcc;cases hs;exact qS h hop hu hz hzz hl hq hf hcc.1 hcc.2.1 hcc.2.2 hd (hsz d hd) (hD d hd) (hM d hd rfl) (ht _)
       .cases hs
      .cases hs
   .cases hc
  .cases hc
 .cases hc
theorem tF(h:SR Ω D M G σ a.tmps w){t:TypeId}{l c:Operand}(hop:o.op=.makeSlice t l c){vo:VOp}(hc:aE P hh o.dst (.makeSlice t l c)=some vo){σ':St}(hs:aU cf sg σ t0 o.dst vo=some σ')
  (hsz:∀d,o.dst=some d->d<a.tmps.size) (hD:∀d,o.dst=some d->¬D d) (hM:∀d,o.dst=some d->vo.rowed=true->M d) (ht:∀nm,t0 nm<=σ.tips nm):pT Ω P D M G a o w σ':=by
 simp only[aE]at hc;split at hc
 .rename_i e l' c' hu hl hcc;split at hc
  .rename_i i zs hi hz;cases hc;obtain⟨d,v,hd,hv,rfl⟩:=cE rfl hs;simp only[aB]at hv;split at hv
   .rename_i lv cv el ec;split at hv
    .rename_i hg;cases hv;exact yC h hop hu hi hz hl hcc el ec hg hd (hsz d hd) (hD d hd) (hM d hd rfl) (ht _)
    .cases hv
   .cases hv
  .cases hc
 .cases hc
theorem aCZ(h:SR Ω D M G σ a.tmps w){t:TypeId}{x y:Operand}(hop:o.op=.store t x y){vo:VOp}(hc:aE P hh o.dst (.store t x y)=some vo){σ':St}(hs:aU cf sg σ t0 o.dst vo=some σ'):pT Ω P D M G a o w σ':=by
 simp only[aE]at hc;split at hc
 .rename_i sz x' y' hz hx hy;split at hc
  .cases hc;simp only[aU]at hs;cases hd:o.dst with
   |some d=>rw[hd]at hs;cases hs
   |none=>
    rw[hd]at hs;simp only[storeAt]at hs;split at hs
    .rename_i s s' c off e1 e2;split at hs
     .rename_i c' n cs e3;split at hs
      .rename_i hcc;obtain⟨rfl,rfl,hf⟩:=hcc;cases hs;exact xZ h hop hz hx hy e2 e3 hf hd
      .cases hs
     .cases hs
    .rename_i b off e1 e2;split at hs
     .rename_i cs e3;split at hs
      .rename_i hf;cases hs;exact yA h hop hz hx hy e2 e3 hf hd
      .cases hs
     .cases hs
    .rename_i av nm k cs off e1 e2;split at hs
     .rename_i hcc;obtain⟨rfl,hlk,hnm,hf⟩:=hcc;cases hs;exact yF h hop hz hx hy e2 hlk hnm hf hd
     .cases hs
    .cases hs
  .cases hc
 .cases hc
theorem qW(h:SR Ω D M G σ a.tmps w){vo:VOp}(hc:aE P hh o.dst o.op=some vo)(hp:vo.isP=true)(hm:vo.makesS=false){σ':St}(hs:aU cf sg σ t0 o.dst vo=some σ')(hsz:∀d,o.dst=some d->d<a.tmps.size):pT Ω P D M G a o w σ':=by
 obtain⟨d,v,hd,hv,rfl⟩:=cE hp hs;exact aFm h hd (hsz d hd) (aFl h hc hp hm hv)
theorem yI(h:SR Ω D M G σ a.tmps w){src dst:TypeId}{x:Operand}(hop:o.op=.convert src dst x){vo:VOp}(hc:aE P hh o.dst (.convert src dst x)=some vo){σ':St}(hs:aU cf sg σ t0 o.dst vo=some σ')(hsz:∀d,o.dst=some d->d<a.tmps.size)(hD:∀d,o.dst=some d->¬D d)(hM:∀d,o.dst=some d->vo.rowed=true->M d)(ht:∀nm,t0 nm<=σ.tips nm):pT Ω P D M G a o w σ':=by
 by_cases hm:vo.makesS=true
 .simp only[aE]at hc;split at hc
  .cases hc;cases hm
  .cases hc;cases hm
  .split at hc
   .cases hc;cases hm
   .cases hc
  .rename_i e y hsr hde hy;split at hc
   .rename_i he;cases hc;obtain⟨d,v,hd,hv,rfl⟩:=cE rfl hs;simp only[aB]at hv;split at hv
    .rename_i s e1;split at hv
     .rename_i hl;cases hv;exact yE h hop hy hsr hde he e1 (by simp only[maxLen];omega) hd (hsz d hd) (hD d hd) (hM d hd rfl) (ht _)
     .cases hv
    .cases hv
   .cases hc
  .cases hc
 · have hp : vo.isP = true := by
     simp only[aE]at hc;split at hc
     .cases hc;rfl
     .cases hc;rfl
     .split at hc
      .cases hc;rfl
      .cases hc
     .split at hc
      .cases hc;rfl
      .cases hc
     .cases hc
   exact qW h (by rw[hop];exact hc) hp (by simpa using hm) hs hsz
theorem qX{α:Type}{xs:Array α}{x y:α}(h:xs.toList=[x,y]):xs=#[x,y]:=Array.ext' (by simpa using h)
theorem aAi(h:SR Ω D M G σ a.tmps w){c:Call}(hop:o.op=.call c){vo:VOp}(hc:aE P hh o.dst (.call c)=some vo)(hn:vo.calls=false){σ':St}(hs:aU cf sg σ t0 o.dst vo=some σ')(hsz:∀d,o.dst=some d->d<a.tmps.size):pT Ω P D M G a o w σ':=by
 have hc0:=hc;by_cases hp:vo.isP=true/\vo.makesS=false
 .exact qW h (by rw[hop];exact hc) hp.1 hp.2 hs hsz
 .obtain⟨callee,args,argTypes⟩:=c;simp only[aE]at hc;split at hc
  .cases hx:eE args.toList with
   |none=>rw[hx]at hc;cases hc
   |some ys=>rw[hx]at hc;cases hc;cases hn
  .split at hc
   .cases hc;cases hn
   .cases hc
  .split at hc
   .rename_i t u x y ht hx;have e1:=qX ht;have e2:=qX hx;subst e1 e2
    have fin : ∀ {e : TypeId} {s' x' : Opd} {td : TypeDesc} {i : TypeInfo}, P.underlying t = some (.slice e) → P.underlying u = some td → (zs : List V) → ((zs = [] ∧ ∀ k, td ≠ .int k) ∨ (zs ≠ [] ∧ (∃ k, td = .int k) ∧ fC P e = some zs)) → aJ x = some s' → aJ y = some x' → P.info? e = some i →
        (match i.zero with
         |some zv=>if zv.cells.size=i.size/\0<i.size then some (VOp.append i.size i.bytes ((o.dst.map hh.cut.contains).getD false) zs s' x' (aF4 hh o.dst))else none
         |none=>none)=some vo->pT Ω P D M G a o w σ':=by
     intro e s' x' td i h1 h2 zs h3 h4 h5 h6 h7;split at h7
     .rename_i zv hz;split at h7
      .rename_i hzs;cases h7;simp only[aU]at hs;split at hs
       .rename_i d m news hd hsrc;split at hs
        .rename_i hk;exact aAh h hop h1 h2 h6 hz hzs.1 hzs.2 h4 h5 h3 hsrc hk.1 hs hd (hsz d hd)
        .cases hs
       .cases hs
      .cases h7
     .cases h7
    split at hc
    .rename_i e e' s' x' h1 h2 h3 h4;cases hi:P.info? e with
     |none=>rw[hi]at hc;cases hc
     |some i=>
      rw[hi]at hc;exact fin h1 h2 [] (.inl ⟨rfl,by simp⟩) h3 h4 hi hc
    .rename_i e s' x' h1 h2 h3 h4;cases hi:P.info? e with
     |none=>rw[hi]at hc;cases hc
     |some i=>
      rw[hi]at hc;exact fin h1 h2 [] (.inl ⟨rfl,by simp⟩) h3 h4 hi hc
    .rename_i e k s' x' h1 h2 h3 h4;cases hi:P.info? e with
     |none=>rw[hi]at hc;cases hc
     |some i=>
      rw[hi]at hc;simp only[Option.bind_some]at hc;split at hc
      .rename_i zv zs hz hzs;split at hc
       .rename_i hcc;refine fin h1 h2 zs (.inr ⟨hcc.2.2,⟨k,rfl⟩,hzs⟩) h3 h4 hi ?_;simp only[hz];rw[if_pos ⟨hcc.1,hcc.2.1⟩];exact hc
       .cases hc
      .cases hc
    .cases hc
   .cases hc
  .split at hc
   .split at hc
    .cases hc;exact absurd ⟨rfl,rfl⟩ hp
    .cases hc;exact absurd ⟨rfl,rfl⟩ hp
    .cases hc;exact absurd ⟨rfl,rfl⟩ hp
    .cases hc
   .cases hc
  .split at hc
   .cases hc;exact absurd ⟨rfl,rfl⟩ hp
   .cases hc
  .split at hc
   .cases hc;exact absurd ⟨rfl,rfl⟩ hp
   .cases hc
  .cases hc
theorem aHP(h:SR Ω D M G σ a.tmps w){vo:VOp}(hc:aE P hh o.dst o.op=some vo)(hn:vo.calls=false){σ':St}(hs:aU cf sg σ t0 o.dst vo=some σ')(hsz:∀d,o.dst=some d->d<a.tmps.size)
  (hD:∀d,o.dst=some d->¬D d) (hM:∀d,o.dst=some d->vo.rowed=true->M d) (ht:∀nm,t0 nm<=σ.tips nm):pT Ω P D M G a o w σ':=by
 have pureCase:∀{op:Op},o.op=op->(∀vo,aE P hh o.dst op=some vo->vo.isP=true/\vo.makesS=false)->pT Ω P D M G a o w σ':=fun hop hq=>by
  obtain⟨h1,h2⟩:=hq vo (by rw[<-hop];exact hc);exact qW h hc h1 h2 hs hsz
 cases hop:o.op with
 |alloc t=>rw[hop]at hc;exact aCY h hop hc hs hsz hD
 |box t x=>rw[hop]at hc;exact aFn h hop hc hs hsz hD
 |buildSlice t l ps=>rw[hop]at hc;exact qV h hop hc hs hsz hD hM ht
 |makeSlice t l c=>rw[hop]at hc;exact tF h hop hc hs hsz hD hM ht
 |store t x y=>rw[hop]at hc;exact aCZ h hop hc hs
 |convert s t x=>rw[hop]at hc;exact yI h hop hc hs hsz hD hM ht
 |call c=>rw[hop]at hc;exact aAi h hop hc hn hs hsz
 |slice t x lo hi mx=>
  cases mx with
  |none=>
   exact pureCase hop (by
   intro vo hc;simp only[aE]at hc
   repeat' first
    |(cases hc;done)
    |(cases hc;exact⟨rfl,rfl⟩)
    |(obtain⟨_,_,rfl⟩:=Option.map_eq_some_iff.1 hc;exact⟨rfl,rfl⟩)
    |split at hc)
  |some m=>rw[hop]at hc;simp only[aE]at hc;cases hc
 |_=>
  exact pureCase hop (by
   intro vo hc;simp only[aE]at hc
   repeat' first
    |(cases hc;done)
    |(cases hc;exact⟨rfl,rfl⟩)
    |(obtain⟨_,_,rfl⟩:=Option.map_eq_some_iff.1 hc;exact⟨rfl,rfl⟩)
    |split at hc)
end
end Go.VM
namespace Go.VM
open Go.RowKit
variable{Ω:World->Prop}
def jV(w w':World)(A A':Pl)(B B':List Nat):Prop:=
 (∀l a len z n cap,l.names=[]->A l a len z n cap->A' l a len z n cap/\∀j,j<len->w'.cell? (a.add j)=w.cell? (a.add j))/\∀(i blk:Nat),B[i]?=some blk->B'[i]?=some blk
mutual
theorem Rel.keepB{w w':World}{A A':Pl}{B B':List Nat}(hk:jV w w' A A' B B'){v:V}{c:Value}(h:Rel w A B v c)(hn:v.names=[]):Rel w' A' B' v c:=by
 cases h with
 |undef=>exact .undef _
 |bool=>exact .bool _
 |int=>exact .int _ _
 |str=>exact .str _
 |nilp=>exact .nilp
 |nilf=>exact .nilf
 |nili=>exact .nili
 |nils=>exact .nils
 |sl l z n cs a cap xs h1 h2 h3 h4 h5 h6 h7 h8=>
  have hl:l.names=[]:=by simpa[V.names]using hn
  exact .sl l z n cs a cap xs (hk.1 _ _ _ _ _ _ hl h1).1 h2 h3 h4 h5 (h6.keep (hk.1 _ _ _ _ _ _ hl h1).2) (RelL.keepB hk h7 h8) h8
 |ep l cs off a z n cap xs h1 h2 h3 h4=>
  have hl:l.names=[]:=by simpa[V.names]using hn
  exact .ep l cs off a z n cap xs (hk.1 _ _ _ _ _ _ hl h1).1 (h2.keep (hk.1 _ _ _ _ _ _ hl h1).2) (RelL.keepB hk h3 h4) h4
 |bp b off blk h1=>exact .bp b off blk (hk.2 _ _ h1)
 |agg cs xs h1=>exact .agg cs xs (RelL.keepB hk h1 (by simpa[V.names]using hn))
 |tup cs xs h1=>exact .tup cs xs (RelL.keepB hk h1 (by simpa[V.names]using hn))
 |fn f a b xs ys h1 h2 h3 h4=>exact .fn f a b xs ys (RelL.keepB hk h1 h3) (RelL.keepB hk h2 h4) h3 h4
 |iface t v c h1 h2=>exact .iface t v c (Rel.keepB hk h1 h2) h2
theorem RelL.keepB{w w':World}{A A':Pl}{B B':List Nat}(hk:jV w w' A A' B B'){vs:List V}{cs:List Value}(h:RelL w A B vs cs)(hn:aC vs=[]):RelL w' A' B' vs cs:=by
 cases h with
 |nil=>exact .nil
 |cons v c vs cs h1 h2=>
  simp only[aC,List.append_eq_nil_iff]at hn;exact .cons v c vs cs (Rel.keepB hk h1 hn.1) (RelL.keepB hk h2 hn.2)
end
def V.labs1:V->List Lab
 |.sl l _ _ _=>[l]
 |.ep l _ _=>[l]
 |_=>[]
def V.labs:V->List Lab
 |.agg cs=>cs.flatMap V.labs1
 |v=>v.labs1
def V.single:V->Bool
 |.agg _|.tup _=>false
 |_=>true
def V.flat:V->Bool
 |.agg cs=>cs.all V.single
 |.tup _=>false
 |_=>true
theorem V.single_of_ok1{v:V}(h:v.ok1=true):v.single=true:=by cases v<;>first|rfl|cases h
theorem V.flat_of_ok{v:V}(h:v.ok=true):v.flat=true:=by
 cases v with
 |agg cs=>
  simp only[V.ok,V.flat,List.all_eq_true]at *;exact fun u hu=>V.single_of_ok1 (h u hu)
 |tup=>cases h
 |_=>rfl
section
variable{w w':World}{A A':Pl}{B B':List Nat}{g:Lab->Lab}
theorem Rel.mapLab1(hk:jV w w' A A' B B'){v:V}{c:Value}(hg:∀l∈v.labs1,∀a len z n cap,A l a len z n cap->A' (g l) a len z n cap/\∀j,j<len->w'.cell? (a.add j)=w.cell? (a.add j))
  (h:Rel w A B v c) (hs:v.single=true):Rel w' A' B' (v.mapLab1 g) c:=by
 have other:v.labs1=[]->v.mapLab1 g=v->v.names=[]->Rel w' A' B' (v.mapLab1 g) c:=fun _ h2 h3=>by rw[h2];exact h.keepB hk h3
 cases h with
 |sl l z n cs a cap xs h1 h2 h3 h4 h5 h6 h7 h8=>
  have hh:=hg l (by simp[V.labs1]) _ _ _ _ _ h1;exact .sl (g l) z n cs a cap xs hh.1 h2 h3 h4 h5 (h6.keep hh.2) (h7.keepB hk h8) h8
 |ep l cs off a z n cap xs h1 h2 h3 h4=>
  have hh:=hg l (by simp[V.labs1]) _ _ _ _ _ h1;exact .ep (g l) cs off a z n cap xs hh.1 (h2.keep hh.2) (h3.keepB hk h4) h4
 |agg=>cases hs
 |tup=>cases hs
 |_=>exact other rfl rfl rfl
theorem Rel.mapLab(hk:jV w w' A A' B B'){v:V}{c:Value}(hg:∀l∈v.labs,∀a len z n cap,A l a len z n cap->A' (g l) a len z n cap/\∀j,j<len->w'.cell? (a.add j)=w.cell? (a.add j))
  (h:Rel w A B v c) (hf:v.flat=true):Rel w' A' B' (v.mapLab g) c:=by
 by_cases hs:v.single=true
 .have:v.mapLab g=v.mapLab1 g:=by cases v<;>first|rfl|cases hs
  rw[this];exact h.mapLab1 hk (fun l hl=>hg l (by cases v<;>first|exact hl|cases hs)) hs
 .cases h with
  |agg cs xs h=>
   simp only[V.flat,List.all_eq_true]at hf;refine .agg _ _ ?_;have:∀(cs:List V) (xs:List Value),RelL w A B cs xs->(∀v∈cs,v.single=true)->(∀l∈cs.flatMap V.labs1,∀a len z n cap,A l a len z n cap->A' (g l) a len z n cap/\∀j,j<len->w'.cell? (a.add j)=w.cell? (a.add j))->RelL w' A' B' (cs.map (V.mapLab1 g)) xs:=by
    intro cs
    induction cs with
    |nil=>intro xs h _ _;cases h;exact .nil
    |cons v r ih=>
     intro xs h h1 h2;cases h with
     |cons _ c _ ys k1 k2=>
      exact .cons _ _ _ _ (k1.mapLab1 hk (fun l hl=>h2 l (by simp[hl])) (h1 v (by simp))) (ih ys k2 (fun u hu=>h1 u (by simp[hu])) fun l hl=>h2 l (by
       rw[List.flatMap_cons];exact List.mem_append.2 (.inr hl)))
   exact this cs _ h hf hg
  |tup=>cases hf
  |_=>exact absurd rfl hs
end
theorem argNm_some{vs:List V}{i nm:Nat}(h:fL vs i=some nm):∃k z n cs,vs[i]?=some (.sl (.own nm k) z n cs):=by
 unfold fL at h;split at h
 .rename_i hv;cases h;exact⟨_,_,_,_,hv⟩
 .cases h
theorem mQ{vs:List V}{i nm k z n:Nat}{cs:List V}(h:vs[i]?=some (.sl (.own nm k) z n cs)):fL vs i=some nm:=by
 unfold fL;rw[h]
theorem yJ{cons:List Nat}{nm k:Nat}{v:V}(h:nm∈dA cons k v):cons.contains k=true/\∃k' z n cs,v=.sl (.own nm k') z n cs:=by
 unfold dA at h;split at h
 .split at h
  .rename_i hc;simp only[List.mem_singleton]at h;subst h;exact⟨hc,_,_,_,_,rfl⟩
  .cases h
 .cases h
theorem dE{cons:List Nat}{nm:Nat}:∀{vs:List V} {k:Nat},nm∈aD cons k vs↔∃i,cons.contains (k+i)=true/\fL vs i=some nm
 |[],k=>by
  constructor
  .intro h;cases h
  .rintro⟨i,_,h⟩;obtain⟨_,_,_,_,h⟩:=argNm_some h;simp at h
 |v::r,k=>by
  simp only[aD,List.mem_append,dE (vs:=r)];constructor
  .rintro(h|⟨i,h1,h2⟩)
   .obtain⟨h1,k',z,n,cs,rfl⟩:=yJ h;exact⟨0,h1,mQ (by rfl)⟩
   · exact ⟨i + 1, by rw [← Nat.add_assoc, Nat.add_right_comm]; exact h1, by
       obtain⟨_,_,_,_,h⟩:=argNm_some h2;exact mQ (by rw[List.getElem?_cons_succ];exact h)⟩
  .rintro⟨i,h1,h2⟩;obtain⟨k',z,n,cs,h⟩:=argNm_some h2;cases i with
   |zero=>
    refine .inl ?_;rw[List.getElem?_cons_zero]at h;cases h;simp only[dA,Nat.add_zero]at h1 ⊢;rw[if_pos h1];simp
   |succ i=>exact .inr ⟨i,by rw[Nat.add_right_comm,Nat.add_assoc];exact h1,mQ (by rw[List.getElem?_cons_succ]at h;exact h)⟩
theorem mR{cons:List Nat}{nm:Nat}:∀{vs:List V} {k i j:Nat},(aD cons k vs).Nodup->cons.contains (k+i)=true->fL vs i=some nm->cons.contains (k+j)=true->fL vs j=some nm->i=j
 |[],k,i,j,_,_,h,_,_=>by
  obtain⟨_,_,_,_,h⟩:=argNm_some h;simp at h
 |v::r,k,i,j,hd,h1,h2,h3,h4=>by
  simp only[aD]at hd;have hd1:=(List.nodup_append.1 hd).2.2;have hd2:=(List.nodup_append.1 hd).2.1;have head:∀{i},i=0->cons.contains (k+i)=true->fL (v::r) i=some nm->nm∈dA cons k v:=fun{i} h0 h1 h2=>by
   subst h0;obtain⟨k',z,n,cs,h⟩:=argNm_some h2;rw[List.getElem?_cons_zero]at h;cases h;simp only[dA,Nat.add_zero]at h1 ⊢;rw[if_pos h1];simp
  have tail:∀{i},cons.contains (k+(i+1))=true->fL (v::r) (i+1)=some nm->cons.contains (k+1+i)=true/\fL r i=some nm:=fun{i} h1 h2=>⟨by rw[Nat.add_right_comm,Nat.add_assoc];exact h1,by
   obtain⟨_,_,_,_,h⟩:=argNm_some h2;exact mQ (by rw[List.getElem?_cons_succ]at h;exact h)⟩
  cases i with
  |zero=>
   cases j with
   |zero=>rfl
   |succ j=>exact absurd rfl (hd1 _ (head rfl h1 h2) _ (dE.2 ⟨j,tail h3 h4⟩))
  |succ i=>
   cases j with
   |zero=>exact absurd rfl (hd1 _ (head rfl h3 h4) _ (dE.2 ⟨i,tail h1 h2⟩))
   |succ j=>rw[mR hd2 (tail h1 h2).1 (tail h1 h2).2 (tail h3 h4).1 (tail h3 h4).2]
def bI(cons:List Nat)(vs:List V)(nm:Nat):Option Nat:=(List.range vs.length).find? fun i=>cons.contains i&&fL vs i==some nm
theorem cS{cons:List Nat}{vs:List V}{nm i:Nat}(h:bI cons vs nm=some i):i<vs.length/\cons.contains i=true/\fL vs i=some nm:=by
 have h1:=List.find?_some h;have h2:=List.mem_of_find?_eq_some h;simp only[Bool.and_eq_true,beq_iff_eq]at h1;exact⟨List.mem_range.1 h2,h1.1,h1.2⟩
theorem gV{cons:List Nat}{vs:List V}{nm:Nat}:bI cons vs nm=none↔nm∉aD cons 0 vs:=by
 constructor
 .intro h hm;obtain⟨i,h1,h2⟩:=dE.1 hm;rw[Nat.zero_add]at h1;have hi:i<vs.length:=by
   unfold fL at h2;split at h2
   .rename_i hv;exact(List.getElem?_eq_some_iff.1 hv).1
   .cases h2
  have:=List.find?_eq_none.1 h i (List.mem_range.2 hi);simp only[Bool.and_eq_true,beq_iff_eq]at this;exact this ⟨h1,h2⟩
 .intro h;cases hu:bI cons vs nm with
  |none=>rfl
  |some i=>
   obtain⟨_,h1,h2⟩:=cS hu;exact absurd (dE.2 ⟨i,by rw[Nat.zero_add];exact h1,h2⟩) h
theorem uD{cons:List Nat}{vs:List V}{nm i:Nat}(hd:(aD cons 0 vs).Nodup)(h1:cons.contains i=true)(h2:fL vs i=some nm):bI cons vs nm=some i:=by
 cases hu:bI cons vs nm with
 |none=>exact absurd (dE.2 ⟨i,by rw[Nat.zero_add];exact h1,h2⟩) (gV.1 hu)
 |some j=>
  obtain⟨_,h3,h4⟩:=cS hu;rw[mR hd (by rw[Nat.zero_add];exact h1) h2 (by rw[Nat.zero_add];exact h3) h4]
theorem oB{vs:List V}{i nm:Nat}(h:fL vs i=some nm):iR vs i=nm:=by
 unfold fL at h;unfold iR;split at h
 .rename_i hv;cases h;simp only[]
 .cases h
def aK(cons:List Nat)(vs:List V)(lk:Nat->Bool)(N:Nat)(G:Gh):Gh:=
 { Z := fun b => match G.Z b with
     |.out=>.out
     |.st n=>.st n
     |.bx i=>.bx i
     |.rg _ _=>if vs.any aD5 then .st N else .out
     |.fam nm=>match bI cons vs nm with
      |some i=>.fam i
      |none=>if(aC vs).contains nm||lk nm then .st (G.ext nm)else .out
   rgB:=G.rgB,ver:=G.ver,famB:=fun i=>G.famB (iR vs i),ext:=fun i=>G.ext (iR vs i),bxB:=G.bxB,lo:=G.lo}
def A0(G:Gh)(w:World):Pl:=At G (fun _=>0) (fun nm=>decide (nm<64)) w
structure Start(Ω:World->Prop)(G:Gh)(w:World)(vs:List V)(cs:List Value)(bx:BX):Prop where
 ok:GOk Ω G w
 norg:∀b s c,G.Z b≠.rg s c
 fam:∀b nm,G.Z b=.fam nm->nm<64
 args:RelL w (A0 G w) G.bxB vs cs
 boxes:aJ8 G (A0 G w) w bx
section
variable{D M:Nat->Prop}{G:Gh}{σ:St}{tm:Array Value}{w:World}{cons:List Nat}{vs:List V}{N:Nat}
theorem eT{b nm i:Nat}(hz:G.Z b=.fam nm)(hu:bI cons vs nm=some i):(aK cons vs σ.lk N G).Z b=.fam i/\(aK cons vs σ.lk N G).ext i=G.ext nm/\(aK cons vs σ.lk N G).famB i=G.famB nm:=by
 have hn:=oB (cS hu).2.2;exact⟨by simp only[aK,hz,hu],by simp only[aK,hn],by simp only[aK,hn]⟩
theorem iX{b nm:Nat}(hz:G.Z b=.fam nm)(hu:bI cons vs nm=none):(aK cons vs σ.lk N G).Z b=if(aC vs).contains nm||σ.lk nm then .st (G.ext nm)else .out:=by
 simp only[aK,hz,hu]
theorem kW{b i:Nat}(hz:(aK cons vs σ.lk N G).Z b=.fam i):∃nm,G.Z b=.fam nm/\bI cons vs nm=some i:=by
 cases hg:G.Z b with
 |fam nm=>
  cases hu:bI cons vs nm with
  |some j=>rw[(eT hg hu).1]at hz;cases hz;exact⟨nm,rfl,hu⟩
  |none=>rw[iX hg hu]at hz;split at hz<;>cases hz
 |rg=>simp only[aK,hg]at hz;split at hz<;>cases hz
 |_=>simp only[aK,hg]at hz;cases hz
theorem kX{a:Addr}{nm len z n cap:Nat}(hlen:vs.length<=64)(hr:Rd G nm a len)(hn:nm∈aC vs\/σ.lk nm=true):A0 (aK cons vs σ.lk N G) w .none a len z n cap:=by
 rcases hr with⟨k,h1,h2⟩|⟨h1,h2⟩
 .exact .inr (.inl ⟨k,by simp only[aK,h1],h2⟩)
 .cases hu:bI cons vs nm with
  |some i=>
   obtain⟨k1,k2,k3⟩:=eT (σ:=σ) (N:=N) h1 hu;exact .inr (.inr ⟨i,by simpa using Nat.lt_of_lt_of_le (cS hu).1 hlen,k1,by rw[k2];exact h2⟩)
  |none=>
   refine .inr (.inl ⟨G.ext nm,?_,h2⟩);rw[iX h1 hu,if_pos];rcases hn with hn|hn
   .simp[hn]
   .simp[hn]
theorem yK{l:Lab}{a:Addr}{len z n cap:Nat}(hlen:vs.length<=64)(h:At G σ.tips σ.lk w l a len z n cap)(hn:∀nm∈l.names,nm∈aC vs):A0 (aK cons vs σ.lk N G) w .none a len z n cap:=by
 cases l with
 |none=>
  rcases h with h0|⟨k,h1,h2⟩|⟨nm,h1,h2,h3⟩
  .exact .inl h0
  .exact .inr (.inl ⟨k,by simp only[aK,h1],h2⟩)
  .exact kX hlen (.inr ⟨h2,h3⟩) (.inr h1)
 |own nm k=>exact kX hlen h.2.1 (.inl (hn nm (by simp[Lab.names])))
 |pre nm k=>exact kX hlen h.2.1 (.inl (hn nm (by simp[Lab.names])))
 |view nm=>exact kX hlen h (.inl (hn nm (by simp[Lab.names])))
 |rv=>exact h.elim
 |arg=>exact h.elim
theorem gW(hlen:vs.length<=64):jV w w (At G σ.tips σ.lk w) (A0 (aK cons vs σ.lk N G) w) G.bxB G.bxB:=by
 refine⟨fun l a len z n cap hl h=>⟨?_,fun _ _=>rfl⟩,fun _ _ hb=>hb⟩;have:=yK (cons:=cons) (N:=N) hlen h (by rw[hl];simp);cases l with
 |none=>exact this
 |rv=>exact h.elim
 |arg=>exact h.elim
 |_=>simp[Lab.names]at hl
theorem aAj(hlen:vs.length<=64)(hd:(aD cons 0 vs).Nodup){i:Nat}{v:V}{c:Value}(hi:vs[i]?=some v)(hv:VR G (At G σ.tips σ.lk w) w (get σ.env) v c)(hk:∀s k u z n cs,v=.sl (.rv s k u) z n cs->(Lab.rv s k u).live (get σ.env)=true/\∀b m cap,c=.slice (some b) m cap->b.off+n*z<=N)(hok:aD5 v=false->v.ok=true)
  (how:jO σ.tips cons i v=true):Rel w (A0 (aK cons vs σ.lk N G) w) G.bxB (cZ cons i v) c:=by
 have hsub:∀l∈v.labs,∀nm∈l.names,nm∈aC vs:=by
  intro l hl nm hnm;refine tS.2 ⟨v,List.mem_of_getElem? hi,?_⟩;cases v with
  |sl l' z n cs=>simp[V.labs,V.labs1]at hl;subst hl;simpa[V.names]using hnm
  |ep l' cs off=>simp[V.labs,V.labs1]at hl;subst hl;simpa[V.names]using hnm
  |agg cs=>
   simp only[V.labs,List.mem_flatMap]at hl;obtain⟨u,hu,hl⟩:=hl;simp only[V.names];refine tS.2 ⟨u,hu,?_⟩;cases u<;>simp[V.labs1]at hl<;>subst hl<;>simpa[V.names]using hnm
  |_=>simp[V.labs,V.labs1]at hl
 have hbare:aD5 v=false->Rel w (A0 (aK cons vs σ.lk N G) w) G.bxB v.bare c:=fun hr=>by
  have h1:=hok hr;exact(hv.rel (V.far_of_ok h1)).mapLab (gW hlen) (fun l hl a len z n cap ha=>⟨yK hlen ha (hsub l hl),fun _ _=>rfl⟩) (V.flat_of_ok h1)
 unfold cZ;split
 .rename_i nm k z n cs;split
  .rename_i hc;have hk':k=σ.tips nm:=by
    have:=how;simp only[jO,hc,Bool.not_true,Bool.false_or,beq_iff_eq]at this;exact this
   subst hk';obtain⟨a,cap,xs,p1,p2,p3,p4,p5,p6,p7,p8,p9⟩:=Rel.sl_inv hv;obtain⟨_,hrd,htip⟩:=p2;obtain⟨⟨t1,t2,cur,e,t3,t4⟩,t5,t6⟩:=htip rfl;have hu:=uD hd hc (mQ hi);obtain⟨k1,k2,k3⟩:=eT (σ:=σ) (N:=N) t1 hu;rw[p1];refine .sl _ _ _ _ a cap xs ?_ p3 p4 p5 p6 p7 (p8.keepB (gW hlen) p9) p9;have hz:(aK cons vs σ.lk N G).Z a.block=.fam i/\a.off+xs.length<=(aK cons vs σ.lk N G).ext i:=⟨k1,by rw[k2,t2,t5];exact Nat.le_of_eq (Nat.zero_add _)⟩;refine⟨Nat.le_refl _,.inr hz,fun _=>⟨⟨k1,by rw[k3];exact t2,cur,e,by rw[k3];exact t3,t4⟩,by rw[k2];exact t5,t6⟩⟩
  .exact hbare rfl
 .rename_i hne;by_cases hr:aD5 v=true
  .cases v with
   |sl l z n cs=>
    cases l with
    |rv s k u=>
     obtain⟨h1,h2⟩:=hk s k u z n cs rfl;have hv0:=hv;obtain⟨a,cap,q1,q2,q3,q4,q5,q6,q7,q8,q9⟩:=hv;obtain⟨cs',hc⟩:=vK h1;obtain⟨xs,r1,r2⟩:=q9 cs' hc;rw[q1];show Rel _ _ _ (.sl .none z n cs) _;refine .sl _ _ _ _ a cap xs (.inr (.inl ⟨N,?_,?_⟩)) q2 (by rw[<-r2.length];exact q5) q3 q4 r1 (r2.keepB (gW hlen) q8) q8
     .simp only[aK,q6];rw[if_pos (List.any_eq_true.2 ⟨_,List.mem_of_getElem? hi,rfl⟩)]
     .rw[<-r2.length,q5];exact h2 a n cap q1
    |_=>cases hr
   |_=>cases hr
  .exact hbare (by simpa using hr)
theorem pD{cons:List Nat}:∀{vs:List V} {k i:Nat},(aI cons k vs)[i]?=(vs[i]?).map (cZ cons (k+i))
 |[],k,i=>by simp[aI]
 |v::r,k,i=>by
  cases i with
  |zero=>simp[aI]
  |succ i=>
   simp only[aI,List.getElem?_cons_succ,pD (vs:=r)];rw[Nat.add_right_comm,Nat.add_assoc]
theorem jX{cons:List Nat}:∀{vs:List V} {k:Nat},(aI cons k vs).length=vs.length
 |[],_=>rfl
 |v::r,k=>by simp[aI,jX (vs:=r)]
theorem jY{T:Nat->Nat}{cons:List Nat}:∀{vs:List V} {k i:Nat} {v:V},eC T cons k vs=true->vs[i]?=some v->jO T cons (k+i) v=true
 |[],k,i,v,_,h=>by simp at h
 |u::r,k,i,v,h,hv=>by
  simp only[eC,Bool.and_eq_true]at h;cases i with
  |zero=>simp at hv;subst hv;exact h.1
  |succ i=>
   simp only[List.getElem?_cons_succ]at hv;have:=jY h.2 hv;rw[Nat.add_right_comm,Nat.add_assoc]at this;exact this
theorem aBh:∀(vs:List V) (cs:List Value),∃N,∀(i:Nat) v c,vs[i]?=some v->cs[i]?=some c->∀l z n ds,v=.sl l z n ds->∀b m cap,c=.slice (some b) m cap->b.off+n*z<=N
 |[],cs=>⟨0,fun i v c h=>by simp at h⟩
 |u::r,[]=>⟨0,fun i v c _ h=>by simp at h⟩
 |u::r,e::s=>by
  obtain⟨N,hN⟩:=aBh r s;have:∃N0,∀l z n ds,u=.sl l z n ds->∀b m cap,e=.slice (some b) m cap->b.off+n*z<=N0:=by
   cases u with
   |sl l z n ds=>
    cases e with
    |slice b m cap=>
     cases b with
     |some b=>exact⟨b.off+n*z,fun _ _ _ _ h b' m' cap' h'=>by cases h;cases h';exact Nat.le_refl _⟩
     |none=>exact⟨0,fun _ _ _ _ _ _ _ _ h=>by cases h⟩
    |_=>exact⟨0,fun _ _ _ _ _ _ _ _ h=>by cases h⟩
   |_=>exact⟨0,fun _ _ _ _ h=>by cases h⟩
  obtain⟨N0,h0⟩:=this;refine⟨N+N0,fun i v c hv hc l z n ds e1 b m cap e2=>?_⟩;cases i with
  |zero=>
   simp at hv hc;subst hv hc;have:=h0 l z n ds e1 b m cap e2;omega
  |succ i=>
   simp at hv hc;have:=hN i v c hv hc l z n ds e1 b m cap e2;omega
theorem SR.start(h:SR Ω D M G σ tm w){cs:List Value}(hl:vs.length=cs.length)(hargs:∀(i:Nat) v c,vs[i]?=some v->cs[i]?=some c->VR G (At G σ.tips σ.lk w) w (get σ.env) v c)(hlen:vs.length<=64){av:List Nat}(hok:vs.all (tC (get σ.env) av)=true)
  (how:eC σ.tips cons 0 vs=true) (hd:(aD cons 0 vs).Nodup):∃N,Start Ω (aK cons vs σ.lk N G) w (aI cons 0 vs) cs σ.bx:=by
 obtain⟨N,hN⟩:=aBh vs cs;rw[List.all_eq_true]at hok;have hnx:=h.ok.next (G':=aK cons vs σ.lk N G) (w':=w) (fun b h1 h2=>⟨h2,rfl,by
  rcases h1 with h1|⟨n,h1⟩
  .exact .inl (by simp only[aK,h1])
  .exact .inr ⟨n,by simp only[aK,h1]⟩⟩) rfl
 refine⟨N,⟨⟨fun b hb=>h.ok.lt b fun hz=>hb (by simp only[aK,hz]),fun b i hz=>?_,fun b i hz=>?_,fun b s c hz=>?_,hnx.1,hnx.2⟩,fun b s c hz=>?_,fun b i hz=>?_,?_,h.boxes.1,fun i ds hi=>?_⟩⟩
 .obtain⟨nm,h1,h2⟩:=kW hz;rw[(eT h1 h2).2.2];exact h.ok.famU b nm h1
 .obtain⟨nm,h1,h2⟩:=kW hz;rw[(eT h1 h2).2.1];exact h.ok.famC b nm h1
 .exfalso;cases hg:G.Z b with
  |fam nm=>
   cases hu:bI cons vs nm with
   |some j=>rw[(eT hg hu).1]at hz;cases hz
   |none=>rw[iX hg hu]at hz;split at hz<;>cases hz
  |rg=>simp only[aK,hg]at hz;split at hz<;>cases hz
  |_=>simp only[aK,hg]at hz;cases hz
 .cases hg:G.Z b with
  |fam nm=>
   cases hu:bI cons vs nm with
   |some j=>rw[(eT hg hu).1]at hz;cases hz
   |none=>rw[iX hg hu]at hz;split at hz<;>cases hz
  |rg=>simp only[aK,hg]at hz;split at hz<;>cases hz
  |_=>simp only[aK,hg]at hz;cases hz
 .obtain⟨nm,h1,h2⟩:=kW hz;exact Nat.lt_of_lt_of_le (cS h2).1 hlen
 .refine RelL.of_get (by rw[jX,hl]) fun i v c hv hc=>?_
  rw[pD,Nat.zero_add]at hv;cases hu:vs[i]? with
  |none=>rw[hu]at hv;cases hv
  |some u=>
   rw[hu]at hv;cases hv;have hko:=hok u (List.mem_of_getElem? hu);refine aAj hlen hd hu (hargs i u c hu hc) (fun s k u' z n ds e=>⟨?_,fun b m cap e2=>hN i u c hu hc _ _ _ _ e b m cap e2⟩) (fun hr=>?_) (by have:=jY how hu;rwa [Nat.zero_add]at this)
   .subst e;exact gU hko
   .cases u with
    |sl l z n ds=>cases l<;>first|exact hko|cases hr
    |_=>exact hko
 .obtain⟨hn,b,h1,h2,xs,e,h3,h4⟩:=h.boxes.2 i ds hi;exact⟨hn,b,h1,by simp only[aK,h2],xs,e,h3,h4.keepB (gW hlen) hn⟩
end
end Go.VM
namespace Go.VM
open Go.RowKit
variable{Ω:World->Prop}
def AtR(G:Gh)(lk:Nat->Bool)(w:World):Pl
 |.none,a,len,_,_,_=>len=0\/qJ G a len\/∃nm,lk nm=true/\G.Z a.block=.fam nm/\a.off+len<=G.ext nm
 |.own i _,a,len,z,n,cap=>Tip G w (64+i) a z cap/\len=G.ext (64+i)/\n*z=len
 |.arg i,a,len,z,n,cap=>Tip G w i a z cap/\len=G.ext i/\n*z=len
 |_,_,_,_,_,_=>False
structure Ret(Ω:World->Prop)(G:Gh)(w:World)(G':Gh)(lk:Nat->Bool)(w':World)(rs:List V)(cs:List Value)(bx bx':BX):Prop where
 ok:GOk Ω G' w'
 fr:Fr G w G' w'
 lkr:∀i,lk (64+i)=true->i∈rs.flatMap V.shared
 res:RelL w' (AtR G' lk w') G'.bxB rs cs
 flat:∀v∈rs,v.flat=true
 boxes:aJ8 G' (AtR G' lk w') w' bx'
 pre:bx.length<=bx'.length
theorem lW{α:Type}{f:Nat->α}{v:α}{l:List Nat}{m:Nat}:fB f v l m=if m∈l then v else f m:=by
 induction l with
 |nil=>simp[fB]
 |cons a r ih=>
  simp only[fB,upd,ih,List.mem_cons];by_cases h:m=a<;>simp[h]
theorem lX{T:Nat->Nat}{l:List Nat}{m:Nat}:T m<=bump T l m:=by
 induction l with
 |nil=>exact Nat.le_refl _
 |cons a r ih=>
  simp only[bump,upd];split
  .rename_i h;subst h;omega
  .exact ih
theorem aBi{T:Nat->Nat}{l:List Nat}{m:Nat}(h:m∈l):T m<bump T l m:=by
 induction l with
 |nil=>cases h
 |cons a r ih=>
  simp only[bump,upd];split
  .rename_i h2;subst h2;have:=lX (T:=T) (l:=r) (m:=m);omega
  .rename_i h2;rcases List.mem_cons.1 h with h|h
   .exact absurd h h2
   .exact ih h
theorem vQ{T:Nat->Nat}{l:List Nat}{m:Nat}(h:m∉l):bump T l m=T m:=by
 induction l with
 |nil=>rfl
 |cons a r ih=>
  simp only[List.mem_cons,not_or]at h;simp only[bump,upd];rw[if_neg h.1,ih h.2]
def conv(cons:List Nat)(vs rs:List V)(d:Nat)(R:Gh):Zn->Zn
 |.fam i=>
  if i<64 then match fL vs i with
   |some nm=>if bI cons vs nm=some i/\nm∉aX d rs then .fam nm else .st (R.ext i)
   |none=>.st (R.ext i)
  else if i-64∈newsOf rs then .fam (aQ d (i-64))else .st (R.ext i)
 |.rg _ _=>.out
 |z=>z
def aS(cons:List Nat)(vs rs:List V)(d:Nat)(G R:Gh)(size:Nat):Gh:=
 { Z := fun b => if b < size then match G.Z b with
     |.out=>.out
     |.st n=>.st n
     |.rg s c=>.rg s c
     |.bx _=>conv cons vs rs d R (R.Z b)
     |.fam nm=>if bI cons vs nm=none then(if nm∈aX d rs then .st (G.ext nm)else .fam nm)else conv cons vs rs d R (R.Z b)
     else conv cons vs rs d R (R.Z b)
   rgB:=G.rgB,ver:=G.ver
   famB:=fun nm=>if nm∈aX d rs then R.famB (nm-d*64)else match bI cons vs nm with
    |some i=>R.famB i
    |none=>G.famB nm
   ext:=fun nm=>if nm∈aX d rs then R.ext (nm-d*64)else match bI cons vs nm with
    |some i=>R.ext i
    |none=>G.ext nm
   bxB:=R.bxB,lo:=G.lo}
theorem aAk{d i:Nat}{rs:List V}:aQ d i∈aX d rs↔i∈newsOf rs:=by
 unfold aX;rw[List.mem_map];constructor
 .rintro⟨j,h1,h2⟩;have:j=i:=by unfold aQ at h2;omega
  exact this▸h1
 .exact fun h=>⟨i,h,rfl⟩
theorem aAl{d m:Nat}{rs:List V}(h:m∈aX d rs):∃i,i∈newsOf rs/\m=aQ d i:=by
 unfold aX at h;obtain⟨i,h1,h2⟩:=List.mem_map.1 h;exact⟨i,h1,h2.symm⟩
section
variable{cons:List Nat}{vs rs:List V}{d:Nat}{G R:Gh}{lk0:Nat->Bool}{N:Nat}{w w':World}
theorem vR{j nm:Nat}(h:conv cons vs rs d R (.fam j)=.fam nm):(j<64/\fL vs j=some nm/\bI cons vs nm=some j/\nm∉aX d rs)\/(64<=j/\j-64∈newsOf rs/\nm=aQ d (j-64)):=by
 simp only[conv]at h;split at h
 .rename_i hj;split at h
  .rename_i m hm;split at h
   .rename_i hc;cases h;exact .inl ⟨hj,hm,hc.1,hc.2⟩
   .cases h
  .cases h
 .rename_i hj;split at h
  .rename_i hn;cases h;exact .inr ⟨by omega,hn,rfl⟩
  .cases h
theorem aBj{j nm:Nat}(h1:j<64)(h2:fL vs j=some nm)(h3:bI cons vs nm=some j)(h4:nm∉aX d rs):conv cons vs rs d R (.fam j)=.fam nm:=by
 simp only[conv];rw[if_pos h1,h2];simp only;rw[if_pos ⟨h3,h4⟩]
theorem aFo{i:Nat}(h:i∈newsOf rs):conv cons vs rs d R (.fam (64+i))=.fam (aQ d i):=by
 simp only[conv];rw[if_neg (by omega),Nat.add_sub_cancel_left,if_pos h]
theorem aAm(j:Nat):(∃nm,conv cons vs rs d R (.fam j)=.fam nm)\/conv cons vs rs d R (.fam j)=.st (R.ext j):=by
 simp only[conv];split
 .split
  .split
   .exact .inl ⟨_,rfl⟩
   .exact .inr rfl
  .exact .inr rfl
 .split
  .exact .inl ⟨_,rfl⟩
  .exact .inr rfl
theorem qY{z:Zn}{s c:Nat}(h:conv cons vs rs d R z=.rg s c):False:=by
 cases z with
 |fam j=>rcases aAm (cons:=cons) (vs:=vs) (rs:=rs) (d:=d) (R:=R) j with⟨m,h2⟩|h2<;>rw[h2]at h<;>cases h
 |_=>simp only[conv]at h;cases h
theorem mS{j nm:Nat}(h:conv cons vs rs d R (.fam j)=.fam nm):(aS cons vs rs d G R w.heap.size).ext nm=R.ext j/\(aS cons vs rs d G R w.heap.size).famB nm=R.famB j:=by
 rcases vR h with⟨h1,h2,h3,h4⟩|⟨h1,h2,h3⟩
 .simp only[aS,if_neg h4,h3,and_self]
 .subst h3;simp only[aS,if_pos (aAk.2 h2)];have:aQ d (j-64)-d*64=j:=by unfold aQ;omega
  rw[this];exact⟨rfl,rfl⟩
variable(hok:GOk Ω G w)(hfr:Fr (aK cons vs lk0 N G) w R w')
include hok hfr
theorem mT{b:Nat}(h:(∃j,R.Z b=.fam j)\/∃i,R.Z b=.bx i):(aS cons vs rs d G R w.heap.size).Z b=conv cons vs rs d R (R.Z b):=by
 have _:=hok;have no:b<w.heap.size->((aK cons vs lk0 N G).Z b=.out\/∃n,(aK cons vs lk0 N G).Z b=.st n)->False:=fun hb hz=>by
  have h2:=(hfr.rest b hb hz).2;rcases h with⟨j,h⟩|⟨j,h⟩<;>rw[h]at h2<;>rcases hz with hz|⟨n,hz⟩<;>rw[hz]at h2<;>cases h2
 by_cases hb:b<w.heap.size
 .simp only[aS,if_pos hb];cases hg:G.Z b with
  |out=>exact(no hb (.inl (by simp only[aK,hg]))).elim
  |st n=>exact(no hb (.inr ⟨n,by simp only[aK,hg]⟩)).elim
  |rg s c=>exact(no hb (by simp only[aK,hg];split;exact .inr ⟨_,rfl⟩;exact .inl rfl)).elim
  |bx i=>rfl
  |fam nm=>
   simp only;split
   .rename_i hu;exact(no hb (by simp only[aK,hg,hu];split;exact .inr ⟨_,rfl⟩;exact .inl rfl)).elim
   .rfl
 .simp only[aS,if_neg hb]
theorem mU{b nm:Nat}(hlen:vs.length<=64)(hz:G.Z b=.fam nm) :
  (∀x:Addr,x.block=b->x.off<G.ext nm->w'.cell? x=w.cell? x)/\
  (((aS cons vs rs d G R w.heap.size).Z b=.fam nm/\nm∉aX d rs/\G.ext nm<=(aS cons vs rs d G R w.heap.size).ext nm)\/∃n,(aS cons vs rs d G R w.heap.size).Z b=.st n/\G.ext nm<=n)/\
  (bI cons vs nm=none->w'.heap[b]?=w.heap[b]?/\(nm∉aX d rs->(aS cons vs rs d G R w.heap.size).Z b=.fam nm/\(aS cons vs rs d G R w.heap.size).famB nm=G.famB nm/\(aS cons vs rs d G R w.heap.size).ext nm=G.ext nm)):=by
 have hb:=hok.lt b (by rw[hz];simp);cases hu:bI cons vs nm with
 |none=>
  have hrest:=hfr.rest b hb (by simp only[aK,hz,hu];split;exact .inr ⟨_,rfl⟩;exact .inl rfl);have hZ:(aS cons vs rs d G R w.heap.size).Z b=if nm∈aX d rs then .st (G.ext nm)else .fam nm:=by simp only[aS,if_pos hb,hz,hu,if_true]
  refine⟨fun x hx _=>World.cell?_of_block (by rw[hx];exact hrest.1),?_,fun _=>⟨hrest.1,fun hf=>⟨by rw[hZ,if_neg hf],by simp only[aS,if_neg hf,hu],by simp only[aS,if_neg hf,hu]⟩⟩⟩;by_cases hf:nm∈aX d rs
  .exact .inr ⟨_,by rw[hZ,if_pos hf],Nat.le_refl _⟩
  .exact .inl ⟨by rw[hZ,if_neg hf],hf,by simp only[aS,if_neg hf,hu];exact Nat.le_refl _⟩
 |some i=>
  obtain⟨u1,u2,u3⟩:=cS hu;have hs:(aK cons vs lk0 N G).Z b=.fam i:=by simp only[aK,hz,hu]
  have he:(aK cons vs lk0 N G).ext i=G.ext nm:=by simp only[aK,oB u3]
  obtain⟨h1,h2⟩:=hfr.used b i (Nat.lt_of_lt_of_le u1 hlen) hs;rw[he]at h1 h2;have hZ:(aS cons vs rs d G R w.heap.size).Z b=conv cons vs rs d R (R.Z b):=by
   simp only[aS,if_pos hb,hz,hu];rw[if_neg (by simp)]
  refine⟨h1,?_,fun h=>by cases h⟩;rcases h2 with⟨h2,h3⟩|⟨n,h2,h3⟩
  .by_cases hf:nm∈aX d rs
   .refine .inr ⟨R.ext i,?_,h3⟩;rw[hZ,h2];simp only[conv];rw[if_pos (Nat.lt_of_lt_of_le u1 hlen),u3];simp only;rw[if_neg fun hc=>hc.2 hf]
   .have hc:=aBj (R:=R) (cons:=cons) (Nat.lt_of_lt_of_le u1 hlen) u3 hu hf;refine .inl ⟨by rw[hZ,h2,hc],hf,?_⟩;rw[(mS (G:=G) (w:=w) hc).1];exact h3
  .exact .inr ⟨n,by rw[hZ,h2];rfl,h3⟩
theorem aFp(hlen:vs.length<=64)(hR:GOk Ω R w'):GOk Ω (aS cons vs rs d G R w.heap.size) w':=by
 have conv_ok:∀{b nm:Nat},conv cons vs rs d R (R.Z b)=.fam nm->b=(aS cons vs rs d G R w.heap.size).famB nm/\∃cur e,(∃fr:Nat×Nat,w'.heap[b]?=some (.cells cur e fr)/\Fz fr cur.size)/\(aS cons vs rs d G R w.heap.size).ext nm<=cur.size:=fun{b nm} h=>by
  cases hz:R.Z b with
  |fam j=>
   rw[hz]at h;obtain⟨k1,k2⟩:=mS (G:=G) (w:=w) h;rw[k1,k2];exact⟨hR.famU b j hz,hR.famC b j hz⟩
  |_=>rw[hz]at h;simp only[conv]at h;cases h
 have conv_rg:∀{z s c},conv cons vs rs d R z≠.rg s c:=fun{z s c} h=>by
  cases z with
  |fam j=>rcases aAm (cons:=cons) (vs:=vs) (rs:=rs) (d:=d) (R:=R) j with⟨m,h2⟩|h2<;>rw[h2]at h<;>cases h
  |_=>simp only[conv]at h;cases h
 have fam_ok:∀{b nm:Nat},(aS cons vs rs d G R w.heap.size).Z b=.fam nm->b=(aS cons vs rs d G R w.heap.size).famB nm/\∃cur e,(∃fr:Nat×Nat,w'.heap[b]?=some (.cells cur e fr)/\Fz fr cur.size)/\(aS cons vs rs d G R w.heap.size).ext nm<=cur.size:=fun{b nm} h=>by
  by_cases hb:b<w.heap.size
  .cases hg:G.Z b with
   |fam m=>
    cases hu:bI cons vs m with
    |none=>
     obtain⟨k1,k2,k3⟩:=mU (rs:=rs) (d:=d) hok hfr hlen hg;obtain⟨k4,k5⟩:=k3 hu;by_cases hf:m∈aX d rs
     .rcases k2 with⟨_,k2,_⟩|⟨n,k2,_⟩
      .exact absurd hf k2
      .rw[k2]at h;cases h
     .obtain⟨k6,k7,k8⟩:=k5 hf;rw[k6]at h;cases h;rw[k7,k8,k4];exact⟨hok.famU b _ hg,hok.famC b _ hg⟩
    |some i=>
     refine conv_ok ?_;simp only[aS,if_pos hb,hg,hu]at h;rw[if_neg (by simp)]at h;exact h
   |bx i=>refine conv_ok ?_;simpa only[aS,if_pos hb,hg]using h
   |_=>simp only[aS,if_pos hb,hg]at h;cases h
  .refine conv_ok ?_;simpa only[aS,if_neg hb]using h
 have hnx := hok.next (G' := aS cons vs rs d G R w.heap.size) (w' := w') (fun b h1 h2 => ⟨Nat.lt_of_lt_of_le h2 hfr.size, (hfr.rest b h2 (by
     rcases h1 with h1|⟨n,h1⟩
     .exact .inl (by simp only[aK,h1])
     .exact .inr ⟨n,by simp only[aK,h1]⟩)).1,by
  rcases h1 with h1|⟨n,h1⟩
  .exact .inl (by simp only[aS,if_pos h2,h1])
  .exact .inr ⟨n,by simp only[aS,if_pos h2,h1]⟩⟩) rfl
 refine⟨fun b hz=>?_,fun b nm hz=>(fam_ok hz).1,fun b nm hz=>(fam_ok hz).2,fun b s c hz=>?_,hnx.1,hnx.2⟩
 .by_cases hb:b<w.heap.size
  .exact Nat.lt_of_lt_of_le hb hfr.size
  .refine hR.lt b fun ho=>hz ?_
   simp only[aS,if_neg hb,ho,conv]
 .by_cases hb:b<w.heap.size
  .cases hg:G.Z b with
   |rg s' c'=>
    simp only[aS,if_pos hb,hg]at hz;cases hz;exact hok.rgU b s c hg
   |fam m=>
    simp only[aS,if_pos hb,hg]at hz;split at hz
    .split at hz<;>cases hz
    .exact absurd hz conv_rg
   |bx i=>simp only[aS,if_pos hb,hg]at hz;exact absurd hz conv_rg
   |_=>simp only[aS,if_pos hb,hg]at hz;cases hz
  .simp only[aS,if_neg hb]at hz;exact absurd hz conv_rg
theorem aAn{b n:Nat}(hz:G.Z b=.st n):(aS cons vs rs d G R w.heap.size).Z b=.st n/\w'.heap[b]?=w.heap[b]?:=by
 have hb:=hok.lt b (by rw[hz];simp);exact⟨by simp only[aS,if_pos hb,hz],(hfr.rest b hb (.inr ⟨n,by simp only[aK,hz]⟩)).1⟩
theorem vS{b s c:Nat}(hz:G.Z b=.rg s c):(aS cons vs rs d G R w.heap.size).Z b=.rg s c/\w'.heap[b]?=w.heap[b]?:=by
 have hb:=hok.lt b (by rw[hz];simp);exact⟨by simp only[aS,if_pos hb,hz],(hfr.rest b hb (by simp only[aK,hz];split;exact .inr ⟨_,rfl⟩;exact .inl rfl)).1⟩
theorem aHQ(hlen:vs.length<=64)(_:∀i∈newsOf rs,i<64):Fr G w (aS cons vs rs d G R w.heap.size) w':=by
 refine⟨hfr.os,hfr.tape,hfr.output,hfr.size,fun b hb hz=>?_,fun b nm hnm hz=>?_,fun i b hi=>hfr.boxes i b hi⟩
 .rcases hz with hz|⟨n,hz⟩
  .exact⟨(hfr.rest b hb (.inl (by simp only[aK,hz]))).1,by simp only[aS,if_pos hb,hz]⟩
  .obtain⟨k1,k2⟩:=aAn (rs:=rs) (d:=d) hok hfr hz;exact⟨k2,k1.trans hz.symm⟩
 .obtain⟨k1,k2,_⟩:=mU (rs:=rs) (d:=d) hok hfr hlen hz;exact⟨k1,k2.imp (fun k=>⟨k.1,k.2.2⟩) id⟩
theorem aC0{T T':Nat->Nat}{lk lk':Nat->Bool}(hlen:vs.length<=64)(hT:∀m,T m<=T' m)(hT1:∀m,bI cons vs m≠none->T m<T' m)(hT2:∀m,m∈aX d rs->T m<T' m)
  (hlk:∀m,m∉aX d rs->lk m=true->lk' m=true):aCJ w w' (At G T lk w) (At (aS cons vs rs d G R w.heap.size) T' lk' w') G.bxB R.bxB:=by
 refine⟨fun l a len z n cap h=>?_,fun i b hb=>hfr.boxes i b hb⟩;have rd:∀{nm},Rd G nm a len->Rd (aS cons vs rs d G R w.heap.size) nm a len/\∀j,j<len->w'.cell? (a.add j)=w.cell? (a.add j):=fun{nm} hr=>by
  rcases hr with⟨k,h1,h2⟩|⟨h1,h2⟩
  .obtain⟨k1,k2⟩:=aAn (rs:=rs) (d:=d) hok hfr h1;exact⟨.inl ⟨k,k1,h2⟩,fun j _=>World.cell?_of_block (by rw[bM];exact k2)⟩
  .obtain⟨k1,k2,_⟩:=mU (rs:=rs) (d:=d) hok hfr hlen h1;refine⟨?_,fun j hj=>k1 _ (bM _ _) (by rw[qL];omega)⟩;rcases k2 with⟨k2,_,k3⟩|⟨n,k2,k3⟩
   .exact .inr ⟨k2,by omega⟩
   .exact .inl ⟨n,k2,by omega⟩
 have tip:∀{nm k z cap},k<=T nm->k=T' nm->Tip G w nm a z cap->Tip (aS cons vs rs d G R w.heap.size) w' nm a z cap/\(aS cons vs rs d G R w.heap.size).ext nm=G.ext nm/\k=T nm:=fun{nm k z cap} hk1 hk2 ⟨h1,h2,cur,e,h3,h4⟩=>by
  have h5:=hT nm;have hu:bI cons vs nm=none:=by
   cases hu:bI cons vs nm with
   |none=>rfl
   |some i=>have:=hT1 nm (by rw[hu];simp);omega
  have hf:nm∉aX d rs:=fun hf=>by have:=hT2 nm hf;omega
  obtain⟨_,_,k3⟩:=mU (rs:=rs) (d:=d) hok hfr hlen h1;obtain⟨k4,k5⟩:=k3 hu;obtain⟨k6,k7,k8⟩:=k5 hf;have hb:a.block=G.famB nm:=by rw[h2]
  exact⟨⟨k6,by rw[k7];exact h2,cur,e,by rw[k7,<-hb,k4,hb];exact h3,h4⟩,k8,by omega⟩
 cases l with
 |none=>
  rcases h with h0|hs|⟨nm,h1,h2,h3⟩
  .exact⟨.inl h0,fun j hj=>by omega⟩
  .obtain⟨k,h1,h2⟩:=hs;obtain⟨k1,k2⟩:=aAn (rs:=rs) (d:=d) hok hfr h1;exact⟨.inr (.inl ⟨k,k1,h2⟩),fun j _=>World.cell?_of_block (by rw[bM];exact k2)⟩
  .obtain⟨k1,k2,_⟩:=mU (rs:=rs) (d:=d) hok hfr hlen h2;refine⟨?_,fun j hj=>k1 _ (bM _ _) (by rw[qL];omega)⟩;rcases k2 with⟨k2,k3,k4⟩|⟨n,k2,k3⟩
   .exact .inr (.inr ⟨nm,hlk nm k3 h1,k2,by omega⟩)
   .exact .inr (.inl ⟨n,k2,by omega⟩)
 |own nm k=>
  obtain⟨h1,h2,h3⟩:=h;obtain⟨r1,r2⟩:=rd h2;refine⟨⟨Nat.le_trans h1 (hT nm),r1,fun hk=>?_⟩,r2⟩;have hk2:k=T nm:=by
   by_cases hu:bI cons vs nm=none
   .by_cases hf:nm∈aX d rs
    .have:=hT2 nm hf;omega
    .have:=hT nm;omega
   .have:=hT1 nm hu;omega
  obtain⟨h4,h5,h6⟩:=h3 hk2;obtain⟨t1,t2,_⟩:=tip h1 hk h4;exact⟨t1,by rw[t2];exact h5,h6⟩
 |pre nm k=>
  obtain⟨h1,h2,h3⟩:=h;obtain⟨r1,r2⟩:=rd h2;refine⟨⟨Nat.le_trans h1 (hT nm),r1,fun hk=>?_⟩,r2⟩;have hk2:k=T nm:=by
   by_cases hu:bI cons vs nm=none
   .by_cases hf:nm∈aX d rs
    .have:=hT2 nm hf;omega
    .have:=hT nm;omega
   .have:=hT1 nm hu;omega
  exact(tip h1 hk (h3 hk2)).1
 |view nm=>exact rd h
 |rv=>exact h.elim
 |arg=>exact h.elim
theorem aDp{T':Nat->Nat}{lkR lk':Nat->Bool}(hno:vs.any aD5=false)(hlkF:∀i,lkR (64+i)=true->i∈newsOf rs->lk' (aQ d i)=true)(hlkU:∀m,bI cons vs m≠none->lk' m=true)
  (hlkN:∀m,m∉aX d rs->(m∈aC vs\/lk0 m=true)->lk' m=true) {a:Addr} {len z n cap:Nat} (h:AtR R lkR w' .none a len z n cap):At (aS cons vs rs d G R w.heap.size) T' lk' w' .none a len z n cap:=by
 rcases h with h0|h
 .exact .inl h0
 refine .inr ?_;rcases h with⟨k,h1,h2⟩|⟨j,h1,h2,h3⟩
 .by_cases hb:a.block<w.heap.size
  .cases hg:G.Z a.block with
   |out=>
    have:=(hfr.rest _ hb (.inl (by simp only[aK,hg]))).2;simp only[aK,hg,h1]at this;cases this
   |st m=>
    have:=(hfr.rest _ hb (.inr ⟨m,by simp only[aK,hg]⟩)).2;simp only[aK,hg,h1]at this;cases this;exact .inl ⟨k,by simp only[aS,if_pos hb,hg],h2⟩
   |rg s c=>
    have:=(hfr.rest _ hb (.inl (by simp[aK,hg,hno]))).2;simp[aK,hg,h1,hno]at this
   |bx i=>exact .inl ⟨k,by simp only[aS,if_pos hb,hg,h1,conv],h2⟩
   |fam m=>
    by_cases hu:bI cons vs m=none
    .have:=(hfr.rest _ hb (by simp only[aK,hg,hu];split;exact .inr ⟨_,rfl⟩;exact .inl rfl)).2;simp only[aK,hg,hu,h1]at this;split at this
     .rename_i hc;cases this;by_cases hf:m∈aX d rs
      .exact .inl ⟨_,by simp only[aS,if_pos hb,hg,hu,if_true,if_pos hf],h2⟩
      .refine .inr ⟨m,hlkN m hf ?_,by simp only[aS,if_pos hb,hg,hu,if_true,if_neg hf],?_⟩
       .simpa using hc
       .simp only[aS,if_neg hf,hu];exact h2
     .cases this
    .refine .inl ⟨k,?_,h2⟩;simp only[aS,if_pos hb,hg,if_neg hu,h1,conv]
  .exact .inl ⟨k,by simp only[aS,if_neg hb,h1,conv],h2⟩
 .have hZ:=mT (rs:=rs) (d:=d) hok hfr (.inl ⟨j,h2⟩);rw[h2]at hZ;rcases aAm (cons:=cons) (vs:=vs) (rs:=rs) (d:=d) (R:=R) j with⟨m,hm⟩|hm
  .refine .inr ⟨m,?_,by rw[hZ,hm],by rw[(mS (G:=G) (w:=w) hm).1];exact h3⟩;rcases vR hm with⟨c1,c2,c3,c4⟩|⟨c1,c2,c3⟩
   .exact hlkU m (by rw[c3];simp)
   .subst c3;exact hlkF _ (by rw[show 64+(j-64)=j by omega];exact h1) c2
  .exact .inl ⟨_,by rw[hZ,hm],h3⟩
theorem aFq{T':Nat->Nat}{lkR lk':Nat->Bool}{i f:Nat}(hi:i∈newsOf rs){a:Addr}{len z n cap:Nat}(h:AtR R lkR w' (.own i f) a len z n cap):At (aS cons vs rs d G R w.heap.size) T' lk' w' (.own (aQ d i) (T' (aQ d i))) a len z n cap:=by
 obtain⟨⟨h1,h2,cur,e,h3,h4⟩,h5,h6⟩:=h;have hZ:=mT (rs:=rs) (d:=d) hok hfr (.inl ⟨_,h1⟩);have hm:=aFo (cons:=cons) (vs:=vs) (d:=d) (R:=R) hi;rw[h1,hm]at hZ;obtain⟨k1,k2⟩:=mS (G:=G) (w:=w) hm;refine⟨Nat.le_refl _,.inr ⟨hZ,by rw[k1,<-h5,h2];exact Nat.le_of_eq (Nat.zero_add _)⟩,fun _=>⟨⟨hZ,by rw[k2];exact h2,cur,e,by rw[k2];exact h3,h4⟩,by rw[k1];exact h5,h6⟩⟩
theorem aFr{T':Nat->Nat}{lkR lk':Nat->Bool}{i nm:Nat}(hlen:vs.length<=64)(hd:(aD cons 0 vs).Nodup)(hc:cons.contains i=true)(hn:fL vs i=some nm)(hf:nm∉aX d rs){a:Addr}{len z n cap:Nat}(h:AtR R lkR w' (.arg i) a len z n cap) :
  At (aS cons vs rs d G R w.heap.size) T' lk' w' (.own nm (T' nm)) a len z n cap:=by
 obtain⟨⟨h1,h2,cur,e,h3,h4⟩,h5,h6⟩:=h;have hu:=uD hd hc hn;have hZ:=mT (rs:=rs) (d:=d) hok hfr (.inl ⟨_,h1⟩);have hm:=aBj (d:=d) (rs:=rs) (R:=R) (Nat.lt_of_lt_of_le (cS hu).1 hlen) hn hu hf;rw[h1,hm]at hZ;obtain⟨k1,k2⟩:=mS (G:=G) (w:=w) hm;refine⟨Nat.le_refl _,.inr ⟨hZ,by rw[k1,<-h5,h2];exact Nat.le_of_eq (Nat.zero_add _)⟩,fun _=>⟨⟨hZ,by rw[k2];exact h2,cur,e,by rw[k2];exact h3,h4⟩,by rw[k1];exact h5,h6⟩⟩
end
end Go.VM
namespace Go.VM
open Go.RowKit
variable{Ω:World->Prop}
theorem Rel.plain1{w w':World}{A A':Pl}{B B':List Nat}{v:V}{c:Value}(h:Rel w A B v c)(hp:v.plain1=true):Rel w' A' B' v c:=by
 cases h<;>first|(cases hp;done)|constructor
theorem RelL.plain{w w':World}{A A':Pl}{B B':List Nat}{vs:List V}{cs:List Value}(h:RelL w A B vs cs)(hp:vs.all V.plain1=true):RelL w' A' B' vs cs:=by
 induction vs generalizing cs with
 |nil=>cases h;exact .nil
 |cons v r ih=>
  simp only[List.all_cons,Bool.and_eq_true]at hp;cases h with
  |cons _ c _ cs h1 h2=>exact .cons _ _ _ _ (h1.plain1 hp.1) (ih h2 hp.2)
theorem V.plain1_mapLab{v:V}(h:v.plain1=true)(g:Lab->Lab):v.mapLab1 g=v:=by cases v<;>first|rfl|cases h
theorem Rel.plainv{w w':World}{A A':Pl}{B B':List Nat}{v:V}{c:Value}(h:Rel w A B v c)(hp:v.plain=true)(g:Lab->Lab):Rel w' A' B' (v.mapLab g) c:=by
 cases v with
 |agg cs=>
  obtain⟨xs,rfl,h1⟩:=Rel.agg_inv h;simp only[V.plain]at hp;have:cs.map (V.mapLab1 g)=cs:=by
   rw[List.all_eq_true]at hp;exact(List.map_congr_left fun u hu=>V.plain1_mapLab (hp u hu) g).trans (List.map_id' cs)
  simp only[V.mapLab,this];exact .agg _ _ (h1.plain hp)
 |_=>
  simp only[V.plain]at hp
  first
   |(cases hp;done)
   | (have e := V.plain1_mapLab hp g
      simp only[V.mapLab,e];exact h.plain1 hp)
theorem Rel.far{G:Gh}{T:Nat->Nat}{lk:Nat->Bool}{w:World}{B:List Nat}{v:V}{c:Value}(h:Rel w (At G T lk w) B v c):v.far:=by
 cases h with
 |sl l z n cs a cap xs h1=>cases l<;>first|trivial|exact h1.elim
 |ep l cs off a z n cap xs h1=>cases l<;>first|trivial|exact h1.elim
 |_=>trivial
def vT:List Value->Value
 |[c]=>c
 |cs=>.tuple cs.toArray
theorem yL{G:Gh}{T:Nat->Nat}{lk:Nat->Bool}{w:World}{e:Nat->V}{rs:List V}{cs:List Value}(h:RelL w (At G T lk w) G.bxB rs cs):VR G (At G T lk w) w e (packed rs) (vT cs):=by
 cases h with
 |nil=>exact Rel.tup [] #[] .nil
 |cons v c rs cs h1 h2=>
  cases h2 with
  |nil=>exact VR.of_rel h1.far h1
  |cons v' c' rs' cs' h3 h4=>exact Rel.tup _ _ (by simpa using RelL.cons _ _ _ _ h1 (RelL.cons _ _ _ _ h3 h4))
theorem V.agg_or(v:V):(∃cs,v=.agg cs)\/(v.labs=v.labs1/\v.news=v.news1/\v.gone=v.gone1):=by
 cases v<;>first|exact .inl ⟨_,rfl⟩|exact .inr ⟨rfl,rfl,rfl⟩
theorem aDq{v:V}{i f:Nat}(h:Lab.own i f∈v.labs):i∈v.news:=by
 have one:∀{u:V},Lab.own i f∈u.labs1->i∈u.news1:=fun{u} h=>by
  cases u<;>simp[V.labs1]at h<;>subst h<;>simp[V.news1,Lab.news]
 rcases v.agg_or with⟨cs,rfl⟩|⟨e1,e2,e3⟩
 .simp only[V.labs,V.news,List.mem_flatMap]at *;obtain⟨u,hu,h⟩:=h;exact⟨u,hu,one h⟩
 .rw[e1]at h;rw[e2];exact one h
theorem aDr{v:V}{i:Nat}(h:Lab.arg i∈v.labs):i∈v.gone:=by
 have one:∀{u:V},Lab.arg i∈u.labs1->i∈u.gone1:=fun{u} h=>by
  cases u<;>simp[V.labs1]at h<;>subst h<;>simp[V.gone1,Lab.gone]
 rcases v.agg_or with⟨cs,rfl⟩|⟨e1,e2,e3⟩
 .simp only[V.labs,V.gone,List.mem_flatMap]at *;obtain⟨u,hu,h⟩:=h;exact⟨u,hu,one h⟩
 .rw[e1]at h;rw[e3];exact one h
section
variable{D M:Nat->Prop}{G R:Gh}{σ:St}{tm:Array Value}{w w':World}{cons:List Nat}{vs rs:List V}{rcs:List Value}{N d:Nat}{lkR:Nat->Bool}{bx':BX}{r:V}
theorem SR.called(h:SR Ω D M G σ tm w)(hd:d<tm.size)(hR:Ret Ω (aK cons vs σ.lk N G) w R lkR w' rs rcs σ.bx bx')(hlen:vs.length<=64)(hnod:(aD cons 0 vs).Nodup)
  (hfam:∀i nm,cons.contains i=true->fL vs i=some nm->∃b,G.Z b=.fam nm) (ht:qH rs bx'=true\/vs.any aD5=false) (h64:∀i∈newsOf rs,i<64) (hgone:pC cons vs (aX d rs) rs=true) (hr:r.results=rs) :
  ∃G',SR Ω (fun s=>D s\/s=d) M G' (aT σ (aD cons 0 vs) vs d r bx') (tm.setIfInBounds d (vT rcs)) w'/\Fr G w G' w':=by
 have hok:=h.ok;have hfr:=hR.fr;refine⟨aS cons vs rs d G R w.heap.size,?_,aHQ hok hfr hlen h64⟩;have hT0:∀m,σ.tips m<=(aT σ (aD cons 0 vs) vs d r bx').tips m:=fun m=>Nat.le_trans lX lX
 have hT1:∀m,bI cons vs m≠none->σ.tips m<(aT σ (aD cons 0 vs) vs d r bx').tips m:=fun m hm=>by
  have:m∈aD cons 0 vs:=by
   by_cases hmm:m∈aD cons 0 vs
   .exact hmm
   .exact absurd (gV.2 hmm) hm
  exact Nat.lt_of_lt_of_le (aBi this) lX
 have hT2:∀m,m∈aX d rs->σ.tips m<(aT σ (aD cons 0 vs) vs d r bx').tips m:=fun m hm=>by
  refine Nat.lt_of_le_of_lt (lX (l:=aD cons 0 vs)) ?_;simp only[aT,hr];exact aBi hm
 have hlk0:∀m,(aT σ (aD cons 0 vs) vs d r bx').lk m=if m∈(rs.flatMap V.shared).map (aQ d ·)++aD cons 0 vs then true else if m∈aX d rs then false else(if qH rs bx' then σ.lk else fB σ.lk true (aC vs)) m:=fun m=>by
  simp only[aT,hr];rw[lW,lW]
 have hlk1:∀m,m∉aX d rs->σ.lk m=true->(aT σ (aD cons 0 vs) vs d r bx').lk m=true:=fun m hf hm=>by
  rw[hlk0,if_neg hf];split
  .rfl
  .split
   .exact hm
   .rw[lW];split
    .rfl
    .exact hm
 have hlkF:∀i,lkR (64+i)=true->i∈newsOf rs->(aT σ (aD cons 0 vs) vs d r bx').lk (aQ d i)=true:=fun i hi _=>by
  rw[hlk0,if_pos];exact List.mem_append.2 (.inl (List.mem_map.2 ⟨i,hR.lkr i hi,rfl⟩))
 have hlkU:∀m,bI cons vs m≠none->(aT σ (aD cons 0 vs) vs d r bx').lk m=true:=fun m hm=>by
  have:m∈aD cons 0 vs:=by
   by_cases hmm:m∈aD cons 0 vs
   .exact hmm
   .exact absurd (gV.2 hmm) hm
  rw[hlk0,if_pos (List.mem_append.2 (.inr this))]
 have hkeeps:=aC0 (rs:=rs) (d:=d) (lk:=σ.lk) (T:=σ.tips) hok hfr hlen hT0 hT1 hT2 hlk1;have hB:(aS cons vs rs d G R w.heap.size).bxB=R.bxB:=rfl;have hnone:qH rs bx'=false->∀{a:Addr} {len z n cap:Nat},AtR R lkR w' .none a len z n cap->At (aS cons vs rs d G R w.heap.size) (aT σ (aD cons 0 vs) vs d r bx').tips (aT σ (aD cons 0 vs) vs d r bx').lk w' .none a len z n cap:=fun htt {a len z n cap} ha=>by
  have hrv:vs.any aD5=false:=ht.resolve_left (by rw[htt];simp);refine aDp hok hfr hrv hlkF hlkU (fun m hf hm=>?_) ha;rcases hm with hm|hm
  .rw[hlk0,if_neg hf];split
   .rfl
   .rw[if_neg (by rw[htt];simp),lW,if_pos hm]
  .exact hlk1 m hf hm
 have hkB:qH rs bx'=false->jV w' w' (AtR R lkR w') (At (aS cons vs rs d G R w.heap.size) (aT σ (aD cons 0 vs) vs d r bx').tips (aT σ (aD cons 0 vs) vs d r bx').lk w') R.bxB R.bxB:=fun htt=>by
  refine⟨fun l a len z n cap hl ha=>⟨?_,fun _ _=>rfl⟩,fun _ _ hb=>hb⟩;cases l with
  |none=>exact hnone htt ha
  |rv=>exact ha.elim
  |_=>simp[Lab.names]at hl
 have hres:RelL w' (At (aS cons vs rs d G R w.heap.size) (aT σ (aD cons 0 vs) vs d r bx').tips (aT σ (aD cons 0 vs) vs d r bx').lk w') R.bxB (rs.map (V.mapLab (fH d (aT σ (aD cons 0 vs) vs d r bx').tips vs))) rcs:=by
  cases htt:qH rs bx' with
  |true=>
   unfold qH at htt;simp only[Bool.and_eq_true]at htt;have h1:=htt.1;rw[List.all_eq_true]at h1;have:∀(us:List V) (cs:List Value),RelL w' (AtR R lkR w') R.bxB us cs->(∀u∈us,u.plain=true)->RelL w' (At (aS cons vs rs d G R w.heap.size) (aT σ (aD cons 0 vs) vs d r bx').tips (aT σ (aD cons 0 vs) vs d r bx').lk w') R.bxB (us.map (V.mapLab (fH d (aT σ (aD cons 0 vs) vs d r bx').tips vs))) cs:=by
    intro us
    induction us with
    |nil=>intro cs hh _;cases hh;exact .nil
    |cons u us ih=>
     intro cs hh hp;cases hh with
     |cons _ c _ cs k1 k2=>exact .cons _ _ _ _ (k1.plainv (hp u (by simp)) _) (ih cs k2 fun v hv=>hp v (by simp[hv]))
   exact this rs rcs hR.res h1
  |false=>
   have:∀(us:List V) (cs:List Value),RelL w' (AtR R lkR w') R.bxB us cs->(∀u∈us,u∈rs)->RelL w' (At (aS cons vs rs d G R w.heap.size) (aT σ (aD cons 0 vs) vs d r bx').tips (aT σ (aD cons 0 vs) vs d r bx').lk w') R.bxB (us.map (V.mapLab (fH d (aT σ (aD cons 0 vs) vs d r bx').tips vs))) cs:=by
    intro us
    induction us with
    |nil=>intro cs hh _;cases hh;exact .nil
    |cons u us ih=>
     intro cs hh hp;cases hh with
     |cons _ c _ cs k1 k2=>
      refine .cons _ _ _ _ (k1.mapLab (hkB htt) (fun l hl a len z n cap ha=>⟨?_,fun _ _=>rfl⟩) (hR.flat u (hp u (by simp)))) (ih cs k2 fun v hv=>hp v (by simp[hv]));cases l with
      |none=>exact hnone htt ha
      |own i f=>exact aFq hok hfr (List.mem_flatMap.2 ⟨u,hp u (by simp),aDq hl⟩) ha
      |arg i=>
       unfold pC at hgone;rw[List.all_eq_true]at hgone;have hg:=hgone i (List.mem_flatMap.2 ⟨u,hp u (by simp),aDr hl⟩);simp only[Bool.and_eq_true]at hg;obtain⟨g1,g2⟩:=hg;cases hn:fL vs i with
       |none=>rw[hn]at g2;cases g2
       |some nm=>
        rw[hn]at g2;have hf:nm∉aX d rs:=by simpa using g2
        have:=aFr (T':=(aT σ (aD cons 0 vs) vs d r bx').tips) (lk':=(aT σ (aD cons 0 vs) vs d r bx').lk) hok hfr hlen hnod g1 hn hf ha;simp only[fH,oB hn];exact this
      |pre=>exact ha.elim
      |view=>exact ha.elim
      |rv=>exact ha.elim
   exact this rs rcs hR.res fun _ hu=>hu
 have hval:(aT σ (aD cons 0 vs) vs d r bx').env=set σ.env d (packed (rs.map (V.mapLab (fH d (aT σ (aD cons 0 vs) vs d r bx').tips vs)))):=by simp only[aT,hr]
 generalize hvv:packed (rs.map (V.mapLab (fH d (aT σ (aD cons 0 vs) vs d r bx').tips vs)))=val at hval;have hvr:VR (aS cons vs rs d G R w.heap.size) (At (aS cons vs rs d G R w.heap.size) (aT σ (aD cons 0 vs) vs d r bx').tips (aT σ (aD cons 0 vs) vs d r bx').lk w') w' (get (set σ.env d val)) val (vT rcs):=by
  rw[<-hvv];exact yL (G:=aS cons vs rs d G R w.heap.size) hres
 have hnr:=hvr.not_reg;have hg:Goes G (aS cons vs rs d G R w.heap.size) (At G σ.tips σ.lk w) (At (aS cons vs rs d G R w.heap.size) (aT σ (aD cons 0 vs) vs d r bx').tips (aT σ (aD cons 0 vs) vs d r bx').lk w') w w' (get σ.env) (get (set σ.env d val)):=by
  refine⟨hkeeps,fun b s c hb=>⟨(vS (rs:=rs) (d:=d) hok hfr hb).1,rfl,Nat.le_refl _⟩,fun s c v cs he=>?_⟩;rw[iU]at he;split at he
  .exact absurd he (hnr _ _ _)
  .by_cases hex:∃b,G.Z b=.rg s c
   .obtain⟨b,hbz⟩:=hex;have hbb:=h.ok.rgU b s c hbz;refine .inl ⟨cs,he,fun j=>World.cell?_of_block ?_⟩;show w'.heap[G.rgB s c]?=_;rw[<-hbb];exact(vS (rs:=rs) (d:=d) hok hfr hbz).2
   .exact .inr (.inl fun b hbz=>hex ⟨b,hbz⟩)
 refine⟨fun s=>?_,⟨hR.boxes.1,fun i cs hi=>?_⟩,aFp hok hfr hlen hR.ok,fun m hm=>?_,fun b s c hz=>?_,fun d' hm hD b hz=>?_⟩
 .rw[hval];show fN _ _ _ (get (set σ.env d val)) s (get (set σ.env d val) s) _;rw[iU,vN _ _ _ _ hd];split
  .exact(fP hnr).2 hvr
  .refine fN.goes h.ok hg (h.slots s) fun k n cs hv=>?_
   have hs:=h.slots s;rw[hv]at hs;obtain⟨h1,h2,h3,h4⟩:=hs;exact aAX.goes hg ⟨h1,h2,h3,h4⟩ (vS (rs:=rs) (d:=d) hok hfr h3).2 rfl
 .obtain⟨hn,b,h1,h2,xs,e,h3,h4⟩:=hR.boxes.2 i cs hi;refine⟨hn,b,h1,?_,xs,e,h3,?_⟩
  .rw[mT hok hfr (.inr ⟨i,h2⟩),h2];rfl
  .cases htt:qH rs bx' with
   |true=>
    unfold qH aGo at htt;simp only[Bool.and_eq_true,List.all_eq_true]at htt;exact h4.plain (List.all_eq_true.2 (htt.2 cs (List.mem_of_getElem? hi)))
   |false=>exact h4.keepB (hkB htt) hn
 .refine hlk1 m (fun hf=>?_) (h.shared m hm);obtain⟨i,_,rfl⟩:=aAl hf;unfold aQ at hm;omega
 .by_cases hb:b<w.heap.size
  .cases hgz:G.Z b with
   |rg s' c'=>
    rw[(vS (rs:=rs) (d:=d) hok hfr hgz).1]at hz;cases hz;exact(h.clkD b s c hgz).imp id fun⟨k1,k2⟩=>⟨k1,.inl k2⟩
   |fam m=>
    simp only[aS,if_pos hb,hgz]at hz;split at hz
    .split at hz<;>cases hz
    .exact(qY hz).elim
   |bx i=>simp only[aS,if_pos hb,hgz]at hz;exact(qY hz).elim
   |_=>simp only[aS,if_pos hb,hgz]at hz;cases hz
  .simp only[aS,if_neg hb]at hz;exact(qY hz).elim
 .have hnd:d'≠d:=fun e=>hD (.inr e)
  have fromconv:conv cons vs rs d R (R.Z b)=.fam (aQ d' 0)->False:=fun hc=>by
   cases hrz:R.Z b with
   |fam j=>
    rw[hrz]at hc;rcases vR hc with⟨_,c2,c3,_⟩|⟨_,c2,c3⟩
    .obtain⟨_,u2,_⟩:=cS c3;obtain⟨b2,hb2⟩:=hfam j _ u2 c2;exact h.newD d' hm (fun hh=>hD (.inl hh)) b2 hb2
    .exact hnd (mP (by omega) (h64 _ c2) c3).1
   |_=>rw[hrz]at hc;simp only[conv]at hc;cases hc
  by_cases hb:b<w.heap.size
  .cases hgz:G.Z b with
   |fam m=>
    simp only[aS,if_pos hb,hgz]at hz;split at hz
    .split at hz
     .cases hz
     .cases hz;exact h.newD d' hm (fun hh=>hD (.inl hh)) b hgz
    .exact fromconv hz
   |bx i=>simp only[aS,if_pos hb,hgz]at hz;exact fromconv hz
   |_=>simp only[aS,if_pos hb,hgz]at hz;cases hz
  .simp only[aS,if_neg hb]at hz;exact fromconv hz
end
end Go.VM
namespace Go.VM
open Go.RowKit
variable{Ω:World->Prop}
mutual
theorem Rel.nobox{w:World}{A:Pl}{B B':List Nat}{v:V}{c:Value}(h:Rel w A B v c)(hn:v.noBox=true):Rel w A B' v c:=by
 cases h with
 |undef=>exact .undef _
 |bool=>exact .bool _
 |int=>exact .int _ _
 |str=>exact .str _
 |nilp=>exact .nilp
 |nilf=>exact .nilf
 |nili=>exact .nili
 |nils=>exact .nils
 |sl l z n cs a cap xs h1 h2 h3 h4 h5 h6 h7 h8=>exact .sl l z n cs a cap xs h1 h2 h3 h4 h5 h6 (RelL.nobox h7 (by simpa[V.noBox]using hn)) h8
 |ep l cs off a z n cap xs h1 h2 h3 h4=>exact .ep l cs off a z n cap xs h1 h2 (RelL.nobox h3 (by simpa[V.noBox]using hn)) h4
 |bp b off blk h1=>simp[V.noBox]at hn
 |agg cs xs h1=>exact .agg cs xs (RelL.nobox h1 (by simpa[V.noBox]using hn))
 |tup cs xs h1=>exact .tup cs xs (RelL.nobox h1 (by simpa[V.noBox]using hn))
 |fn f a b xs ys h1 h2 h3 h4=>
  simp only[V.noBox,Bool.and_eq_true]at hn;exact .fn f a b xs ys (RelL.nobox h1 hn.1) (RelL.nobox h2 hn.2) h3 h4
 |iface t v c h1 h2=>exact .iface t v c (Rel.nobox h1 (by simpa[V.noBox]using hn)) h2
theorem RelL.nobox{w:World}{A:Pl}{B B':List Nat}{vs:List V}{cs:List Value}(h:RelL w A B vs cs)(hn:bO vs=true):RelL w A B' vs cs:=by
 cases h with
 |nil=>exact .nil
 |cons v c vs cs h1 h2=>
  simp only[bO,Bool.and_eq_true]at hn;exact .cons v c vs cs (Rel.nobox h1 hn.1) (RelL.nobox h2 hn.2)
end
theorem vU(g:Lab->Lab)(v:V):(v.mapLab1 g).noBox=v.noBox:=by cases v<;>simp only[V.mapLab1,V.noBox]
theorem tG(g:Lab->Lab)(cs:List V):bO (cs.map (V.mapLab1 g))=bO cs:=by
 induction cs with
 |nil=>rfl
 |cons v r ih=>simp only[List.map_cons,bO,vU,ih]
theorem yM(g:Lab->Lab)(v:V):(v.mapLab g).noBox=v.noBox:=by
 cases v with
 |agg cs=>simp only[V.mapLab,V.noBox,tG]
 |_=>simp only[V.mapLab,V.mapLab1,V.noBox]
theorem vV(cons:List Nat)(i:Nat)(v:V)(h:v.noBox=true):(cZ cons i v).noBox=true:=by
 unfold cZ;split
 .split
  .simpa only[V.noBox]using h
  .simpa only[V.noBox]using h
 .unfold V.bare;rw[yM];exact h
theorem lM(cons:List Nat):∀(i:Nat) (vs:List V),vs.all V.noBox=true->bO (aI cons i vs)=true
 |_,[],_=>rfl
 |i,v::r,h=>by
  simp only[List.all_cons,Bool.and_eq_true]at h;simp only[aI,bO,vV cons i v h.1,lM cons (i+1) r h.2,Bool.and_true]
theorem pE{rs:List V}(h:rs.all V.plain=true):newsOf rs=[]:=by
 have h1:∀v:V,v.plain1=true->v.news1=[]:=fun v hv=>by cases v<;>first|rfl|cases hv
 have h2:∀cs:List V,cs.all V.plain1=true->cs.flatMap V.news1=[]:=fun cs hc=>by
  induction cs with
  |nil=>rfl
  |cons v r ih=>
   simp only[List.all_cons,Bool.and_eq_true]at hc;rw[List.flatMap_cons,h1 v hc.1,ih hc.2];rfl
 induction rs with
 |nil=>rfl
 |cons v r ih=>
  simp only[List.all_cons,Bool.and_eq_true]at h;unfold newsOf at ih ⊢;rw[List.flatMap_cons,ih h.2,List.append_nil];cases v with
  |agg cs=>exact h2 cs h.1
  |_=>first|rfl|cases h.1
theorem RelL.plains{w w':World}{A A':Pl}{B B':List Nat}{vs:List V}{cs:List Value}(h:RelL w A B vs cs)(hp:vs.all V.plain=true):RelL w' A' B' vs cs:=by
 induction vs generalizing cs with
 |nil=>cases h;exact .nil
 |cons v vs ih=>
  cases h with
  |cons _ c _ cs h1 h2=>
   simp only[List.all_cons,Bool.and_eq_true]at hp;refine .cons _ _ _ _ ?_ (ih h2 hp.2);have hp1:=hp.1;cases v with
   |agg us=>
    obtain⟨xs,rfl,k1⟩:=Rel.agg_inv h1;exact .agg _ _ (k1.plain hp1)
   |_=>exact h1.plain1 hp1
def Invokes(P:Program)(f:FuncId)(args:Array Value)(w:World)(R:Value->World->Prop):Prop:=
 ((callFunc f args).run P w=.ok (.enter f args) w/\Calls P f args w fun e w'=>∃c,e=.returned c/\R c w')\/∃c w',(callFunc f args).run P w=.ok (.value c) w'/\R c w'
def jZ(Ω:World->Prop)(P:Program)(cf:cO):Prop:=∀f vs bx r bx',cf f vs bx=some (r,bx')->(newsOf r.results).all (·<64)=true->
 ∀G w cs,Start Ω G w vs cs bx->Invokes P f cs.toArray w fun c w'=>∃rcs G' lk,c=vT rcs/\Ret Ω G w G' lk w' r.results rcs bx bx'
section
variable{P:Program}{D M:Nat->Prop}{G:Gh}{σ:St}{a:Act}{w:World}{o:Oper}{t0:Nat->Nat}{hh:Hints}{cf:cO}{sg:Nat->Sig}
theorem Invokes.mono{f:FuncId}{args:Array Value}{R R':Value->World->Prop}(h:Invokes P f args w R)(hr:∀c w',R c w'->R' c w'):Invokes P f args w R':=by
 rcases h with⟨h1,h2⟩|⟨c,w',h1,h2⟩
 .exact .inl ⟨h1,h2.mono fun e w' ⟨c,k1,k2⟩=>⟨c,k1,hr _ _ k2⟩⟩
 .exact .inr ⟨c,w',h1,hr _ _ h2⟩
theorem aC1(hcf:jZ Ω P cf){tm:Array Value}(h:SR Ω D M G σ tm w){d f:Nat}{vs:List V}{cs:List Value}{q:Bool}{av:List Nat}{σ':St}(hl:vs.length=cs.length)(hargs:∀(i:Nat) v c,vs[i]?=some v->cs[i]?=some c->VR G (At G σ.tips σ.lk w) w (get σ.env) v c)
  (hs:mI cf sg σ (some d) f vs q av=some σ') (hd:d<tm.size):Invokes P f cs.toArray w fun c w'=>∃G',SR Ω (fun s=>D s\/s=d) M G' σ' (tm.setIfInBounds d c) w'/\Fr G w G' w':=by
 unfold mI at hs;simp only at hs;split at hs
 .rename_i hc;obtain⟨c1,c2,c3,c4,_⟩:=hc;cases hr:cf f (aI (sg f).cons 0 vs) σ.bx with
  |none=>rw[hr]at hs;cases hs
  |some x=>
   obtain⟨r,bx⟩:=x;rw[hr]at hs;simp only at hs;split at hs
   .rename_i hg;obtain⟨g1,g2,g3,_⟩:=hg;cases hs;obtain⟨N,hst⟩:=h.start hl hargs c1 c2 c3 c4;refine(hcf f _ _ _ _ hr g2 _ w cs hst).mono fun c w' ⟨rcs,G',lk,k1,k2⟩=>?_
    subst k1;refine h.called hd k2 c1 c4 (fun i nm hci hn=>?_) (g1.imp id fun hx=>by simpa using hx) (fun i hi=>by
     have:=List.all_eq_true.1 g2 i hi;simpa using this) g3 rfl
    obtain⟨k,z,n,ds,hv⟩:=argNm_some hn;have hi:=(List.getElem?_eq_some_iff.1 hv).1;have hvr:=hargs i _ _ hv (List.getElem?_eq_getElem (hl▸hi));have how:=jY c3 hv;rw[Nat.zero_add]at how;have hk:k=σ.tips nm:=by
     simp only[jO,hci,Bool.not_true,Bool.false_or,beq_iff_eq]at how;exact how
    obtain⟨b,cap,xs,p1,p2,_⟩:=Rel.sl_inv hvr;exact⟨b.block,(p2.2.2 hk).1.1⟩
   .cases hs
 .cases hs
def Gh.priv(G:Gh):Gh:={G with bxB:=[],Z:=fun b=>match G.Z b with
 |.bx _=>.out
 |z=>z}
theorem aC2(hcf:jZ Ω P cf){tm:Array Value}(h:SR Ω D M G σ tm w){d f:Nat}{vs:List V}{cs:List Value}{av:List Nat}{σ':St}(hl:vs.length=cs.length)(hargs:∀(i:Nat) v c,vs[i]?=some v->cs[i]?=some c->VR G (At G σ.tips σ.lk w) w (get σ.env) v c)
  (hs:tD cf sg σ (some d) f vs av=some σ') (hd:d<tm.size):Invokes P f cs.toArray w fun c w'=>∃G',SR Ω (fun s=>D s\/s=d) M G' σ' (tm.setIfInBounds d c) w'/\Fr G w G' w':=by
 unfold tD at hs;simp only at hs;split at hs
 .rename_i hc;obtain⟨c1,c2,c3,c4,c5⟩:=hc;cases hr:cf f (aI (sg f).cons 0 vs) []with
  |none=>rw[hr]at hs;cases hs
  |some x=>
   obtain⟨r,bx⟩:=x;rw[hr]at hs;simp only at hs;split at hs
   .rename_i hg;cases hs;obtain⟨N,hst⟩:=h.start hl hargs c1 c2 c3 (by rw[c4];exact List.nodup_nil);have hui:∀nm,bI (sg f).cons vs nm=none:=fun nm=>gV.2 (by rw[c4];simp)
    have hnf:∀b nm,(aK (sg f).cons vs σ.lk N G).Z b≠.fam nm:=fun b nm hz=>by
     obtain⟨m,_,h2⟩:=kW hz;rw[hui]at h2;cases h2
    have hzz:∀b,((aK (sg f).cons vs σ.lk N G).priv).Z b=.out\/∃n,((aK (sg f).cons vs σ.lk N G).priv).Z b=.st n:=fun b=>by
     cases hz:(aK (sg f).cons vs σ.lk N G).Z b with
     |out=>exact .inl (by simp only[Gh.priv,hz])
     |st n=>exact .inr ⟨n,by simp only[Gh.priv,hz]⟩
     |fam nm=>exact absurd hz (hnf b nm)
     |rg s c=>exact absurd hz (hst.norg b s c)
     |bx i=>exact .inl (by simp only[Gh.priv,hz])
    have hst2:Start Ω (aK (sg f).cons vs σ.lk N G).priv w (aI (sg f).cons 0 vs) cs []:=by
     have hnx:=hst.ok.next (G':=(aK (sg f).cons vs σ.lk N G).priv) (w':=w) (fun b h1 h2=>⟨h2,rfl,hzz b⟩) rfl;refine⟨⟨fun b hb=>hst.ok.lt b fun hz=>hb (by simp only[Gh.priv,hz]),fun b nm hz=>?_,fun b nm hz=>?_,fun b s c hz=>?_,hnx.1,hnx.2⟩,fun b s c hz=>?_,fun b nm hz=>?_,?_,rfl,fun i ds hi=>by simp at hi⟩
     iterate 5
      .rcases hzz b with h1|⟨n,h1⟩<;>rw[h1]at hz<;>cases hz
     .refine RelL.nobox (B:=(aK (sg f).cons vs σ.lk N G).bxB) (hst.args.keep ⟨fun l a len z n cap ha=>⟨?_,fun _ _=>rfl⟩,fun _ _ hb=>hb⟩) ?_
      .have hst':∀{a:Addr} {len:Nat},qJ (aK (sg f).cons vs σ.lk N G) a len->qJ (aK (sg f).cons vs σ.lk N G).priv a len:=fun hh=>hh.over fun n hz=>by simp only[Gh.priv,hz]
       cases l with
       |none=>
        rcases ha with ha|ha|⟨nm,q1,q2,q3⟩
        .exact .inl ha
        .exact .inr (.inl (hst' ha))
        .exact absurd q2 (hnf _ _)
       |own nm k=>
        obtain⟨q1,q2,q3⟩:=ha;refine⟨q1,q2.imp hst' fun q=>absurd q.1 (hnf _ _),fun hk=>absurd (q3 hk).1.1 (hnf _ _)⟩
       |pre nm k=>
        obtain⟨q1,q2,q3⟩:=ha;exact⟨q1,q2.imp hst' fun q=>absurd q.1 (hnf _ _),fun hk=>absurd (q3 hk).1 (hnf _ _)⟩
       |view nm=>exact Or.imp hst' (fun q=>absurd q.1 (hnf _ _)) ha
       |rv=>exact ha.elim
       |arg=>exact ha.elim
      .exact lM _ _ _ (by simpa using c5)
    have hpl:(newsOf r.results).all (·<64)=true:=by
     rw[pE hg];rfl
    refine(hcf f _ _ _ _ hr hpl _ w cs hst2).mono fun c w' ⟨rcs,G',lk,k1,k2⟩=>?_
    subst k1;have hcalm:Calm w w':=⟨k2.fr.os,k2.fr.tape,k2.fr.output,k2.fr.size,fun b hb=>(k2.fr.rest b hb (hzz b)).1⟩;have h2:SR Ω D M G σ tm w':=h.grow (G':=G) hcalm (fun _ _=>rfl) (fun _ _ _=>⟨rfl,rfl⟩) (fun _ _ _ _=>⟨rfl,rfl⟩) rfl
     ⟨fun b hb=>Nat.lt_of_lt_of_le (h.ok.lt b hb) hcalm.size,h.ok.famU,fun b nm hb=>by
      obtain⟨cur,e,k1,k2⟩:=h.ok.famC b nm hb;exact⟨cur,e,by rw[hcalm.block b (h.ok.lt b (by rw[hb];simp))];exact k1,k2⟩,h.ok.rgU,(h.ok.calm hcalm (fun _ _=>rfl) rfl).1,(h.ok.calm (G':=G) hcalm (fun _ _=>rfl) rfl).2⟩ h.clkD h.newD
    exact⟨G,h2.put hd (yL (T:=σ.tips) (lk:=σ.lk) (k2.res.plains hg)),nY h.ok hcalm (fun _ _=>rfl) (fun _ _ _=>rfl) (fun _ _ hb=>hb)⟩
   .cases hs
 .cases hs
theorem qZ(hcf:jZ Ω P cf){tm:Array Value}(h:SR Ω D M G σ tm w){d f:Nat}{vs:List V}{cs:List Value}{q:Bool}{av:List Nat}{σ':St}(hl:vs.length=cs.length)(hargs:∀(i:Nat) v c,vs[i]?=some v->cs[i]?=some c->VR G (At G σ.tips σ.lk w) w (get σ.env) v c)
  (hs:eQ cf sg σ (some d) f vs q av=some σ') (hd:d<tm.size):Invokes P f cs.toArray w fun c w'=>∃G',SR Ω (fun s=>D s\/s=d) M G' σ' (tm.setIfInBounds d c) w'/\Fr G w G' w':=by
 unfold eQ at hs;split at hs
 .exact aC2 hcf h hl hargs hs hd
 .exact aC1 hcf h hl hargs hs hd
theorem uE{xs:List Operand}{ys:List Opd}(h:eE xs=some ys):ys.length=xs.length/\∀(i:Nat) x y,xs[i]?=some x->ys[i]?=some y->aJ x=some y:=by
 induction xs generalizing ys with
 |nil=>cases h;exact⟨rfl,fun i x y h=>by simp at h⟩
 |cons x r ih=>
  simp only[eE]at h;split at h
  .rename_i y ys' h1 h2;cases h;obtain⟨k1,k2⟩:=ih h2;refine⟨by simp[k1],fun i x' y' e1 e2=>?_⟩;cases i with
   |zero=>simp at e1 e2;subst e1 e2;exact h1
   |succ i=>simp at e1 e2;exact k2 i x' y' e1 e2
  .cases h
theorem aC3{f:FuncId}{args:Array Value}{R:Value->World->Prop}{K:Act->World->Prop}{Q:Exit->Act->World->Prop}(hrun:(execOp a.eval o).run P w=(callFunc f args).run P w)(h:Invokes P f args w R)(hK:∀c w',R c w'->K (a.put o.dst c) w'):o.wp P a w K Q:=by
 unfold Oper.wp;rcases h with⟨h1,h2⟩|⟨c,w',h1,h2⟩
 .rw[hrun,h1];exact h2.mono fun e w' ⟨c,k1,k2⟩=>by subst k1;exact hK c w' k2
 .rw[hrun,h1];exact hK c w' h2
theorem uF{d:Option Nat}{f:Nat}{vs:List V}{q:Bool}{av:List Nat}{σ':St}(h:eQ cf sg σ d f vs q av=some σ'):∃d',d=some d':=by
 cases d with
 |none=>unfold eQ at h;split at h<;>cases h
 |some d=>exact⟨d,rfl⟩
def aJq(Ω:World->Prop)(D M:Nat->Prop)(G:Gh)(σ':St)(a:Act)(w:World)(a':Act)(w':World):Prop:=
 ∃G',SR Ω D M G' σ' a'.tmps w'/\Fr G w G' w'/\a'.tmps.size=a.tmps.size/\a'.defers=a.defers
theorem mV(a:Act)(d:Option Nat)(c:Value):(a.put d c).tmps.size=a.tmps.size/\(a.put d c).defers=a.defers:=by
 cases d<;>simp[Act.put]
theorem aC4{op:Op}{d:Option Nat}{vo:VOp}(hc:aE P hh d op=some vo)(hn:vo.calls=true):∃c,op=.call c:=by
 cases op with
 |call c=>exact⟨c,rfl⟩
 |slice t x lo hi mx=>
  exfalso;cases mx with
  |some m=>simp only[aE]at hc;cases hc
  |none=>
   simp only[aE]at hc
   repeat' first
    |(cases hc;done)
    |(cases hc;cases hn;done)
    |(obtain⟨_,_,rfl⟩:=Option.map_eq_some_iff.1 hc;cases hn;done)
    |split at hc
 |_=>
  exfalso;simp only[aE]at hc
  repeat' first
   |(cases hc;done)
   |(cases hc;cases hn;done)
   |(obtain⟨_,_,rfl⟩:=Option.map_eq_some_iff.1 hc;cases hn;done)
   |split at hc
theorem aDs{c:Call}{d:Option Nat}{vo:VOp}(hc:aE P hh d (.call c)=some vo)(hn:vo.calls=true) :
  (∃f ys,c.callee=.value (.func f)/\eE c.args.toList=some ys/\vo=.call f ys (aJD hh d) (aF4 hh d))\/(∃x x' ys,c.callee=.value x/\aJ x=some x'/\eE c.args.toList=some ys/\vo=.callv x' ys (aJD hh d) (aF4 hh d)):=by
 simp only[aE]at hc;split at hc
 .rename_i f hcal;obtain⟨ys,h1,rfl⟩:=Option.map_eq_some_iff.1 hc;exact .inl ⟨f,ys,hcal,h1,rfl⟩
 .rename_i x _ hcal;split at hc
  .rename_i x' ys h1 h2;cases hc;exact .inr ⟨x,x',ys,hcal,h1,h2,rfl⟩
  .cases hc
 .exfalso;split at hc
  .split at hc
   .obtain⟨i,_,hc⟩:=Option.bind_eq_some_iff.1 hc;split at hc
    .split at hc
     .cases hc;cases hn
     .cases hc
    .cases hc
   .obtain⟨i,_,hc⟩:=Option.bind_eq_some_iff.1 hc;split at hc
    .split at hc
     .cases hc;cases hn
     .cases hc
    .cases hc
   .obtain⟨i,_,hc⟩:=Option.bind_eq_some_iff.1 hc;split at hc
    .split at hc
     .cases hc;cases hn
     .cases hc
    .cases hc
   .cases hc
  .cases hc
 .exfalso;split at hc
  .split at hc
   .cases hc;cases hn
   .cases hc;cases hn
   .cases hc;cases hn
   .cases hc
  .cases hc
 .exfalso;split at hc
  .cases hc;cases hn
  .cases hc
 .exfalso;split at hc
  .cases hc;cases hn
  .cases hc
 .cases hc
theorem aJa(hcf:jZ Ω P cf)(h:SR Ω D M G σ a.tmps w){vo:VOp}(hc:aE P hh o.dst o.op=some vo){σ':St}(hs:aU cf sg σ t0 o.dst vo=some σ')(hsz:∀d,o.dst=some d->d<a.tmps.size)
  (hD:∀d,o.dst=some d->¬D d) (hM:∀d,o.dst=some d->vo.rowed=true->M d) (ht:∀nm,t0 nm<=σ.tips nm) {K:Act->World->Prop} {Q:Exit->Act->World->Prop}
  (hK:∀a' w',aJq Ω (fun s=>D s\/o.dst=some s) M G σ' a w a' w'->K a' w'):o.wp P a w K Q:=by
 by_cases hn:vo.calls=true
 ·
  have hcall:=aC4 hc hn;obtain⟨c,hop⟩:=hcall;rw[hop]at hc;have hinv:=aDs hc hn;obtain⟨callee,args,argTypes⟩:=c;have fin:∀{d f:Nat} {cs:List Value},o.dst=some d->(execOp a.eval o).run P w=(callFunc f cs.toArray).run P w->(Invokes P f cs.toArray w fun c w'=>∃G',SR Ω (fun s=>D s\/s=d) M G' σ' (a.tmps.setIfInBounds d c) w'/\Fr G w G' w')->o.wp P a w K Q:=fun{d f cs} hd hrun hi=>by
   refine aC3 hrun hi fun c w' ⟨G',k1,k2⟩=>hK _ _ ⟨G',?_,k2,mV _ _ _⟩
   rw[cG a hd];exact k1.mono fun s=>(fD hd s).1
  rcases hinv with⟨f,ys,rfl,hx,rfl⟩|⟨x,x',ys,rfl,hx,hys,rfl⟩
  .simp only[aU]at hs;obtain⟨d,hd⟩:=uF hs;rw[hd]at hs;obtain⟨k1,k2⟩:=uE hx;refine fin (cs:=args.toList.map a.eval) hd ?_ (qZ hcf h (by simp only[List.length_map];exact k1) (fun i v c hv hcv=>?_) hs (hsz d hd))
   .unfold execOp;simp[hop,resolve,Deferred.ofValue,invoke,Act.eval];congr 2;apply Array.ext';simp
   .rw[List.getElem?_map]at hv hcv;cases hy:ys[i]? with
    |none=>rw[hy]at hv;cases hv
    |some y=>
     cases hxx:args.toList[i]? with
     |none=>rw[hxx]at hcv;cases hcv
     |some x=>
      rw[hy]at hv;rw[hxx]at hcv;cases hv;cases hcv;exact h.opd (k2 i x y hxx hy)
  .simp only[aU]at hs;split at hs
   .rename_i f first cap e1
    obtain⟨d,hd⟩:=uF hs;rw[hd]at hs;obtain⟨k1,k2⟩:=uE hys;have hf:=h.opd hx;rw[e1]at hf;obtain⟨xs,zs,f1,f2,f3,f4,f5⟩:=Rel.fn_inv hf;refine fin (cs:=xs.toList++args.toList.map a.eval++zs.toList) hd ?_ (qZ hcf h (by simp only[List.length_append,List.length_map,f2.length,f3.length,k1]) (fun i v c hv hcv=>?_) hs (hsz d hd))
    .unfold execOp;simp[hop,resolve,Deferred.ofValue,invoke,f1];congr 2;apply Array.ext';simp
    .have hl1:=f2.length;have hl2:(ys.map (ev (get σ.env))).length=(args.toList.map a.eval).length:=by simp only[List.length_map];exact k1
     by_cases hi:i<(first++ys.map (ev (get σ.env))).length
     .rw[List.getElem?_append_left hi]at hv;rw[List.getElem?_append_left (by rw[List.length_append]at hi ⊢;omega)]at hcv;by_cases hi2:i<first.length
      .rw[List.getElem?_append_left hi2]at hv;rw[List.getElem?_append_left (by omega)]at hcv;obtain⟨c',q1,q2⟩:=f2.get hv;rw[hcv]at q1;cases q1;exact VR.of_rel q2.far q2
      .rw[List.getElem?_append_right (by omega)]at hv;rw[List.getElem?_append_right (by omega),<-hl1]at hcv;rw[List.getElem?_map]at hv hcv;cases hy:ys[i-first.length]? with
       |none=>rw[hy]at hv;cases hv
       |some y=>
        cases hxx:args.toList[i-first.length]? with
        |none=>rw[hxx]at hcv;cases hcv
        |some x=>
         rw[hy]at hv;rw[hxx]at hcv;cases hv;cases hcv;exact h.opd (k2 _ x y hxx hy)
     .rw[List.getElem?_append_right (by omega)]at hv;rw[List.getElem?_append_right (by rw[List.length_append]at hi ⊢;omega)]at hcv;have he:(xs.toList++args.toList.map a.eval).length=(first++ys.map (ev (get σ.env))).length:=by rw[List.length_append,List.length_append];omega
      rw[he]at hcv;obtain⟨c',q1,q2⟩:=f3.get hv;rw[hcv]at q1;cases q1;exact VR.of_rel q2.far q2
   .cases hs
 .obtain⟨c,w',G',h1,h2,h3⟩:=aHP h hc (by simpa using hn) hs hsz hD hM ht;unfold Oper.wp;rcases h1 with h1|⟨h1,rfl⟩
  .rw[h1];exact hK _ _ ⟨G',h2,h3,mV _ _ _⟩
  .rw[h1];exact hK _ _ ⟨G',h2,h3,mV _ _ _⟩
end
end Go.VM
