/- Functions that are walked by hand and change a shared variable (a deck: a row and a place in it): what their calls see, and what they hand back. -/
import Derived.Test.YtgfmodmeimhhpaaDoorH3
open List(append_nil mem_singleton length_set mem_cons)
open Nat(lt_of_lt_of_le le_trans)
namespace Go.VM
open Go.RowKit
variable{Ω:World->Prop}
abbrev tyDk:Ty:=.st (.pair (.sl (.int .i64)) (.int .i64))
def Gh.deck(G:Gh)(dk lo:Nat):Gh:={G.hide with bxB:=[dk],Z:=fun b=>if b=dk then .bx 0 else G.hide.Z b,lo:=lo}
theorem deck_ne{G:Gh}{dk lo b:Nat}(h:b≠dk):(G.deck dk lo).Z b=G.hide.Z b:=by simp only[Gh.deck,if_neg h]
theorem deck_dk{G:Gh}{dk lo:Nat}:(G.deck dk lo).Z dk=.bx 0:=by simp only[Gh.deck,if_true]
structure DkIn(G:Gh)(w:World)(dk:Nat)(V0:V)(H:Gh)(W:World)(at_:Int):Prop where
 lt:∀b,H.Z b≠.out->b<W.heap.size
 zone:∀b,b≠dk->H.Z b=.out\/∃n,H.Z b=.st n
 dkz:H.Z dk=.bx 0
 bxB:H.bxB=[dk]
 cells:∃xs e,W.heap[dk]?=some (.cells xs e (0,0))/\RelL W (A0 H W) [dk] [V0,.int .i64 at_] xs.toList
 keep:∀b,b<w.heap.size->b≠dk->W.heap[b]?=w.heap[b]?/\H.Z b=G.hide.Z b
 size:w.heap.size<=W.heap.size
 lo:H.lo=G.lo
 os:W.os=w.os
 tape:W.tape=w.tape
 output:W.output=w.output
section
variable{G H:Gh}{w W:World}{dk i:Nat}{V0:V}{at_:Int}
theorem DkIn.gok(hd:DkIn G w dk V0 H W at_)(hG:GOk Ω G w)(hz:G.Z dk=.bx i):GOk Ω H W:=by
 have hnf:∀b nm,H.Z b≠.fam nm:=fun b nm h=>by by_cases e:b=dk;subst e;rw[hd.dkz]at h;cases h;rcases hd.zone b e with h2|⟨n,h2⟩<;>rw[h2]at h<;>cases h
 have hnr:∀b s c,H.Z b≠.rg s c:=fun b s c h=>by by_cases e:b=dk;subst e;rw[hd.dkz]at h;cases h;rcases hd.zone b e with h2|⟨n,h2⟩<;>rw[h2]at h<;>cases h
 have hne:∀b,b<G.lo->b<w.heap.size/\b≠dk:=fun b hb=>by obtain⟨h1,h2⟩:=hG.low b hb;refine⟨h1,fun e=>?_⟩;subst e;rw[hz]at h2;rcases h2 with h2|⟨n,h2⟩<;>cases h2
 refine⟨hd.lt,fun b nm h=>absurd h (hnf b nm),fun b nm h=>absurd h (hnf b nm),fun b s c h=>absurd h (hnr b s c),fun b hb=>?_,fun w' h=>hG.inv w' fun b hb=>?_⟩;rw[hd.lo]at hb;obtain⟨h1,h2⟩:=hne b hb;exact⟨lt_of_lt_of_le h1 hd.size,hd.zone b h2⟩;obtain⟨h1,h2⟩:=hne b hb;rw[h b (by rw[hd.lo];exact hb),(hd.keep b h1 h2).1]
theorem DkIn.move{W2:World}(hd:DkIn G w dk V0 H W at_)(hk:∀b,b<W.heap.size->(H.Z b≠.out\/b<w.heap.size)->W2.heap[b]?=W.heap[b]?)(hs:W.heap.size<=W2.heap.size)(h1:W2.os=W.os)(h2:W2.tape=W.tape)(h3:W2.output=W.output):DkIn G w dk V0 H W2 at_:=by
 obtain⟨xs,e,k1,k2⟩:=hd.cells;have hdk:dk<W.heap.size:=hd.lt dk (by rw[hd.dkz];simp);refine⟨fun b h=>lt_of_lt_of_le (hd.lt b h) hs,hd.zone,hd.dkz,hd.bxB,⟨xs,e,by rw[hk dk hdk (.inl (by rw[hd.dkz];simp))];exact k1,?_⟩,fun b hb hne=>⟨?_,(hd.keep b hb hne).2⟩,le_trans hd.size hs,hd.lo,h1.trans hd.os,h2.trans hd.tape,h3.trans hd.output⟩;refine k2.keep ⟨fun l a len z n cap ha=>⟨?_,fun j hj=>?_⟩,fun _ _ h=>h⟩;cases l with
 |none=>exact ha|own nm k=>
  obtain⟨q1,q2,q3⟩:=ha;refine⟨q1,q2,fun e=>?_⟩;have q4:H.Z a.block=.fam nm:=(q3 e).1.1;exfalso;by_cases e:a.block=dk;rw[e,hd.dkz]at q4;cases q4;rcases hd.zone _ e with h2|⟨n,h2⟩<;>rw[h2]at q4<;>cases q4
 |pre nm k=>
  obtain⟨q1,q2,q3⟩:=ha;refine⟨q1,q2,fun e=>?_⟩;have q4:H.Z a.block=.fam nm:=(q3 e).1;exfalso;by_cases e:a.block=dk;rw[e,hd.dkz]at q4;cases q4;rcases hd.zone _ e with h2|⟨n,h2⟩<;>rw[h2]at q4<;>cases q4
 |view nm=>exact ha|rv=>exact ha|arg=>exact ha
 · have hzn : H.Z a.block ≠ .out := by
     have st:∀len,qJ H a len->H.Z a.block≠.out:=fun len ⟨n,h,_⟩=>by rw[h];simp
     have rd:∀nm len,Rd H nm a len->H.Z a.block≠.out:=fun nm len h=>by rcases h with h|⟨h,_⟩;exact st _ h;rw[h];simp
     cases l with
     |none=>
      rcases ha with ha|ha|⟨nm,_,h,_⟩;omega;exact st _ ha;rw[h];simp
     |own nm k=>exact rd _ _ ha.2.1|pre nm k=>exact rd _ _ ha.2.1|view nm=>exact rd _ _ ha|rv=>exact ha.elim|arg=>exact ha.elim
   unfold World.cell?;rw[bM,hk _ (hd.lt _ hzn) (.inl hzn)]
 rw[hk b (lt_of_lt_of_le hb hd.size) (.inr hb)];exact(hd.keep b hb hne).1
theorem Start.deck{vs:List V}{cs:List Value}{bx:BX}(hs:Start Ω G w (.bp i 0::vs) cs bx)(hb:bx[i]?=some [V0,.int .i64 at_])(hn:bO [V0,.int .i64 at_]=true) :
  ∃cs',∃dk,cs=.pointer (some ⟨dk,0,none⟩)::cs'/\G.bxB[i]?=some dk/\G.Z dk=.bx i/\dk<w.heap.size/\RelL w (A0 G w) G.bxB vs cs'/\DkIn G w dk V0 (G.deck dk G.lo) w at_:=by
 have hargs:=hs.args;cases hargs with
 |cons _ c _ cs' h1 h2=>
  cases h1 with|bp _ _ dk hdk=>
   obtain⟨hnm,b,k1,k2,xs,e,k3,k4⟩:=hs.boxes.2 i _ hb;rw[hdk]at k1;cases k1;have hlt:dk<w.heap.size:=hs.ok.lt dk (by rw[k2];simp);refine⟨cs',dk,rfl,hdk,k2,hlt,h2,⟨fun b h=>?_,fun b hne=>?_,deck_dk,rfl,⟨xs,e,k3,?_⟩,fun b hb hne=>⟨rfl,deck_ne hne⟩,Nat.le_refl _,rfl,rfl,rfl,rfl⟩⟩;by_cases e:b=dk;subst e;exact hlt;rw[deck_ne e]at h;exact hs.ok.lt b fun e=>h (by simp only[Gh.hide,e])
   rw[deck_ne hne];exact hide_rest G b
   · have hk : jV w w (A0 G w) (A0 (G.deck dk G.lo) w) G.bxB G.bxB := ⟨fun l a len z n cap hl ha => by
       cases l with
       |none=>
        rcases ha with ha|⟨n',q1,q2⟩|⟨nm,q1,q2,q3⟩;exact⟨.inl ha,fun j hj=>rfl⟩;exact⟨.inr (.inl ⟨n',by rw[deck_ne (fun e=>by rw[e,k2]at q1;cases q1)];simp only[Gh.hide,q1],q2⟩),fun j _=>rfl⟩;exact⟨.inr (.inl ⟨G.ext nm,by rw[deck_ne (fun e=>by rw[e,k2]at q2;cases q2)];simp only[Gh.hide,q2],q3⟩),fun j _=>rfl⟩
       |rv s c v=>exact absurd ha (by simp[A0,At])|_=>simp[Lab.names]at hl,fun i blk h=>h⟩
     exact RelL.nobox (k4.keepB hk hnm) hn
def resV:V->Prop
 |.int ..|.nils=>True|.sl .none _ _ _=>True|.sl (.own j _) _ _ _=>j<64|_=>False
theorem resV_results{v:V}(h:resV v):v.results=[v]:=by cases v<;>first|rfl|cases h
theorem resV_64{v:V}(h:resV v):(cP [v]).all (·<64)=true:=by
 rw[List.all_eq_true];intro x hx;obtain⟨c,hc,hx⟩:=aG0 hx;simp only[List.flatMap_cons,List.flatMap_nil,append_nil]at hc;cases v with
 |sl l z n ws=>
  simp only[V.cells,mem_singleton]at hc;subst hc;cases l with
  |own j k=>have h:j<64:=h;simp only[V.news1,Lab.news,mem_singleton]at hx;subst hx;exact decide_eq_true h|none=>simp[V.news1,Lab.news]at hx|_=>exact h.elim
 |int k n=>simp only[V.cells,mem_singleton]at hc;subst hc;simp[V.news1]at hx|nils=>simp only[V.cells,mem_singleton]at hc;subst hc;simp[V.news1]at hx|_=>exact h.elim
theorem rel_rest{H1 H2:Gh}{lk:Nat->Bool}{B:List Nat}{v:V}{c:Value}(h:Rel W (AtR H1 lk W) B v c)(hl:resV v)
  (h1:∀b n,H1.Z b=.st n->H2.Z b=.st n) (h2:∀b nm,H1.Z b=.fam nm->H2.Z b=.st (H1.ext nm)):Rel W (A0 H2 W) B (v.mapLab1 fun _=>.none) c:=by
 have hk:jV W W (AtR H1 lk W) (A0 H2 W) B B:=⟨fun l a len z n cap hl ha=>by
  cases l with
  |none=>
   rcases ha with ha|⟨n',q1,q2⟩|⟨nm,q1,q2,q3⟩;exact⟨.inl ha,fun j hj=>rfl⟩;exact⟨.inr (.inl ⟨n',h1 _ _ q1,q2⟩),fun j _=>rfl⟩;exact⟨.inr (.inl ⟨H1.ext nm,h2 _ _ q2,q3⟩),fun j _=>rfl⟩
  |rv s c v=>exact absurd ha (by simp[AtR])|view nm=>exact absurd ha (by simp[AtR])|_=>simp[Lab.names]at hl,fun i blk h=>h⟩
 cases v with
 |sl l z n ws=>
  obtain⟨a,cap,xs,rfl,hpl,hz,hxs,hcap,hmax,hrow,hrel,hnm⟩:=h.sl_inv;refine .sl .none z n ws a cap xs ?_ hz hxs hcap hmax hrow (hrel.keepB hk hnm) hnm;cases l with
  |none=>exact(hk.1 _ _ _ _ _ _ rfl hpl).1|own j k=>
   obtain⟨q1,q2,q3⟩:=hpl;refine .inr (.inl ⟨H1.ext (64+j),h2 _ _ q1.1,?_⟩);rw[q1.2.1];simp[q2]
  |_=>exact hl.elim
 |int k n=>exact Rel.keepB hk h rfl|nils=>exact Rel.keepB hk h rfl|_=>exact hl.elim
theorem DkIn.call{P:Program}{F:Nat->Option Entry}(hF:rJ Ω P F){f n:Nat}{vf:VF}(hf:F f=some (.code vf)){vs1:List V}{v0:V}{at':Int}(hC:call F n f (.bp 0 0::vs1) [[V0,.int .i64 at_]]=some (v0,[[V0,.int .i64 at']]))
  (hl:resV v0) (hn0:aC [V0]=[])
  (hG:GOk Ω G w) (hz:G.Z dk=.bx i) (hd:DkIn G w dk V0 H W at_) {cs1:List Value} (h1:RelL W (A0 H W) [dk] vs1 cs1) :
  Calls P f (Value.pointer (some ⟨dk,0,none⟩)::cs1).toArray W fun e W'=>∃c H',e=.returned c/\DkIn G w dk V0 H' W' at'/\Rel W' (A0 H' W') [dk] (v0.mapLab1 fun _=>.none) c/\(∀b,b<W.heap.size->b≠dk->W'.heap[b]?=W.heap[b]?/\H'.Z b=H.Z b)/\W.heap.size<=W'.heap.size:=by
 obtain⟨fn,hh,g1,g2⟩:=hF f _ hf;obtain⟨c,hb,_,_,_,_,_,hname⟩:=iY g2;obtain⟨xs,e,hx1,hx2⟩:=hd.cells;have hok:=hd.gok (i:=i) hG hz;have hst:Start Ω H W (.bp 0 0::vs1) (.pointer (some ⟨dk,0,none⟩)::cs1) [[V0,.int .i64 at_]]:=by
  refine⟨hok,fun b s c h=>?_,fun b nm h=>?_,?_,?_⟩;by_cases e:b=dk;subst e;rw[hd.dkz]at h;cases h;rcases hd.zone b e with h2|⟨n,h2⟩<;>rw[h2]at h<;>cases h
  by_cases e:b=dk;subst e;rw[hd.dkz]at h;cases h;rcases hd.zone b e with h2|⟨n,h2⟩<;>rw[h2]at h<;>cases h
  rw[hd.bxB];exact .cons _ _ _ _ (.bp 0 0 dk rfl) h1;refine⟨by rw[hd.bxB];rfl,fun j cs hj=>?_⟩;rw[hd.bxB];cases j with
  |zero=>cases hj;refine⟨?_,dk,rfl,hd.dkz,xs,e,hx1,hx2⟩;simp only[aC,append_nil,List.append_eq_nil_iff]at hn0 ⊢;exact⟨hn0,rfl⟩|succ j=>simp at hj
 have h64:(cP v0.results).all (·<64)=true:=by rw[resV_results hl];exact resV_64 hl
 rcases aCn hF n f _ _ _ _ hC h64 H W _ hst with⟨_,h3⟩|⟨c',w',h3,_⟩;refine h3.mono fun e W' ⟨c',e1,rcs,H1,lk,e2,hR⟩=>?_
 have hrel:=hR.res;rw[resV_results hl]at hrel;obtain⟨c,rfl,k3⟩:=rel_one hrel;have hB:H1.bxB=[dk]:=by
  have q1:=hR.fr.boxes 0 dk (by rw[hd.bxB];rfl);have q2:1=H1.bxB.length:=hR.boxes.1
  match hq:H1.bxB,q1,q2 with
  |[x],q1,_=>simp at q1;rw[q1]
 obtain⟨_,b',q1,q2,xs',e',q3,q4⟩:=hR.boxes.2 0 _ rfl;rw[hB]at q1;cases q1;have hold:∀b,b<W.heap.size->b≠dk->W'.heap[b]?=W.heap[b]?/\H1.Z b=H.Z b:=fun b hb hne=>hR.fr.rest b hb (hd.zone b hne)
 have hz1:∀b n,H1.Z b=.st n->(H1.deck dk G.lo).Z b=.st n:=fun b n h=>by rw[deck_ne (fun e=>by rw[e,q2]at h;cases h)];simp only[Gh.hide,h]
 have hz2:∀b nm,H1.Z b=.fam nm->(H1.deck dk G.lo).Z b=.st (H1.ext nm):=fun b nm h=>by rw[deck_ne (fun e=>by rw[e,q2]at h;cases h)];simp only[Gh.hide,h]
 have hz3:∀b,b<W.heap.size->b≠dk->(H1.deck dk G.lo).Z b=H.Z b:=fun b hb hne=>by rw[deck_ne hne];simp only[Gh.hide,(hold b hb hne).2];rcases hd.zone b hne with h|⟨n,h⟩<;>rw[h]
 refine⟨c,H1.deck dk G.lo,by rw[e1,e2];rfl,⟨fun b h=>?_,fun b hne=>?_,deck_dk,rfl,⟨xs',e',q3,?_⟩,fun b hb hne=>?_,le_trans hd.size hR.fr.size,rfl,hR.fr.os.trans hd.os,hR.fr.tape.trans hd.tape,hR.fr.output.trans hd.output⟩,?_,fun b hb hne=>⟨(hold b hb hne).1,hz3 b hb hne⟩,hR.fr.size⟩;by_cases e:b=dk;subst e;exact hR.ok.lt b (by rw[q2];simp);rw[deck_ne e]at h;exact hR.ok.lt b fun e=>h (by simp only[Gh.hide,e])
 rw[deck_ne hne];exact hide_rest H1 b;rw[hB]at q4;have hk:jV W' W' (AtR H1 lk W') (A0 (H1.deck dk G.lo) W') [dk] [dk]:=⟨fun l a len z n cap hl ha=>by
  cases l with
  |none=>
   rcases ha with ha|⟨n',q1,q2⟩|⟨nm,q1,q2,q3⟩;exact⟨.inl ha,fun j hj=>rfl⟩;exact⟨.inr (.inl ⟨n',hz1 _ _ q1,q2⟩),fun j _=>rfl⟩;exact⟨.inr (.inl ⟨H1.ext nm,hz2 _ _ q2,q3⟩),fun j _=>rfl⟩
  |rv s c v=>exact absurd ha (by simp[AtR])|view nm=>exact absurd ha (by simp[AtR])|_=>simp[Lab.names]at hl,fun i blk h=>h⟩
 exact RelL.keepB hk q4 (by simp only[aC,append_nil]at hn0 ⊢;rw[hn0];rfl);obtain⟨p1,p2⟩:=hd.keep b hb hne;have hb2:=lt_of_lt_of_le hb hd.size;exact⟨(hold b hb2 hne).1.trans p1,(hz3 b hb2 hne).trans p2⟩;rw[hB]at k3;exact rel_rest k3 hl hz1 hz2;exfalso;unfold callFunc at h3;have hp:(Go.program:Sem Program).run P W=.ok P W:=rfl;rw[Sem.run_bind,hp,Result.andThen_ok,g1]at h3;simp only at h3;rw[if_neg (by rw[hname];simp),if_neg (by rw[hb];simp)]at h3;cases h3
def Adk(H:Gh)(w W:World):Pl
 |.none,a,len,_,_,_=>len=0\/qJ H a len\/(w.heap.size<=a.block/\∃cs e fr,W.heap[a.block]?=some (.cells cs e fr)/\a.off+len<=cs.size)|_,_,_,_,_,_=>False
def zSt(H:Gh)(W:World)(b:Nat):Nat:=max (match H.Z b with|.st n=>n|_=>0) (match W.heap[b]? with|some (.cells cs _ _)=>cs.size|_=>0)
def retG(G H:Gh)(w W:World):Gh:={G with Z:=fun b=>if b<w.heap.size then G.Z b else if b<W.heap.size then .st (zSt H W b)else .out}
theorem retG_old{b:Nat}(h:b<w.heap.size):(retG G H w W).Z b=G.Z b:=by simp only[retG,if_pos h]
theorem retG_new{b:Nat}(h:¬b<w.heap.size)(h2:b<W.heap.size):(retG G H w W).Z b=.st (zSt H W b):=by simp only[retG,if_neg h,if_pos h2]
theorem retG_inv{b:Nat}{z:Zn}(h:(retG G H w W).Z b=z)(hz:z≠.out)(hs:∀n,z≠.st n):G.Z b=z/\b<w.heap.size:=by by_cases hb:b<w.heap.size;rw[retG_old hb]at h;exact⟨h,hb⟩;simp only[retG,if_neg hb]at h;split at h;exact absurd h.symm (hs _);exact absurd h.symm hz
theorem ret_deck{vs:List V}{cs:List Value}{bx:BX}{rs:List V}{rcs:List Value}{at':Int}(hs:Start Ω G w vs cs bx)(hb:bx[i]?=some [V0,.int .i64 at_])(hi:G.bxB[i]?=some dk)(hz:G.Z dk=.bx i)(hn0:aC [V0]=[])(hnb:bO [V0,.int .i64 at']=true)
  (hd:DkIn G w dk V0 H W at') (hrel:RelL W (Adk H w W) [] rs rcs) (hflat:∀v∈rs,v.flat=true) :
  Ret Ω G w (retG G H w W) (fun nm=>decide (nm<64)) W rs rcs bx (bx.set i [V0,.int .i64 at']):=by
 have hout:∀b,¬b<w.heap.size->G.Z b=.out:=fun b hb=>by by_cases ho:G.Z b=.out;exact ho;exact absurd (hs.ok.lt b ho) hb
 have hold:∀b,b<w.heap.size->b≠dk->W.heap[b]?=w.heap[b]?:=fun b h1 h2=>(hd.keep b h1 h2).1
 have hnd:∀b z,G.Z b=z->(∀j,z≠.bx j)->b≠dk:=fun b z h1 h2 e=>by subst e;rw[hz]at h1;exact h2 i h1.symm
 have hnx:=hs.ok.next (G':=retG G H w W) (w':=W) (fun b h1 h2=>⟨lt_of_lt_of_le h2 hd.size,hold b h2 (by rcases h1 with h1|⟨n,h1⟩<;>exact hnd b _ h1 (by simp)),by rw[retG_old h2];exact h1⟩) rfl
 have hst:∀(a:Addr) len,qJ H a len->(qJ (retG G H w W) a len\/∃nm,decide (nm<64)=true/\(retG G H w W).Z a.block=.fam nm/\a.off+len<=G.ext nm):=fun a len ⟨n,h1,h2⟩=>by
  have hne:a.block≠dk:=fun e=>by rw[e,hd.dkz]at h1;cases h1
  by_cases hbs:a.block<w.heap.size;rw[(hd.keep _ hbs hne).2]at h1;simp only[Gh.hide]at h1;split at h1;rename_i q;cases h1;exact .inl ⟨_,by rw[retG_old hbs];exact q,h2⟩;rename_i nm q;cases h1;exact .inr ⟨nm,decide_eq_true (hs.fam _ _ q),by rw[retG_old hbs];exact q,h2⟩;cases h1;refine .inl ⟨_,retG_new hbs (hd.lt _ (by rw[h1];simp)),le_trans h2 ?_⟩;unfold zSt;rw[h1];exact Nat.le_max_left _ _
 have hk:jV W W (Adk H w W) (AtR (retG G H w W) (fun nm=>decide (nm<64)) W) [] G.bxB:=⟨fun l a len z n cap hl ha=>by
  cases l with
  |none=>
   refine⟨?_,fun _ _=>rfl⟩;rcases ha with ha|ha|⟨h1,cur,e,fr,h3,h4⟩;exact .inl ha;rcases hst a len ha with h|⟨nm,q1,q2,q3⟩;exact .inr (.inl h);exact .inr (.inr ⟨nm,q1,q2,q3⟩);refine .inr (.inl ⟨_,retG_new (Nat.not_lt.2 h1) (Array.getElem?_eq_some_iff.1 h3).1,le_trans h4 ?_⟩);unfold zSt;rw[h3];exact Nat.le_max_right _ _
  |_=>exact ha.elim,fun i blk h=>by simp at h⟩
 have hkH:jV W W (A0 H W) (AtR (retG G H w W) (fun nm=>decide (nm<64)) W) [dk] [dk]:=⟨fun l a len z n cap hl ha=>by
  cases l with
  |none=>
   refine⟨?_,fun _ _=>rfl⟩;rcases ha with ha|ha|⟨nm,_,h1,_⟩;exact .inl ha;rcases hst a len ha with h|⟨nm,q1,q2,q3⟩;exact .inr (.inl h);exact .inr (.inr ⟨nm,q1,q2,q3⟩);exfalso;by_cases e:a.block=dk;rw[e,hd.dkz]at h1;cases h1;rcases hd.zone _ e with h|⟨n,h⟩<;>rw[h]at h1<;>cases h1
  |rv s c v=>exact absurd ha (by simp[A0,At])|_=>simp[Lab.names]at hl,fun i blk h=>h⟩
 have hkw:jV w W (A0 G w) (AtR (retG G H w W) (fun nm=>decide (nm<64)) W) G.bxB G.bxB:=⟨fun l a len z n cap hl ha=>by
  have hcell:G.Z a.block≠.out->(∀j,G.Z a.block≠.bx j)->∀j,W.cell? (a.add j)=w.cell? (a.add j):=fun h1 h2 j=>by unfold World.cell?;rw[bM,hold _ (hs.ok.lt _ h1) (hnd _ _ rfl h2)]
  cases l with
  |none=>
   rcases ha with ha|ha|⟨nm,q1,q2,q3⟩;exact⟨.inl ha,fun j hj=>by omega⟩;obtain⟨n',q1,q2⟩:=ha;exact⟨.inr (.inl ⟨n',by rw[retG_old (hs.ok.lt _ (by rw[q1];simp))];exact q1,q2⟩),fun j _=>hcell (by rw[q1];simp) (by rw[q1];simp) j⟩;exact⟨.inr (.inr ⟨nm,q1,by rw[retG_old (hs.ok.lt _ (by rw[q2];simp))];exact q2,q3⟩),fun j _=>hcell (by rw[q2];simp) (by rw[q2];simp) j⟩
  |rv s c v=>exact absurd ha (by simp[A0,At])|_=>simp[Lab.names]at hl,fun i blk h=>h⟩
 have hlen:i<bx.length:=(List.getElem?_eq_some_iff.1 hb).1;refine⟨⟨fun b h=>?_,fun b nm h=>?_,fun b nm h=>?_,fun b s c h=>?_,hnx.1,hnx.2⟩,⟨hd.os,hd.tape,hd.output,hd.size,fun b hbs h=>⟨hold b hbs (by rcases h with h|⟨n,h⟩<;>exact hnd b _ h (by simp)),retG_old hbs⟩,fun b nm _ h=>?_,fun _ _ h=>h⟩,fun j h=>?_,?_,hflat,⟨by rw[length_set];exact hs.boxes.1,fun j ds hj=>?_⟩,by rw[length_set];exact Nat.le_refl _⟩;by_cases hbs:b<w.heap.size;exact lt_of_lt_of_le hbs hd.size;simp only[retG,if_neg hbs]at h;split at h;assumption;exact absurd rfl h;exact hs.ok.famU b nm (retG_inv h (by simp) (by simp)).1;obtain⟨h,hbs⟩:=retG_inv h (by simp) (by simp);obtain⟨cur,e,q1,q2⟩:=hs.ok.famC b nm h;exact⟨cur,e,by rw[hold b hbs (hnd b _ h (by simp))];exact q1,q2⟩;exact hs.ok.rgU b s c (retG_inv h (by simp) (by simp)).1;have hbs:=hs.ok.lt b (by rw[h];simp);refine⟨fun x hx _=>?_,.inl ⟨by rw[retG_old hbs];exact h,Nat.le_refl _⟩⟩;unfold World.cell?;rw[hx,hold b hbs (hnd b _ h (by simp))];simp only[decide_eq_true_eq]at h;omega
 · exact (hrel.keep ⟨fun l a len z n cap ha => by
     cases l with|none=>exact hk.1 _ _ _ _ _ _ rfl ha|_=>exact ha.elim,hk.2⟩)
 by_cases e:j=i;subst e;rw[List.getElem?_set_self hlen]at hj;cases hj;obtain⟨xs,e,k1,k2⟩:=hd.cells;refine⟨by simp only[aC,append_nil]at hn0 ⊢;rw[hn0];rfl,dk,hi,?_,xs,e,k1,RelL.nobox (RelL.keepB hkH k2 (by simp only[aC,append_nil]at hn0 ⊢;rw[hn0];rfl)) hnb⟩;rw[retG_old (hs.ok.lt dk (by rw[hz];simp))];exact hz;rw[List.getElem?_set_ne (fun h=>e h.symm)]at hj;obtain⟨k1,b,k2,k3,xs,e',k4,k5⟩:=hs.boxes.2 j ds hj;have hbs:=hs.ok.lt b (by rw[k3];simp);have hne:b≠dk:=fun q=>by subst q;rw[hz]at k3;cases k3;exact e rfl
 exact⟨k1,b,k2,by rw[retG_old hbs];exact k3,xs,e',by rw[hold b hbs hne];exact k4,k5.keepB hkw k1⟩
end
def dkW(bx:BX)(i:Nat):V:=match bx[i]? with
 |some (v::_)=>v|_=>.undef
theorem dkW_eq{bx:BX}{i:Nat}{v:V}{r:List V}(h:bx[i]?=some (v::r)):dkW bx i=v:=by simp only[dkW,h]
open Classical in
noncomputable def pD(ts:List Ty){β:Type}(g:(Ty.row (tyDk::ts)).den->Option (β×(List Int×Int)))(en:V->(Ty.row (tyDk::ts)).den->β->List V)(vs:List V)(bx:BX):Option (V×BX):=
 match vs with
 | .bp i 0 :: vs1 => if h : i < bx.length ∧ (∀ c ∈ bx.getD i [], c.bare0) ∧ (∀ u ∈ vs1.flatMap V.cells, u.bare0) ∧ ∃ p : (Ty.row (tyDk :: ts)).den × (β × (List Int × Int)), iQ (tyDk :: ts) p.1 (.agg (bx.getD i []) :: vs1) ∧ g p.1 = some p.2 then
     some (packed (en (dkW bx i) h.2.2.2.choose.1 h.2.2.2.choose.2.1),bx.set i [dkW bx i,.int .i64 h.2.2.2.choose.2.2.2])
  else none
 |_=>none
theorem pD_eq{ts:List Ty}{β:Type}{g:(Ty.row (tyDk::ts)).den->Option (β×(List Int×Int))}{en:V->(Ty.row (tyDk::ts)).den->β->List V}{i:Nat}{vs1 ds:List V}{bx:BX}{x:(Ty.row (tyDk::ts)).den}{q:β×(List Int×Int)}(hb:bx[i]?=some ds)(h1:∀c∈ds,c.bare0)(h2:∀u∈vs1.flatMap V.cells,u.bare0)(h3:iQ (tyDk::ts) x (.agg ds::vs1))(h4:g x=some q) :
  pD ts g en (.bp i 0::vs1) bx=some (packed (en (dkW bx i) x q.1),bx.set i [dkW bx i,.int .i64 q.2.2]):=by
 have hd:bx.getD i []=ds:=by rw[List.getD,hb];rfl
 have h:i<bx.length/\(∀c∈bx.getD i [],c.bare0)/\(∀u∈vs1.flatMap V.cells,u.bare0)/\∃p:(Ty.row (tyDk::ts)).den×(β×(List Int×Int)),iQ (tyDk::ts) p.1 (.agg (bx.getD i [])::vs1)/\g p.1=some p.2:=⟨(List.getElem?_eq_some_iff.1 hb).1,by rw[hd];exact h1,h2,(x,q),by rw[hd];exact h3,h4⟩;unfold pD;simp only;rw[dif_pos h];have hc:=h.2.2.2.choose_spec;generalize h.2.2.2.choose=p at hc ⊢;obtain⟨k1,k2⟩:=hc;have e:p=(x,q):=by rw[hd]at k1;have e1:=trel_inj k1 h3;rw[e1,h4]at k2;exact Prod.ext e1 (Option.some.inj k2).symm
 rw[e]
theorem dk_words{d:tyDk.den}{ds:List V}(h:bP tyDk d ds):∃V0,ds=[V0,.int .i64 d.2]/\bP (.sl (.int .i64)) d.1 [V0]:=by obtain⟨c,d',e,h1,h2⟩:=h;have h2:d'=[.int .i64 d.2]:=h2;subst h2;rcases h1 with⟨rfl,h0⟩|⟨lb,rs,rfl,h0⟩;exact⟨_,e,.inl ⟨rfl,h0⟩⟩;exact⟨_,e,.inr ⟨lb,rs,rfl,h0⟩⟩
theorem pD_ok{P:Program}{f:Nat}{ts:List Ty}{β:Type}{g:(Ty.row (tyDk::ts)).den->Option (β×(List Int×Int))}{en:V->(Ty.row (tyDk::ts)).den->β->List V}{fn:Func}{c:Code}(hf:P.funcs[f]?=some fn)(hb:fn.body=some c)(hname:(fn.name == "runtime.NumGoroutine")=false)
  (hen:∀x q,g x=some q->∀V0,bP (.sl (.int .i64)) (rowHd tyDk ts x).1 [V0]->V0.bare0->∀v∈en V0 x q.1,aN v=false/\v.flat=true/\∀xs,v≠.tup xs)
  (hc:∀x q,g x=some q->∀V0,bP (.sl (.int .i64)) (rowHd tyDk ts x).1 [V0]->V0.bare0->∀vs1,iQ ts (eA tyDk ts x) vs1->(∀u∈vs1.flatMap V.cells,u.bare0)->
   ∀G w cs' dk i,GOk Ω G w->G.Z dk=.bx i->RelL w (A0 G w) G.bxB vs1 cs'->DkIn G w dk V0 (G.deck dk G.lo) w (rowHd tyDk ts x).2->
   Calls P f (Value.pointer (some ⟨dk,0,none⟩)::cs').toArray w fun e W=>∃rcs H,e=.returned (vT rcs)/\DkIn G w dk V0 H W q.2.2/\RelL W (Adk H w W) [] (en V0 x q.1) rcs):PrimBOk Ω P f (pD ts g en):=by
 have inv:∀vs bx v bx',pD ts g en vs bx=some (v,bx')->∃i vs1 V0 q x,vs=.bp i 0::vs1/\bx[i]?=some [V0,.int .i64 (rowHd tyDk ts x).2]/\bP (.sl (.int .i64)) (rowHd tyDk ts x).1 [V0]/\V0.bare0/\iQ ts (eA tyDk ts x) vs1/\(∀u∈vs1.flatMap V.cells,u.bare0)/\g x=some q/\v=packed (en V0 x q.1)/\bx'=bx.set i [V0,.int .i64 q.2.2]:=fun vs bx v bx' h=>by
  unfold pD at h;split at h;rename_i i vs1;split at h;rename_i hh;have hc:=hh.2.2.2.choose_spec;generalize hh.2.2.2.choose=p at hc h;obtain⟨⟨u,us,e,k1,k2⟩,k3⟩:=hc;cases e;obtain⟨V0,e,k4⟩:=dk_words k1.1;simp only[V.cells]at e;have hb:=List.getElem?_eq_getElem hh.1;have hg:bx.getD i []=bx[i]:=by rw[List.getD,hb];rfl
  cases h;rw[hg]at e;have hW:dkW bx i=V0:=dkW_eq (by rw[hb,e]);refine⟨i,vs1,V0,_,_,rfl,by rw[hb,e],k4,?_,k2,hh.2.2.1,k3,by rw[hW],by rw[hW]⟩;exact hh.2.1 V0 (by rw[hg,e];simp);cases h;cases h
 refine⟨fun vs bx v bx' h u hu=>?_,fun vs bx v bx' h G w cs hs=>.inl ⟨?_,?_⟩⟩;obtain⟨i,vs1,V0,q,x,_,_,k2,k3,_,_,k6,rfl,_⟩:=inv _ _ _ _ h;rw[results_en fun v hv=>(hen x q k6 V0 k2 k3 v hv).2.2]at hu;exact(hen x q k6 V0 k2 k3 u hu).1;unfold callFunc;have hp:(Go.program:Sem Program).run P w=.ok P w:=rfl;rw[Sem.run_bind,hp,Result.andThen_ok,hf];simp only;rw[if_neg (by rw[hname];simp),if_neg (by rw[hb];simp)];rfl;obtain⟨i,vs1,V0,q,x,rfl,k1,k2,k3,k4,k5,k6,rfl,rfl⟩:=inv _ _ _ _ h;have hn0:aC [V0]=[]:=by rcases k2 with⟨e,_⟩|⟨lb,rs,e,_⟩;cases e;rfl;cases e;have k3:lb=.none:=k3;subst k3;rfl
 have hnb:∀a,bO [V0,.int .i64 a]=true:=fun a=>by rcases k2 with⟨e,_⟩|⟨lb,rs,e,h0,_⟩;cases e;rfl;cases e;have:=aHB (t:=.sl (.int .i64)) (x:=(rowHd tyDk ts x).1) (v:=.sl lb 1 (List.length (rowHd tyDk ts x).1) rs) ⟨.inr ⟨lb,rs,rfl,h0,‹_›⟩,rfl⟩;simp only[bO,Bool.and_true]at this ⊢;exact Bool.and_eq_true_iff.2 ⟨this,rfl⟩
 obtain⟨cs',dk,rfl,g1,g2,g3,g4,g5⟩:=hs.deck k1 (hnb _);refine(hc x q k6 V0 k2 k3 vs1 k4 k5 G w cs' dk i hs.ok g2 g4 g5).mono fun e W ⟨rcs,H,e1,e2,e3⟩=>⟨vT rcs,e1,rcs,retG G H w W,(fun nm=>decide (nm<64)),rfl,?_⟩
 rw[results_en fun v hv=>(hen x q k6 V0 k2 k3 v hv).2.2];exact ret_deck hs k1 g1 g2 hn0 (hnb _) e2 e3 fun v hv=>(hen x q k6 V0 k2 k3 v hv).2.1
theorem qD2_ok{F:Nat->Option Entry}{f:Nat}{t:Ty}{g:(List Int×Int)×Int×Bool->Option (t.den×(List Int×Int))}{en:V->(List Int×Int)×Int×Bool->t.den->List V}(hF:F f=some (.primB (pD [.int .i64,.bool] g en)))
  (hl:∀x q,g x=some q->q.2.1=x.1.1) (h:∀x q,g x=some q->∀V0,bP (.sl (.int .i64)) x.1.1 [V0]->V0.bare0->iQ [t] q.1 (en V0 x q.1)/\∀c∈(en V0 x q.1).flatMap V.cells,c.bare0) (N:Nat) :
  wZ ⟨[.p tyDk,.d (.int .i64),.d .bool],[(t,[])],none⟩ [] (call F (N+1) f) g:=by
 intro x q hx vs bx hA _ hnb;obtain⟨b,ds,vs1,rfl,hb,hc,hbare,hA⟩:=hA;obtain⟨ht,hb1⟩:=arel_trelB (ps:=[.d (.int .i64),.d .bool]) (fun p hp=>by simp only[mem_cons,List.not_mem_nil,or_false]at hp;rcases hp with rfl|rfl<;>exact⟨_,rfl⟩) hA
 obtain⟨V0,rfl,hV⟩:=dk_words hc;obtain⟨h1,h2⟩:=h x q hx V0 hV (hbare _ (by simp));have hr:(packed (en V0 x q.1)).results=en V0 x q.1:=results_en fun v hv xs e=>by obtain⟨v',us,e2,k1,k2⟩:=h1;rw[e2]at hv;have k2:us=[]:=k2;subst k2;rcases mem_cons.1 hv with rfl|hv;exact(aG k1).2.2.2.1 xs e;cases hv
 refine⟨packed (en V0 x q.1),bx.set b [V0,.int .i64 q.2.2],?_,?_,fun j hj hn=>?_,by rw[length_set];exact Nat.le_refl _,?_,⟨?_,by rw[hr]⟩,fun _=>⟨by rw[hr];exact h1,?_,?_,by rw[length_set]⟩,fun u hu=>by cases hu⟩;simp only[call,hF];have:=pD_eq (ts:=[.int .i64,.bool]) (β:=t.den) (en:=en) hb hbare hb1 ⟨_,_,rfl,⟨hc,rfl⟩,ht⟩ hx;rw[dkW_eq hb]at this;exact this;have hq:=hl x q hx;obtain⟨q1,q2,q3⟩:=q;simp only at hq;subst hq;refine⟨⟨b,[V0,.int .i64 q3],rfl,List.getElem?_set_self (List.getElem?_eq_some_iff.1 hb).1,?_,fun c hc=>?_⟩,?_⟩;exact⟨[V0],[.int .i64 q3],rfl,hV,rfl⟩;simp only[mem_cons,List.not_mem_nil,or_false]at hc;rcases hc with rfl|rfl;exact hbare _ (by simp);trivial;trivial;rw[List.getElem?_set_ne fun e=>hn (by subst e;exact List.mem_cons_self)];refine sK hnb ?_;have h0:=aAy hnb _ (List.mem_of_getElem? hb);simp only[bO,Bool.and_true,Bool.and_eq_true]at h0 ⊢;exact⟨h0.1,rfl⟩;rw[hr];exact aAQ h1;rw[hr];exact vD (rs:=[(t,[])]) (fun p hp=>by rw[mem_singleton.1 hp]) h1 h2;intro c hc c' hc' j f f' z m cs z' m' cs' e1 e2;rw[hr]at hc;have:=h2 c hc;subst e1;cases this
end Go.VM
