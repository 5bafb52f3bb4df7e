/- Functions of the table, as contracts for a walk by hand: rows that are handed back are new, apart, and the caller's own. -/
import Derived.Test.YtgfmodmeimhhpaaDoorH2
open List(take_left drop_left take_append_drop mem_append_left mem_append_right mem_singleton flatMap_cons)
open Nat(lt_or_ge)
namespace Go.VM
open Go.RowKit
variable{Ω:World->Prop}
def HCX(w:World)(base:Nat)(Q:Nat->Prop):(t:Ty)->t.den->List Value->Prop
 |.sl t,l,cs=>(l=[]/\cs=[.slice none 0 0])\/∃g cap cur e,∃fr:Nat×Nat,cs=[.slice (some ⟨g,0,none⟩) (List.length l) cap]/\base<=g/\w.heap[g]?=some (.cells cur e fr)/\Fz fr cur.size/\List.length l<=cap/\cap<=maxLen/\0<t.size/\cur.size=cap*t.size/\HRows (HC w Q t) l (cur.toList.take (List.length l*t.size))|.st t,x,cs=>HCX w base Q t x cs|.pair a b,x,cs=>∃c d,cs=c++d/\HCX w base Q a x.1 c/\HCX w base Q b x.2 d|.unit,x,cs=>HC w Q .unit x cs|.bool,x,cs=>HC w Q .bool x cs|.int k,x,cs=>HC w Q (.int k) x cs|.str,x,cs=>HC w Q .str x cs|.err,x,cs=>HC w Q .err x cs|.av k n,x,cs=>HC w Q (.av k n) x cs|.fn f,x,cs=>HC w Q (.fn f) x cs
theorem rows_hrowsB{w:World}{A:Pl}{B:List Nat}{α:Type}{R:α->List V->Prop}{R':α->List Value->Prop}:∀{l:List α} {vs:List V} {cs:List Value},(∀x v c,(∀u∈v,u.bare0)->RelL w A B v c->R x v->R' x c)->(∀u∈vs,u.bare0)->aL R l vs->RelL w A B vs cs->HRows R' l cs
 |[],_,cs,_,_,h,hr=>by cases h;cases hr;rfl|x::l,_,cs,hm,hb,⟨v,r,e,h1,h2⟩,hr=>by subst e;have k1:=hr.take v.length;have k2:=hr.drop v.length;rw[take_left]at k1;rw[drop_left]at k2;exact⟨cs.take v.length,cs.drop v.length,(take_append_drop _ _).symm,hm x v _ (fun u hu=>hb u (mem_append_left _ hu)) k1 h1,rows_hrowsB hm (fun u hu=>hb u (mem_append_right _ hu)) h2 k2⟩
theorem rel_hcQ{w:World}{A:Pl}{B:List Nat}{Q:Nat->Prop}(hA:∀a len z n cap,A .none a len z n cap->0<len->Q a.block):∀{t:Ty} {x:t.den} {vs:List V} {cs:List Value},(∀u∈vs,u.bare0)->bP t x vs->RelL w A B vs cs->HC w Q t x cs
 |.unit,_,_,_,_,h,hr=>by cases h;cases hr;rfl|.bool,_,_,_,_,h,hr=>by cases h;obtain⟨c,rfl,h1⟩:=rel_one hr;rw[h1.bool_inv];rfl
 |.int _,_,_,_,_,h,hr=>by cases h;obtain⟨c,rfl,h1⟩:=rel_one hr;rw[h1.int_inv];rfl
 |.str,_,_,_,_,h,hr=>by
  cases h;obtain⟨c,rfl,h1⟩:=rel_one hr;obtain⟨t,h2,h3⟩:=h1.str_inv;exact⟨t,by rw[h2],h3⟩
 |.err,_,_,_,_,h,hr=>by
  rcases h with⟨rfl,h2⟩|⟨t,v,rfl,_,h2⟩;obtain⟨c,rfl,h1⟩:=rel_one hr;cases h1;exact .inl ⟨h2,rfl⟩;obtain⟨c,rfl,h1⟩:=rel_one hr;cases h1;exact .inr ⟨h2,_,_,rfl⟩
 |.sl t,l,_,_,hb,h,hr=>by
  rcases h with⟨rfl,h2⟩|⟨lb,rs,rfl,h2,h3⟩;obtain⟨c,rfl,h1⟩:=rel_one hr;rw[h1.nils_inv];exact .inl ⟨h2,rfl⟩;have hlb:lb=.none:=hb _ (List.mem_singleton_self _);subst hlb;obtain⟨c,rfl,h1⟩:=rel_one hr;obtain⟨a,cap,xs,rfl,hp,hz,hxs,hcap,hmax,hrow,hrel,_⟩:=h1.sl_inv;exact .inr ⟨a,cap,xs,rfl,hcap,hmax,hz,hrow,rows_hrowsB (fun x v c hv hr hx=>rel_hcQ hA hv hx hr) h3 h2 hrel,fun h0=>hA _ _ _ _ _ hp (List.length_pos_iff.2 h0)⟩
 |.st t,_,_,_,hb,h,hr=>rel_hcQ (t:=t) hA hb h hr|.pair a b,x,_,cs,hb,⟨c,d,e,h1,h2⟩,hr=>by subst e;have k1:=hr.take c.length;have k2:=hr.drop c.length;rw[take_left]at k1;rw[drop_left]at k2;exact⟨_,_,(take_append_drop c.length cs).symm,rel_hcQ hA (fun u hu=>hb u (mem_append_left _ hu)) h1 k1,rel_hcQ hA (fun u hu=>hb u (mem_append_right _ hu)) h2 k2⟩|.av k n,x,_,cs,hb,⟨h1,h2⟩,hr=>by
  subst h2;refine⟨h1,?_⟩;clear h1 hb
  induction x generalizing cs with|nil=>cases hr;rfl|cons i r ih=>
   cases hr with|cons _ c _ cs h3 h4=>rw[h3.int_inv,ih _ h4];rfl
 |.fn f,_,_,_,_,h,hr=>by cases h;obtain⟨c,rfl,h1⟩:=rel_one hr;obtain⟨xs,ys,rfl,h2,h3,_⟩:=h1.fn_inv;have e1:xs=#[]:=Array.ext' (by cases hh:xs.toList with|nil=>rfl|cons=>rw[hh]at h2;cases h2);have e2:ys=#[]:=Array.ext' (by cases hh:ys.toList with|nil=>rfl|cons=>rw[hh]at h3;cases h3);subst e1;subst e2;rfl
def ownC:V->Prop
 |.sl l _ _ _=>∃j,l=.own j 0|_=>True
theorem rel_hcx{w:World}{A:Pl}{B:List Nat}{Q:Nat->Prop}{base:Nat}(hA:∀a len z n cap,A .none a len z n cap->0<len->Q a.block)
  (hO:∀j a len z n cap,A (.own j 0) a len z n cap->base<=a.block/\len=n*z/\a=⟨a.block,0,none⟩/\∃cur e,∃fr:Nat×Nat,w.heap[a.block]?=some (.cells cur e fr)/\Fz fr cur.size/\cur.size=cap*z):∀{t:Ty} {x:t.den} {vs:List V} {cs:List Value},(∀u∈vs,ownC u)->bP t x vs->RelL w A B vs cs->HCX w base Q t x cs
 |.unit,_,_,_,_,h,hr=>rel_hcQ hA (fun u hu=>by cases h;cases hu) h hr|.bool,_,_,_,_,h,hr=>rel_hcQ hA (fun u hu=>by cases h;rw[mem_singleton.1 hu];trivial) h hr|.int _,_,_,_,_,h,hr=>rel_hcQ hA (fun u hu=>by cases h;rw[mem_singleton.1 hu];trivial) h hr|.str,_,_,_,_,h,hr=>rel_hcQ hA (fun u hu=>by cases h;rw[mem_singleton.1 hu];trivial) h hr|.err,_,_,_,_,h,hr=>rel_hcQ hA (fun u hu=>by rcases h with⟨rfl,_⟩|⟨_,_,rfl,_⟩<;>(rw[mem_singleton.1 hu];trivial)) h hr
 |.av k n,_,_,_,_,h,hr=>rel_hcQ hA (fun u hu=>by obtain⟨_,rfl⟩:=h;obtain⟨i,_,rfl⟩:=List.mem_map.1 hu;trivial) h hr
 |.fn f,_,_,_,_,h,hr=>rel_hcQ hA (fun u hu=>by cases h;rw[mem_singleton.1 hu];trivial) h hr|.sl t,l,_,_,hb,h,hr=>by
  rcases h with⟨rfl,h2⟩|⟨lb,rs,rfl,h2,h3⟩;obtain⟨c,rfl,h1⟩:=rel_one hr;rw[h1.nils_inv];exact .inl ⟨h2,rfl⟩;obtain⟨j,rfl⟩:∃j,lb=.own j 0:=hb _ (List.mem_singleton_self _);obtain⟨c,rfl,h1⟩:=rel_one hr;obtain⟨a,cap,xs,rfl,hp,hz,hxs,hcap,hmax,hrow,hrel,_⟩:=h1.sl_inv;obtain⟨q1,q2,q3,cur,e,fr,q4,q5,q6⟩:=hO _ _ _ _ _ _ hp;have hx:cur.toList.take (List.length l*t.size)=xs:=by
   apply List.ext_getElem?;intro i;rw[List.getElem?_take];split;rename_i hi;have hi':i<xs.length:=by rw[hxs];exact hi
   have:=hrow i _ (List.getElem?_eq_getElem hi');rw[q3,Addr.add_lit,Nat.zero_add]at this;simp only[World.cell?,q4]at this;rw[List.getElem?_eq_getElem hi',<-this];simp;rename_i hi;rw[List.getElem?_eq_none (by rw[hxs];omega)]
  refine .inr ⟨a.block,cap,cur,e,fr,by rw[<-q3],q1,q4,q5,hcap,hmax,hz,q6,?_⟩;rw[hx];exact rows_hrowsB (fun x v c hv hr hx=>rel_hcQ hA hv hx hr) h3 h2 hrel
 |.st t,_,_,_,hb,h,hr=>rel_hcx (t:=t) hA hO hb h hr|.pair a b,x,_,cs,hb,⟨c,d,e,h1,h2⟩,hr=>by subst e;have k1:=hr.take c.length;have k2:=hr.drop c.length;rw[take_left]at k1;rw[drop_left]at k2;exact⟨_,_,(take_append_drop c.length cs).symm,rel_hcx hA hO (fun u hu=>hb u (mem_append_left _ hu)) h1 k1,rel_hcx hA hO (fun u hu=>hb u (mem_append_right _ hu)) h2 k2⟩
theorem number1_own{i j f z n:Nat}{v:V}{cs:List V}(h:(aW i v).1=.sl (.own j f) z n cs):j=i/\(aW i v).2=i+1:=by unfold aW at h ⊢;split at h;simp only[V.sl.injEq,Lab.own.injEq]at h;exact⟨h.1.1.symm,rfl⟩;rename_i hn;exact(hn _ _ _ _ _ h).elim
theorem number1_le(i:Nat)(v:V):i<=(aW i v).2:=by unfold aW;split;exact Nat.le_succ i;exact Nat.le_refl i
theorem numberL_ge:∀{vs:List V} {i p j f z n:Nat} {cs:List V},(bA i vs).1[p]?=some (.sl (.own j f) z n cs)->i<=j
 |[],_,_,_,_,_,_,_,h=>by simp[bA]at h|v::r,i,0,j,f,z,n,cs,h=>by simp only[bA,List.getElem?_cons_zero,Option.some.injEq]at h;exact Nat.le_of_eq (number1_own h).1.symm|v::r,i,p+1,j,f,z,n,cs,h=>by simp only[bA,List.getElem?_cons_succ]at h;exact Nat.le_trans (number1_le i v) (numberL_ge h)
theorem numberL_lt:∀{vs:List V} {i p q j f z n j' f' z' n':Nat} {cs cs':List V},(bA i vs).1[p]?=some (.sl (.own j f) z n cs)->(bA i vs).1[q]?=some (.sl (.own j' f') z' n' cs')->p<q->j<j'
 |[],_,_,_,_,_,_,_,_,_,_,_,_,_,h,_,_=>by simp[bA]at h|v::r,i,0,q+1,j,f,z,n,j',f',z',n',cs,cs',h,k,_=>by
  simp only[bA,List.getElem?_cons_zero,Option.some.injEq,List.getElem?_cons_succ]at h k;obtain⟨e1,e2⟩:=number1_own h;have:=numberL_ge k;omega
 |v::r,i,p+1,q+1,j,f,z,n,j',f',z',n',cs,cs',h,k,hpq=>by simp only[bA,List.getElem?_cons_succ]at h k;exact numberL_lt h k (by omega)|v::r,i,p,0,_,_,_,_,_,_,_,_,_,_,_,_,hpq=>by omega
theorem number_apart{v:V}{i p q j f z n f' z' n':Nat}{cs cs':List V}(h:(gT i v).1.cells[p]?=some (.sl (.own j f) z n cs))(k:(gT i v).1.cells[q]?=some (.sl (.own j f') z' n' cs')):p=q:=by
 cases v with
 |agg us=>
  simp only[gT,V.cells]at h k;rcases Nat.lt_trichotomy p q with hh|hh|hh;exact absurd (numberL_lt h k hh) (Nat.lt_irrefl _);exact hh;exact absurd (numberL_lt k h hh) (Nat.lt_irrefl _)
 |_=>
  have e:∀u:V,(∀cs,u≠.agg cs)->∀m c,u.cells[m]?=some c->m=0:=fun u hu m c hc=>by
   have:u.cells=[u]:=by cases u<;>first|rfl|exact absurd rfl (hu _)
   rw[this]at hc;cases m with
   |zero=>rfl|succ m=>simp at hc
  first
   | (simp only [gT] at h k
      have h1:=e _ (by intro cs hcs;revert hcs;unfold aW;split<;>(intro hcs;cases hcs)) _ _ h;have h2:=e _ (by intro cs hcs;revert hcs;unfold aW;split<;>(intro hcs;cases hcs)) _ _ k;rw[h1,h2])
def Ty.noErr:Ty->Bool
 |.err|.fn _=>false|.sl t=>t.noErr|.st t=>t.noErr|.pair a b=>a.noErr&&b.noErr|_=>true
theorem rowsrel_moved{w w':World}{A A':Pl}{B B':List Nat}{α:Type}{R:α->List V->Prop}:∀{l:List α} {vs:List V} {cs:List Value},(∀x v c,(∀u∈v,u.bare0)->RelL w A B v c->R x v->RelL w' A' B' v c)->(∀u∈vs,u.bare0)->aL R l vs->RelL w A B vs cs->RelL w' A' B' vs cs
 |[],_,cs,_,_,h,hr=>by cases h;cases hr;exact .nil|x::l,_,cs,hm,hb,⟨v,r,e,h1,h2⟩,hr=>by
  subst e;have k1:=hr.take v.length;have k2:=hr.drop v.length;rw[take_left]at k1;rw[drop_left]at k2;have:=(hm x v _ (fun u hu=>hb u (mem_append_left _ hu)) k1 h1).append (rowsrel_moved hm (fun u hu=>hb u (mem_append_right _ hu)) h2 k2)
  rwa [take_append_drop]at this
theorem rel_moved{w w':World}{A A':Pl}{B B':List Nat}(hA:∀a (xs:List Value) z n cap,A .none a xs.length z n cap->Row w a xs->A' .none a xs.length z n cap/\Row w' a xs):∀{t:Ty} {x:t.den} {vs:List V} {cs:List Value},t.noErr=true->(∀u∈vs,u.bare0)->bP t x vs->RelL w A B vs cs->RelL w' A' B' vs cs
 |.unit,_,_,_,_,_,h,hr=>by cases h;cases hr;exact .nil|.bool,_,_,_,_,_,h,hr=>by cases h;obtain⟨c,rfl,h1⟩:=rel_one hr;rw[h1.bool_inv];exact .cons _ _ _ _ (.bool _) .nil
 |.int _,_,_,_,_,_,h,hr=>by cases h;obtain⟨c,rfl,h1⟩:=rel_one hr;rw[h1.int_inv];exact .cons _ _ _ _ (.int _ _) .nil
 |.str,_,_,_,_,_,h,hr=>by
  cases h;obtain⟨c,rfl,h1⟩:=rel_one hr;obtain⟨t,h2,h3⟩:=h1.str_inv;subst h3;rw[h2];exact .cons _ _ _ _ (.str t) .nil
 |.err,_,_,_,he,_,_,_=>by cases he|.sl t,l,_,_,he,hb,h,hr=>by
  rcases h with⟨rfl,h2⟩|⟨lb,rs,rfl,h2,h3⟩;obtain⟨c,rfl,h1⟩:=rel_one hr;rw[h1.nils_inv];exact .cons _ _ _ _ .nils .nil;have hlb:lb=.none:=hb _ (List.mem_singleton_self _);subst hlb;obtain⟨c,rfl,h1⟩:=rel_one hr;obtain⟨a,cap,xs,rfl,hp,hz,hxs,hcap,hmax,hrow,hrel,hnm⟩:=h1.sl_inv;obtain⟨q1,q2⟩:=hA a xs _ _ _ hp hrow;exact .cons _ _ _ _ (.sl _ _ _ _ a cap xs q1 hz hxs hcap hmax q2 (rowsrel_moved (fun x v c hv hr hx=>rel_moved hA (t:=t) he hv hx hr) h3 h2 hrel) hnm) .nil
 |.st t,_,_,_,he,hb,h,hr=>rel_moved hA (t:=t) he hb h hr|.pair a b,x,_,cs,he,hb,⟨c,d,e,h1,h2⟩,hr=>by
  subst e;have he:(a.noErr&&b.noErr)=true:=he;rw[Bool.and_eq_true]at he;have k1:=hr.take c.length;have k2:=hr.drop c.length;rw[take_left]at k1;rw[drop_left]at k2;have:=(rel_moved (B':=B') hA he.1 (fun u hu=>hb u (mem_append_left _ hu)) h1 k1).append (rel_moved (B':=B') hA he.2 (fun u hu=>hb u (mem_append_right _ hu)) h2 k2)
  rwa [take_append_drop]at this
 |.av k n,x,_,cs,_,hb,⟨h1,h2⟩,hr=>by
  subst h2;clear h1 hb
  induction x generalizing cs with|nil=>cases hr;exact .nil|cons i r ih=>
   cases hr with|cons _ c _ cs h3 h4=>rw[h3.int_inv];exact .cons _ _ _ _ (.int _ _) (ih _ h4)
 |.fn f,_,_,_,he,_,_,_=>by cases he
theorem crel_rowE:∀{t:Ty} {x:t.den} {cs:List V} {i:Nat} {l:Lab} {z m:Nat} {ds:List V},t.noErr=true->bP t x cs->cs[i]?=some (.sl l z m ds)->∃(u:Ty) (y:List u.den),u.noErr=true/\aL (bP u) y ds/\∀c∈ds,c.bare0
 |.unit,_,_,_,_,_,_,_,_,h,hi=>by cases h;simp at hi|.bool,_,_,i,_,_,_,_,_,h,hi=>by cases h;cases i<;>simp at hi|.int _,_,_,i,_,_,_,_,_,h,hi=>by cases h;cases i<;>simp at hi|.str,_,_,i,_,_,_,_,_,h,hi=>by cases h;cases i<;>simp at hi|.err,_,_,_,_,_,_,_,he,_,_=>by cases he|.fn _,_,_,_,_,_,_,_,he,_,_=>by cases he|.sl t,y,_,i,_,_,_,_,he,h,hi=>by
  rcases h with⟨rfl,h2⟩|⟨lb,rs,rfl,h2,h3⟩;cases i<;>simp at hi
  cases i with
  |zero=>
   simp only[List.getElem?_cons_zero,Option.some.injEq,V.sl.injEq]at hi;obtain⟨_,_,_,rfl⟩:=hi;exact⟨t,y,he,h2,h3⟩
  |succ i=>simp at hi
 |.st t,_,_,_,_,_,_,_,he,h,hi=>crel_rowE (t:=t) he h hi|.pair a b,_,_,i,_,_,_,_,he,⟨c,d,e,h1,h2⟩,hi=>by subst e;have he:(a.noErr&&b.noErr)=true:=he;rw[Bool.and_eq_true]at he;rw[List.getElem?_append]at hi;split at hi;exact crel_rowE he.1 h1 hi;exact crel_rowE he.2 h2 hi|.av _ _,_,_,i,_,_,_,_,_,⟨_,h⟩,hi=>by subst h;rw[List.getElem?_map]at hi;obtain⟨n,_,hn⟩:=Option.map_eq_some_iff.1 hi;cases hn
def V.data:V->Prop
 |.bool _|.int ..|.str _|.nils|.sl ..=>True|_=>False
theorem crel_data:∀{t:Ty} {x:t.den} {cs:List V},t.noErr=true->bP t x cs->∀v∈cs,v.data
 |.unit,_,_,_,h=>by cases h;intro v hv;cases hv|.bool,_,_,_,h=>by cases h;intro v hv;rw[mem_singleton.1 hv];trivial|.int _,_,_,_,h=>by cases h;intro v hv;rw[mem_singleton.1 hv];trivial|.str,_,_,_,h=>by cases h;intro v hv;rw[mem_singleton.1 hv];trivial|.err,_,_,he,_=>by cases he|.fn _,_,_,he,_=>by cases he|.sl t,_,_,_,h=>by
  rcases h with⟨rfl,h2⟩|⟨lb,rs,rfl,h2,h3⟩<;>(intro v hv;rw[mem_singleton.1 hv];trivial)
 |.st t,_,_,he,h=>crel_data (t:=t) he h|.pair a b,_,_,he,⟨c,d,e,h1,h2⟩=>by subst e;have he:(a.noErr&&b.noErr)=true:=he;rw[Bool.and_eq_true]at he;exact fun v hv=>(List.mem_append.1 hv).elim (crel_data he.1 h1 v) (crel_data he.2 h2 v)|.av _ _,_,_,_,⟨_,h⟩=>by subst h;intro v hv;obtain⟨n,_,rfl⟩:=List.mem_map.1 hv;trivial
def Gh.hide(G:Gh):Gh:={G with bxB:=[],Z:=fun b=>match G.Z b with
 |.st n=>.st n|.fam nm=>.st (G.ext nm)|_=>.out}
theorem hide_rest(G:Gh)(b:Nat):G.hide.Z b=.out\/∃n,G.hide.Z b=.st n:=by simp only[Gh.hide];split;exact .inr ⟨_,rfl⟩;exact .inr ⟨_,rfl⟩;exact .inl rfl
theorem Start.hide{G:Gh}{w W:World}{vs:List V}{cs:List Value}{bx:BX}(hs:Start Ω G w vs cs bx)(hW:Below w.heap.size w W){vs0:List V}{cs0:List Value}(h0:RelL w (A0 G w) G.bxB vs0 cs0)(hn:aC vs0=[])(hb:bO vs0=true):Start Ω G.hide W vs0 cs0 []:=by
 have hz:∀b,G.hide.Z b≠.out->G.Z b≠.out:=fun b h e=>h (by simp only[Gh.hide,e])
 have hnf:∀b nm,G.hide.Z b≠.fam nm:=fun b nm h=>by rcases hide_rest G b with e|⟨n,e⟩<;>rw[e]at h<;>cases h
 have hnr:∀b s c,G.hide.Z b≠.rg s c:=fun b s c h=>by rcases hide_rest G b with e|⟨n,e⟩<;>rw[e]at h<;>cases h
 refine⟨⟨fun b h=>Nat.lt_of_lt_of_le (hs.ok.lt b (hz b h)) hW.size,fun b nm h=>absurd h (hnf b nm),fun b nm h=>absurd h (hnf b nm),fun b s c h=>absurd h (hnr b s c),fun b h=>⟨Nat.lt_of_lt_of_le (hs.ok.low b h).1 hW.size,hide_rest G b⟩,fun w' h=>hs.ok.inv w' fun b hb=>(h b hb).trans (hW.block b (hs.ok.low b hb).1)⟩,hnr,fun b nm h=>absurd h (hnf b nm),?_,rfl,fun i ds hi=>by simp at hi⟩;have hk:jV w W (A0 G w) (A0 G.hide W) G.bxB G.bxB:=⟨fun l a len z n cap hl ha=>by
  have hcell:G.Z a.block≠.out->∀j,W.cell? (a.add j)=w.cell? (a.add j):=fun h j=>by unfold World.cell?;rw[bM,hW.block _ (hs.ok.lt _ h)]
  cases l with
  |none=>
   rcases ha with ha|⟨n',q1,q2⟩|⟨nm,q1,q2,q3⟩;exact⟨.inl ha,fun j hj=>by omega⟩;exact⟨.inr (.inl ⟨n',by simp only[Gh.hide,q1],q2⟩),fun j _=>hcell (by rw[q1];simp) j⟩;exact⟨.inr (.inl ⟨G.ext nm,by simp only[Gh.hide,q2],q3⟩),fun j _=>hcell (by rw[q2];simp) j⟩
  |rv s c v=>exact absurd ha (by simp[A0,At])|_=>simp[Lab.names]at hl,fun i blk h=>h⟩
 exact RelL.nobox (h0.keepB hk hn) hb
theorem arel_of:∀{ps:List PK} {x:(Ty.row (ps.map PK.ty)).den} {vs:List V} {i:Nat},(∀p∈ps,∃u,p=.d u)->iQ (ps.map PK.ty) x vs->(∀u∈vs.flatMap V.cells,u.bare0)->aAB [] [] ps i x vs
 |[],_,_,_,_,h,_=>h|.d t::r,_,_,i,hp,⟨v,vs',e,h1,h2⟩,hb=>by subst e;exact⟨v,vs',rfl,h1,.inl fun c hc=>hb c (by rw[flatMap_cons];exact mem_append_left _ hc),fun h=>by simp at h,arel_of (fun p hp'=>hp p (List.mem_cons_of_mem _ hp')) h2 fun u hu=>hb u (by rw[flatMap_cons];exact mem_append_right _ hu)⟩|.p t::r,_,_,_,hp,_,_=>by obtain⟨u,hu⟩:=hp (.p t) (by simp);cases hu
theorem trel_nobox:∀{ts:List Ty} {x:(Ty.row ts).den} {vs:List V},iQ ts x vs->bO vs=true
 |[],_,_,h=>by cases h;rfl|t::r,_,_,⟨v,vs',e,h1,h2⟩=>by subst e;simp only[bO,aHB h1,trel_nobox h2,Bool.and_self]
theorem trel_names:∀{ts:List Ty} {x:(Ty.row ts).den} {vs:List V},iQ ts x vs->(∀u∈vs.flatMap V.cells,u.bare0)->aC vs=[]
 |[],_,_,h,_=>by cases h;rfl|t::r,_,_,⟨v,vs',e,h1,h2⟩,hb=>by
  subst e;have k1:aC v.cells=[]:=bare_names (fun u hu=>hb u (by rw[flatMap_cons];exact mem_append_left _ hu)) fun u hu=>bJ h1.1 u hu
  simp only[aC,aDJ h1 k1,trel_names h2 fun u hu=>hb u (by rw[flatMap_cons];exact mem_append_right _ hu),List.append_nil]
structure Given(G:Gh)(w W W1:World)(t:Ty)(x:t.den)(v0:V)(c:Value)(Q:Nat->Prop):Prop where
 agg:Value.isAgg c=t.agg
 val:HCX W1 W.heap.size Q t x c.cells.toList
 low:∀b,Q b->b<W1.heap.size
 mid:∀b,Q b->b<w.heap.size\/W.heap.size<=b
 off:∀(i g:Nat) n cp,c.cells.toList[i]?=some (.slice (some ⟨g,0,none⟩) n cp)->¬Q g
 one:∀(i j g:Nat) n cp n' cp',c.cells.toList[i]?=some (.slice (some ⟨g,0,none⟩) n cp)->c.cells.toList[j]?=some (.slice (some ⟨g,0,none⟩) n' cp')->i=j
 len:c.cells.toList.length=v0.cells.length
 wds:∀(i:Nat) v u (W2:World),v0.cells[i]?=some v->c.cells.toList[i]?=some u->(∀b,b<W1.heap.size->(Q b\/u.ownBlock=some b)->W2.heap[b]?=W1.heap[b]?)->RelL W2 (Abk G w W2) G.bxB [v.mapLab1 fun _=>.none] [u]
theorem calls_give{P:Program}{F:Nat->Option Entry}(hF:rJ Ω P F){f n:Nat}{ps:List PK}{t:Ty}{cl:List (Nat×Bool)}{g:(Sg.a ⟨ps,[(t,cl)],none⟩).den->Option (Sg.r ⟨ps,[(t,cl)],none⟩).den}{vf:VF}(hf:F f=some (.code vf))
  (hty:wZ ⟨ps,[(t,cl)],none⟩ [] (call F n f) g) (hp:∀p∈ps,∃u,p=.d u) (hsz:t.size<=64) (hne:t.noErr=true) (hcl:∀i,i<t.size->dU cl i=some true\/∀(x:t.den) cs,bP t x cs->∀l z m ds,cs[i]?≠some (.sl l z m ds))
  {x:(Sg.a ⟨ps,[(t,cl)],none⟩).den} {r:(Sg.r ⟨ps,[(t,cl)],none⟩).den} (hx:g x=some r) {vs0:List V} (ht:iQ (ps.map PK.ty) x vs0) (hb0:∀u∈vs0.flatMap V.cells,u.bare0) :
  ∃ v0,call F n f vs0 []=some (v0,[])∧gP t (eR [t] (bD ps) r) v0∧(∀ u∈v0.cells,ownC u) ∧
    ∀ {G:Gh} {w:World} {vs:List V} {cs:List Value} {bx:BX},Start Ω G w vs cs bx→∀ (cs0:List Value),RelL w (A0 G w) G.bxB vs0 cs0→∀ (W:World),Below w.heap.size w W →
      Calls P f cs0.toArray W fun e W1=>∃c Q,e=.returned c/\Below W.heap.size W W1/\Given G w W W1 t (eR [t] (bD ps) r) v0 c Q:=by
 obtain⟨fn,hh,h1,h2⟩:=hF f _ hf;obtain⟨c,hb,_,_,_,_,_,hname⟩:=iY h2;have hbp:gN ps vs0=[]:=(dps (bx:=[]) hp).1;obtain⟨v,bx',q1,_,_,_,_,⟨q2,q3⟩,q4,_⟩:=hty x r hx vs0 [] (arel_of hp ht hb0) (by rw[hbp];exact List.nodup_nil) rfl;obtain⟨q5,q6,q8,q7⟩:=q4 rfl;have q7:bx'=[]:=List.eq_nil_of_length_eq_zero q7;subst q7;obtain⟨v0,vs1,hres,hv0,hnil⟩:=q5;have hnil:vs1=[]:=hnil;subst hnil;have hvv:v=v0:=by rw[q3,hres];rfl
 subst hvv;obtain⟨hnum,hcl0⟩:(∃u:V,v=(gT 0 u).1)/\∀i c,v.cells[i]?=some c->aHg [] vs0 (gQ [(t,cl)]) cl i c:=by
  constructor;cases n with
  |zero=>cases q1|succ n=>
   unfold call at q1;rw[hf]at q1;obtain⟨e,τ,us,_,_,hrv,hvf,_⟩:=rI q1;have hfr:=(lP (T:=τ.tips) (lk:=τ.lk) (uI hrv)).1;have hres2:(packed (dJ τ.tips τ.lk us)).results=[v]:=by rw[<-hvf];exact hres
   rw[hfr]at hres2;unfold dJ at hres2;cases hus:us.map (V.mapLab (aM τ.tips τ.lk (aC us)))with
   |nil=>rw[hus]at hres2;cases hres2|cons u us'=>rw[hus]at hres2;simp only[bQ,List.cons.injEq]at hres2;exact⟨u,hres2.1.symm⟩
  rw[hres]at q6;obtain⟨v',rs',e1,h3,_⟩:=q6;cases e1;exact h3
 have hcell:=aG hv0;have hlen:v.cells.length=t.size:=aF hv0.1;have hown:∀(i:Nat) u,v.cells[i]?=some u->ownC u:=fun i u hu=>by
  have hi:i<t.size:=by rw[<-hlen];exact(List.getElem?_eq_some_iff.1 hu).1
  rcases hcl i hi with hc|hc;have h3:=hcl0 i u hu;cases u with
  |sl l z m ds=>exact(h3.2 true hc).2 rfl|_=>trivial
  cases u with|sl l z m ds=>exact absurd hu (hc _ _ hv0.1 _ _ _ _)|_=>trivial
 have h64:(cP v.results).all (·<64)=true:=by
  rw[List.all_eq_true];intro j hj;rw[hres]at hj;obtain⟨c,hc,hj⟩:=aG0 hj;simp only[flatMap_cons,List.flatMap_nil,List.append_nil]at hc;obtain⟨i,hi⟩:=List.getElem?_of_mem hc;have h3:=hcl0 i c hi;cases c with
  |sl l z m ds=>
   rcases h3.1 with rfl|⟨j',f',rfl,hlt⟩|⟨_,_,_,_,_,_,hcon,_⟩;simp[V.news1,Lab.news]at hj;simp only[V.news1,Lab.news,mem_singleton]at hj;subst hj;exact decide_eq_true (Nat.lt_of_lt_of_le hlt (by simp only[gQ];omega));simp at hcon
  |ep l ds off=>exact(bJ hv0.1 _ hc).elim|_=>simp[V.news1]at hj
 refine⟨v,q1,hv0,fun u hu=>(List.getElem?_of_mem hu).elim fun i hi=>hown i u hi,fun{G w vs cs bx} hs cs0 h0 W hW=>?_⟩;have hst:=hs.hide hW h0 (trel_names ht hb0) (trel_nobox ht);rcases aCn hF n f vs0 [] _ _ q1 h64 G.hide W cs0 hst with⟨_,h3⟩|⟨c',w',h3,_⟩
 .refine h3.mono fun e W1 ⟨c',e1,rcs,G',lk,e2,hR⟩=>?_
  have hrel:=hR.res;rw[hres]at hrel;obtain⟨c,rfl,k3⟩:=rel_one hrel;have k4:=k3.cells hcell.2.2.2.2 hcell.2.2.2.1;have hold:∀b,b<W.heap.size->W1.heap[b]?=W.heap[b]?/\G'.Z b=G.hide.Z b:=fun b hb=>hR.fr.rest b hb (hide_rest G b)
  have hzone:∀b nm,G'.Z b=.fam nm->W.heap.size<=b:=fun b nm hz=>by
   rcases lt_or_ge b W.heap.size with hlt|hge;rw[(hold b hlt).2]at hz;rcases hide_rest G b with e|⟨n,e⟩<;>rw[e]at hz<;>cases hz
   exact hge
  have hsh:∀j z m ds,V.sl (.own j 0) z m ds∈v.cells->lk (64+j)=false:=fun j z m ds hj=>by
   cases hlk:lk (64+j)with
   |false=>rfl|true=>
    have:=hR.lkr j hlk;obtain⟨u,hu,hju⟩:=aDU this;rw[hres]at hu;simp only[flatMap_cons,List.flatMap_nil,List.append_nil]at hu;cases u with
    |sl l z' m' ds'=>
     have hl:l=.own j 1:=by simp only[V.shared1]at hju;unfold Lab.shared at hju;split at hju;simp only[mem_singleton]at hju;subst hju;rfl;cases hju
     subst hl;have:=q8 _ (by rw[hres];simpa using hj) _ (by rw[hres];simpa using hu) _ _ _ _ _ _ _ _ _ rfl rfl;cases this
    |ep l ds' off=>exact(bJ hv0.1 _ hu).elim|_=>simp[V.shared1]at hju
  have hcells:∀(i g:Nat) n cp,c.cells.toList[i]?=some (.slice (some ⟨g,0,none⟩) n cp)->∃j z m ds,v.cells[i]?=some (.sl (.own j 0) z m ds)/\G'.Z g=.fam (64+j):=fun i g n cp hi=>by
   have hi':i<v.cells.length:=by rw[k4.length];exact(List.getElem?_eq_some_iff.1 hi).1
   obtain⟨d,hd,hrd⟩:=k4.get (List.getElem?_eq_getElem hi');rw[hi]at hd;cases hd;have hc0:=hown i _ (List.getElem?_eq_getElem hi');have hcc:=bJ hv0.1 _ (List.getElem_mem hi');have hget:=List.getElem?_eq_getElem hi';revert hrd hc0 hcc hget;generalize v.cells[i]=u;intro hrd hc0 hcc hget;cases u with
   |sl l z m ds=>
    obtain⟨j,rfl⟩:=hc0;obtain⟨a,cap,xs,e0,hpl,_⟩:=hrd.sl_inv;simp only[Value.slice.injEq,Option.some.injEq]at e0;obtain⟨rfl,_⟩:=e0;exact⟨j,z,m,ds,hget,hpl.1.1⟩
   |undef=>exact hcc.elim|_=>first|(cases hrd;done)|exact hcc.elim
  have hQ:∀a len z n cap,AtR G' lk W1 .none a len z n cap->0<len->G'.Z a.block≠.out/\a.block<W1.heap.size/\∀(i g:Nat) n cp,c.cells.toList[i]?=some (.slice (some ⟨g,0,none⟩) n cp)->a.block≠g:=fun a len z n cap hp hlen=>by
   have hzo:G'.Z a.block≠.out/\∀nm,G'.Z a.block=.fam nm->lk nm=true:=by rcases hp with hp|⟨n',hp,_⟩|⟨nm,hp1,hp2,_⟩;omega;exact⟨by rw[hp];simp,fun nm h=>by rw[hp]at h;cases h⟩;refine⟨by rw[hp2];simp,fun nm' h=>?_⟩;rw[hp2]at h;cases h;exact hp1
   refine⟨hzo.1,hR.ok.lt _ hzo.1,fun i g n cp hi hab=>?_⟩;obtain⟨j,z',m,ds,hj,hz⟩:=hcells i g n cp hi;have:=hzo.2 (64+j) (by rw[hab];exact hz);rw[hsh j z' m ds (List.mem_of_getElem? hj)]at this;cases this
  have hO:∀j a len z n cap,AtR G' lk W1 (.own j 0) a len z n cap->W.heap.size<=a.block/\len=n*z/\a=⟨a.block,0,none⟩/\∃cur e,∃fr:Nat×Nat,W1.heap[a.block]?=some (.cells cur e fr)/\Fz fr cur.size/\cur.size=cap*z:=fun j a len z n cap hp=>by
   obtain⟨⟨t1,t2,cur,e,⟨fr,t3,t4⟩,t5⟩,t6,t7⟩:=hp;have hblk:a.block=G'.famB (64+j):=by rw[t2]
   exact⟨hzone _ _ t1,t7.symm,by rw[t2],cur,e,fr,by rw[hblk];exact t3,t4,t5⟩
  refine⟨c,fun b=>G'.Z b≠.out/\b<W1.heap.size/\∀(i g:Nat) n cp,c.cells.toList[i]?=some (.slice (some ⟨g,0,none⟩) n cp)->b≠g,by rw[e1,e2];rfl,⟨hR.fr.os,hR.fr.tape,hR.fr.output,hR.fr.size,fun k hk=>(hold k hk).1⟩,⟨?_,rel_hcx hQ hO (fun u hu=>(List.getElem?_of_mem hu).elim fun i hi=>hown i u hi) hv0.1 k4,fun b h=>h.2.1,fun b h=>?_,fun i g n cp hi hq=>hq.2.2 i g n cp hi rfl,?_,k4.length.symm,?_⟩⟩;rw[<-hv0.2];cases k3 with
  |undef=>exact absurd rfl hcell.2.2.2.2|_=>rfl
  rcases lt_or_ge b w.heap.size with h1|h1;exact .inl h1;refine .inr (Nat.le_of_not_lt fun h2=>h.1 ?_);rw[(hold b h2).2];have ho:G.Z b=.out:=by by_cases ho:G.Z b=.out;exact ho;exact absurd (hs.ok.lt _ ho) (by omega)
  simp only[Gh.hide,ho];intro i i' g n cp n' cp' hi hi';obtain⟨j,z,m,ds,hj,hz⟩:=hcells i g n cp hi;obtain⟨j',z',m',ds',hj',hz'⟩:=hcells i' g n' cp' hi';rw[hz]at hz';simp only[Zn.fam.injEq,Nat.add_left_cancel_iff]at hz';subst hz';obtain⟨u,rfl⟩:=hnum;exact number_apart hj hj';intro i v1 u W2 hi hu hkeep;have hwW:w.heap.size<=W.heap.size:=hW.size;have hblk:∀b,b<W1.heap.size->W2.heap[b]?=W1.heap[b]?->(∃cs e fr,W1.heap[b]?=some (.cells cs e fr))->¬b<w.heap.size->∃cs e fr,W1.heap[b]?=some (.cells cs e fr)/\(aEM G w W2).Z b=.st cs.size:=fun b hb h ⟨cs,e,fr,hc⟩ hn=>⟨cs,e,fr,hc,by simp only[aEM,if_neg hn,h,hc]⟩
  have hmv:∀a (xs:List Value) z n cap,AtR G' lk W1 .none a xs.length z n cap->Row W1 a xs->Abk G w W2 .none a xs.length z n cap/\Row W2 a xs:=fun a xs z n cap hp hrow=>by
   by_cases h0:xs.length=0;exact⟨.inl h0,fun j u hj=>by rw[List.eq_nil_of_length_eq_zero h0]at hj;simp at hj⟩;have hq:=hQ a xs.length z n cap hp (by omega);have hk:=hkeep a.block hq.2.1 (.inl hq);refine⟨?_,hrow.keep fun j _=>by unfold World.cell?;rw[bM,hk]⟩;rcases lt_or_ge a.block W.heap.size with hlt|hge;have hz':=(hold _ hlt).2;have hlw:a.block<w.heap.size:=by
    rcases lt_or_ge a.block w.heap.size with h|h;exact h;exfalso;have ho:G.Z a.block=.out:=by by_cases ho:G.Z a.block=.out;exact ho;exact absurd (hs.ok.lt _ ho) (by omega)
    have ho':G'.Z a.block=.out:=by rw[hz'];simp only[Gh.hide,ho]
    rcases hp with hp|⟨n',hp,_⟩|⟨nm,_,hp,_⟩;exact h0 hp;rw[ho']at hp;cases hp;rw[ho']at hp;cases hp
   rcases hp with hp|⟨n',hp,hle⟩|⟨nm,_,hp,_⟩;exact absurd hp h0;rw[hz']at hp;simp only[Gh.hide]at hp;split at hp;rename_i n2 hg;cases hp;exact .inr (.inl ⟨_,by rw[pW hlw];exact hg,hle⟩);rename_i nm hg;cases hp;exact .inr (.inr ⟨nm,decide_eq_true (hs.fam _ _ hg),by rw[pW hlw];exact hg,hle⟩);cases hp;rw[hz']at hp;rcases hide_rest G a.block with e|⟨n,e⟩<;>rw[e]at hp<;>cases hp
   have hc:=hrow (xs.length-1) _ (List.getElem?_eq_getElem (by omega));unfold World.cell? at hc;rw[bM,qL]at hc;split at hc;rename_i cs' e' fr' hcs;split at hc;cases hc;have hlt:=(Array.getElem?_eq_some_iff.1 hc).1;obtain⟨cs2,e2,fr2,h4,h5⟩:=hblk a.block hq.2.1 hk ⟨cs',e',fr',hcs⟩ (by omega);rw[hcs]at h4;cases h4;exact .inr (.inl ⟨_,h5,by omega⟩);cases hc
  obtain⟨d,hd,hrd⟩:=k4.get hi;rw[hu]at hd;cases hd;have hc0:=hown i _ hi;have hcc:=bJ hv0.1 _ (List.mem_of_getElem? hi);cases v1 with
  |sl l z m ds=>
   obtain⟨j,rfl⟩:=hc0;obtain⟨a,cap,xs,rfl,hpl,hz,hxs,hcap,hmax,hrow,hrl,hnm⟩:=hrd.sl_inv;obtain⟨b1,b2,b3,cur,e,fr,b4,b5,b6⟩:=hO _ _ _ _ _ _ hpl;have hbl:a.block<W1.heap.size:=(Array.getElem?_eq_some_iff.1 b4).1;have hk:=hkeep a.block hbl (.inr (by rw[b3];rfl));obtain⟨cs2,e2,fr2,h4,h5⟩:=hblk a.block hbl hk ⟨cur,e,fr,b4⟩ (by omega);rw[b4]at h4;cases h4;have hxl:xs.length<=cur.size:=by rw[hxs,b6];exact Nat.mul_le_mul_right _ hcap
   obtain⟨u0,x0,hr0⟩:=crel_rowE hne hv0.1 hi;refine .cons _ _ _ _ (.sl .none z m ds a cap xs (.inr (.inl ⟨_,h5,by rw[b3];simpa using hxl⟩)) hz hxs hcap hmax (hrow.keep fun j _=>by unfold World.cell?;rw[bM,hk]) ?_ hnm) .nil;exact rowsrel_moved (fun x v c hv hr hx=>rel_moved hmv hr0.1 hv hx hr) hr0.2.2 hr0.2.1 hrl
  |bool b=>rw[hrd.bool_inv];exact .cons _ _ _ _ (.bool _) .nil|int k n=>rw[hrd.int_inv];exact .cons _ _ _ _ (.int _ _) .nil|str s=>
   obtain⟨t',h2,h3⟩:=hrd.str_inv;subst h3;rw[h2];exact .cons _ _ _ _ (.str t') .nil
  |nils=>rw[hrd.nils_inv];exact .cons _ _ _ _ .nils .nil|_=>exact(crel_data hne hv0.1 _ (List.mem_of_getElem? hi)).elim
 exfalso;unfold callFunc at h3;have hp:(Go.program:Sem Program).run P W=.ok P W:=rfl;rw[Sem.run_bind,hp,Result.andThen_ok,h1]at h3;simp only at h3;rw[if_neg (by rw[hname];simp),if_neg (by rw[hb];simp)]at h3;cases h3
open Classical in
noncomputable def pM(ts:List Ty){β:Type}(g:(Ty.row ts).den->Option β)(en:List V->β->List V)(vs:List V):Option V:=
 if h:∃r x,iQ ts x vs/\(∀u∈vs.flatMap V.cells,u.bare0)/\g x=some r then some (packed (en vs h.choose))else none
theorem pM_eq{ts:List Ty}{β:Type}{g:(Ty.row ts).den->Option β}{en:List V->β->List V}{vs:List V}{x:(Ty.row ts).den}{r:β}(h1:iQ ts x vs)(hb:∀u∈vs.flatMap V.cells,u.bare0)(h2:g x=some r):pM ts g en vs=some (packed (en vs r)):=by have h:∃r x,iQ ts x vs/\(∀u∈vs.flatMap V.cells,u.bare0)/\g x=some r:=⟨r,x,h1,hb,h2⟩;unfold pM;rw[dif_pos h];obtain⟨y,k1,_,k2⟩:=h.choose_spec;rw[trel_inj k1 h1,h2]at k2;cases k2;rfl
theorem pM_ok{P:Program}{f:Nat}{ts:List Ty}{β:Type}{g:(Ty.row ts).den->Option β}{en:List V->β->List V}{fn:Func}{c:Code}(hf:P.funcs[f]?=some fn)(hb:fn.body=some c)(hname:(fn.name == "runtime.NumGoroutine")=false)
  (hen:∀vs x r,iQ ts x vs->(∀u∈vs.flatMap V.cells,u.bare0)->g x=some r->∀v∈en vs r,aN v=false/\v.flat=true/\∀xs,v≠.tup xs)
  (hc:∀x r,g x=some r->∀vs,iQ ts x vs->(∀u∈vs.flatMap V.cells,u.bare0)->∀G w cs bx,Start Ω G w vs cs bx->
   Calls P f cs.toArray w fun e w'=>∃rcs,e=.returned (vT rcs)/\Below w.heap.size w w'/\RelL w' (Abk G w w') G.bxB (en vs r) rcs):PrimOk Ω P f [] (pM ts g en):=by
 have inv:∀vs v,pM ts g en vs=some v->∃x r,iQ ts x vs/\(∀u∈vs.flatMap V.cells,u.bare0)/\g x=some r/\v=packed (en vs r):=fun vs v h=>by unfold pM at h;split at h;rename_i hh;obtain⟨x,k1,k3,k2⟩:=hh.choose_spec;cases h;exact⟨x,_,k1,k3,k2,rfl⟩;cases h
 refine primOk_mix hf hb hname (fun vs v hp G w cs bx hs=>?_) fun vs v hp u hu=>?_
 obtain⟨x,r,h1,h3,h2,rfl⟩:=inv vs v hp;rw[results_en fun v hv=>(hen vs x r h1 h3 h2 v hv).2.2];exact hc x r h2 vs h1 h3 G w cs bx hs;obtain⟨x,r,h1,h3,h2,rfl⟩:=inv vs v hp;rw[results_en fun v hv=>(hen vs x r h1 h3 h2 v hv).2.2]at hu;exact⟨(hen vs x r h1 h3 h2 u hu).1,(hen vs x r h1 h3 h2 u hu).2.1⟩
theorem arel_trelB:∀{ps:List PK} {bx:BX} {i:Nat} {x:(Ty.row (ps.map PK.ty)).den} {vs:List V},(∀p∈ps,∃u,p=.d u)->aAB [] bx ps i x vs->iQ (ps.map PK.ty) x vs/\∀u∈vs.flatMap V.cells,u.bare0
 |[],_,_,_,_,_,h=>⟨h,fun u hu=>by cases h;cases hu⟩|.d t::r,_,_,_,_,hp,⟨v,vs',e,h1,h3,_,h2⟩=>by
  subst e;obtain⟨k1,k2⟩:=arel_trelB (fun p hp'=>hp p (List.mem_cons_of_mem _ hp')) h2;refine⟨⟨v,vs',rfl,h1,k1⟩,fun u hu=>?_⟩;rw[flatMap_cons]at hu;rcases List.mem_append.1 hu with hu|hu;rcases h3 with h3|⟨h3,_⟩;exact h3 u hu;simp at h3;exact k2 u hu
 |.p t::r,_,_,_,_,hp,_=>by obtain⟨u,hu⟩:=hp (.p t) (by simp);cases hu
theorem qM_ok{ps:List PK}{rs:List (Ty×List (Nat×Bool))}{F:Nat->Option Entry}{f:Nat}{g:(Sg.a ⟨ps,rs,none⟩).den->Option (Sg.r ⟨ps,rs,none⟩).den}{en:List V->(Sg.r ⟨ps,rs,none⟩).den->List V}(hF:F f=some (.prim [] (pM (ps.map PK.ty) g en)))
  (hd:∀p∈ps,∃u,p=.d u) (hrs:∀p∈rs,p.2=[]) (h:∀x r,g x=some r->∀vs,iQ (ps.map PK.ty) x vs->(∀u∈vs.flatMap V.cells,u.bare0)->iQ (rs.map Prod.fst) (eR (rs.map Prod.fst) (bD ps) r) (en vs r)/\∀c∈(en vs r).flatMap V.cells,c.bare0) (N:Nat) :
  wZ ⟨ps,rs,none⟩ [] (call F (N+1) f) g:=by
 refine aGe hF hd hrs (fun x r hx vs bx hA=>?_) N;obtain⟨ht,hb⟩:=arel_trelB hd hA;obtain⟨h1,h2⟩:=h x r hx vs ht hb;have hr:(packed (en vs r)).results=en vs r:=results_en fun v hv xs e=>by
  have:∀{ts:List Ty} {x:(Ty.row ts).den} {us:List V},iQ ts x us->∀v∈us,∀xs,v≠.tup xs:=by
   intro ts
   induction ts with|nil=>intro x us h v hv;cases h;cases hv|cons t r ih=>intro x us ⟨u,us',e,k1,k2⟩ v hv;subst e;rcases List.mem_cons.1 hv with rfl|hv;exact(aG k1).2.2.2.1;exact ih k2 v hv
  exact this h1 v hv xs e
 exact⟨_,pM_eq ht hb hx,by rw[hr];exact h1,by rw[hr];exact h2,by rw[hr]⟩
end Go.VM
