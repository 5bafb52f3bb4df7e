/- The heap's own words for typed values: what a function that is walked by hand is told of, and tells of. -/
import Derived.Test.YtbpocjclcbjggaaGreatDoorTC
namespace Go.VM
open Go.RowKit
variable{Ω:World->Prop}
def HRows{α:Type}(R:α->List Value->Prop):List α->List Value->Prop
 |[],cs=>cs=[]
 |x::l,cs=>∃c r,cs=c++r/\R x c/\HRows R l r
/-- A typed value and the model's cells;'Q': where the rows' blocks lie. -/
def HC(w:World)(Q:Nat->Prop):(t:Ty)->t.den->List Value->Prop
 |.unit,_,cs=>cs=[]
 |.bool,b,cs=>cs=[.bool b]
 |.int k,n,cs=>cs=[.int k n]
 |.str,s,cs=>∃t:ByteArray,cs=[.string t]/\t.data.toList=s
 |.err,b,cs=>(b=false/\cs=[.nilIface])\/(b=true/\∃t p,cs=[.iface t p])
 |.sl t,l,cs=>(l=[]/\cs=[.slice none 0 0])\/∃a cap rows,cs=[.slice (some a) (List.length l) cap]/\List.length l<=cap/\cap<=maxLen/\0<t.size/\Row w a rows/\HRows (HC w Q t) l rows/\(rows≠[]->Q a.block)
 |.st t,x,cs=>HC w Q t x cs
 |.pair a b,x,cs=>∃c d,cs=c++d/\HC w Q a x.1 c/\HC w Q b x.2 d
 |.av k n,l,cs=>List.length l=n/\cs=List.map (Value.int k) l
 |.fn f,_,cs=>cs=[.func (.func f) #[] #[]]
def Value.isAgg:Value->Bool
 |.agg _=>true
 |_=>false
/-- A value. -/
def HV(w:World)(Q:Nat->Prop)(t:Ty)(x:t.den)(c:Value):Prop:=HC w Q t x c.cells.toList/\Value.isAgg c=t.agg
def HVs(w:World)(Q:Nat->Prop):(ts:List Ty)->(Ty.row ts).den->List Value->Prop
 |[],_,cs=>cs=[]
 |t::r,x,cs=>∃c cs',cs=c::cs'/\HV w Q t (dT t r x) c/\HVs w Q r (eA t r x) cs'
theorem hv_one{w:World}{Q:Nat->Prop}{t:Ty}{x:t.den}{c:Value}(h:HV w Q t x c)(ht:t.agg=false):HC w Q t x [c]:=by
 obtain⟨h1,h2⟩:=h;rw[ht]at h2;cases c with
 |agg xs=>cases h2
 |_=>exact h1
theorem hv_agg{w:World}{Q:Nat->Prop}{t:Ty}{x:t.den}{c:Value}(h:HV w Q t x c)(ht:t.agg=true):∃xs:Array Value,c=.agg xs/\HC w Q t x xs.toList:=by
 obtain⟨h1,h2⟩:=h;rw[ht]at h2;cases c with
 |agg xs=>exact⟨xs,rfl,h1⟩
 |_=>cases h2
theorem hrows_mono{α:Type}{R R':α->List Value->Prop}:∀{l:List α} {cs:List Value},(∀x c,x∈l->R x c->R' x c)->HRows R l cs->HRows R' l cs
 |[],_,_,h=>h
 |x::l,_,hm,⟨c,r,e,h1,h2⟩=>⟨c,r,e,hm x c List.mem_cons_self h1,hrows_mono (fun y c' hy=>hm y c' (List.mem_cons_of_mem _ hy)) h2⟩
theorem hrows_len{α:Type}{R:α->List Value->Prop}{z:Nat}(hz:∀x c,R x c->c.length=z):∀{l:List α} {cs:List Value},HRows R l cs->cs.length=l.length*z
 |[],_,h=>by cases h;simp
 |x::l,_,⟨c,r,e,h1,h2⟩=>by
  rw[e,List.length_append,hz _ _ h1,hrows_len hz h2,List.length_cons,Nat.add_mul];omega
theorem hc_len{w:World}{Q:Nat->Prop}:∀{t:Ty} {x:t.den} {cs:List Value},HC w Q t x cs->cs.length=t.size
 |.unit,_,_,h=>by cases h;rfl
 |.bool,_,_,h=>by cases h;rfl
 |.int _,_,_,h=>by cases h;rfl
 |.str,_,_,⟨_,h,_⟩=>by rw[h];rfl
 |.err,_,_,h=>by rcases h with⟨_,h⟩|⟨_,_,_,h⟩<;>rw[h]<;>rfl
 |.sl _,_,_,h=>by rcases h with⟨_,h⟩|⟨_,_,_,h,_⟩<;>rw[h]<;>rfl
 |.st t,_,_,h=>hc_len (t:=t) h
 |.pair a b,_,_,⟨c,d,h,h1,h2⟩=>by rw[h,List.length_append,hc_len h1,hc_len h2];rfl
 |.av _ _,_,_,⟨h1,h2⟩=>by rw[h2,List.length_map,h1];rfl
 |.fn _,_,_,h=>by cases h;rfl
theorem hc_mono{w w':World}{Q Q':Nat->Prop}(hQ:∀b,Q b->Q' b)(hw:∀a rows,Row w a rows->(rows≠[]->Q a.block)->Row w' a rows):∀{t:Ty} {x:t.den} {cs:List Value},HC w Q t x cs->HC w' Q' t x cs
 |.unit,_,_,h=>h
 |.bool,_,_,h=>h
 |.int _,_,_,h=>h
 |.str,_,_,h=>h
 |.err,_,_,h=>h
 |.sl t,_,_,h=>by
  rcases h with h|⟨a,cap,rows,h1,h2,h3,h4,h5,h6,h7⟩
  .exact .inl h
  .exact .inr ⟨a,cap,rows,h1,h2,h3,h4,hw a rows h5 h7,hrows_mono (fun x c _ hx=>hc_mono hQ hw hx) h6,fun hr=>hQ _ (h7 hr)⟩
 |.st t,_,_,h=>hc_mono (t:=t) hQ hw h
 |.pair a b,_,_,⟨c,d,h,h1,h2⟩=>⟨c,d,h,hc_mono hQ hw h1,hc_mono hQ hw h2⟩
 |.av _ _,_,_,h=>h
 |.fn _,_,_,h=>h
/-- In memory that is as it was. -/
theorem hc_below{w w':World}{B:Nat}{Q:Nat->Prop}(hb:Below B w w')(hq:∀b,Q b->b<B){t:Ty}{x:t.den}{cs:List Value}(h:HC w Q t x cs):HC w' Q t x cs:=
 hc_mono (fun _ h=>h) (fun a rows hr hb'=>by
  by_cases h0:rows=[]
  .subst h0;intro j u hu;simp at hu
  .exact hr.keep fun j _=>World.cell?_of_block (by rw[bM];exact hb.block _ (hq _ (hb' h0)))) h
theorem row_old{w:World}{a:Addr}{rows:List Value}(h:Row w a rows)(h0:rows≠[]):a.block<w.heap.size:=by
 have hl:0<rows.length:=List.length_pos_iff.2 h0;have h1:=h 0 _ (List.getElem?_eq_getElem hl);unfold World.cell? at h1;rw[bM]at h1;split at h1
 .rename_i hh;exact(Array.getElem?_eq_some_iff.1 hh).1
 .cases h1
/- from the machine's values -/
theorem rows_hrows{w:World}{A:Pl}{B:List Nat}{α:Type}{R:α->List V->Prop}{R':α->List Value->Prop}:∀{l:List α} {vs:List V} {cs:List Value},(∀x v c,x∈l->RelL w A B v c->R x v->R' x c)->aL R l vs->RelL w A B vs cs->HRows R' l cs
 |[],_,cs,_,h,hr=>by
  cases h;cases hr;rfl
 |x::l,_,cs,hm,⟨v,r,e,h1,h2⟩,hr=>by
  subst e;have hlen:=hr.length;have k1:=hr.take v.length;have k2:=hr.drop v.length;rw[List.take_left]at k1;rw[List.drop_left]at k2;exact⟨cs.take v.length,cs.drop v.length,(List.take_append_drop _ _).symm,hm x v _ List.mem_cons_self k1 h1,rows_hrows (fun y v c hy=>hm y v c (List.mem_cons_of_mem _ hy)) h2 k2⟩
theorem rel_one{w:World}{A:Pl}{B:List Nat}{v:V}{cs:List Value}(h:RelL w A B [v] cs):∃c,cs=[c]/\Rel w A B v c:=by
 cases h with
 |cons _ c _ cs h1 h2=>cases h2;exact⟨c,rfl,h1⟩
theorem rel_hc{w:World}{A:Pl}{B:List Nat}:∀{t:Ty} {x:t.den} {vs:List V} {cs:List Value},bP t x vs->RelL w A B vs cs->HC w (fun b=>b<w.heap.size) t x cs
 |.unit,_,_,_,h,hr=>by cases h;cases hr;rfl
 |.bool,_,_,_,h,hr=>by cases h;obtain⟨c,rfl,h1⟩:=rel_one hr;rw[h1.bool_inv];rfl
 |.int _,_,_,_,h,hr=>by cases h;obtain⟨c,rfl,h1⟩:=rel_one hr;rw[h1.int_inv];rfl
 |.str,_,_,_,h,hr=>by
  cases h;obtain⟨c,rfl,h1⟩:=rel_one hr;obtain⟨t,h2,h3⟩:=h1.str_inv;exact⟨t,by rw[h2],h3⟩
 |.err,_,_,_,h,hr=>by
  rcases h with⟨rfl,h2⟩|⟨t,v,rfl,_,h2⟩
  .obtain⟨c,rfl,h1⟩:=rel_one hr;cases h1;exact .inl ⟨h2,rfl⟩
  .obtain⟨c,rfl,h1⟩:=rel_one hr;cases h1;exact .inr ⟨h2,_,_,rfl⟩
 |.sl t,l,_,_,h,hr=>by
  rcases h with⟨rfl,h2⟩|⟨lb,rs,rfl,h2,h3⟩
  .obtain⟨c,rfl,h1⟩:=rel_one hr;rw[h1.nils_inv];exact .inl ⟨h2,rfl⟩
  .obtain⟨c,rfl,h1⟩:=rel_one hr;obtain⟨a,cap,xs,rfl,_,hz,hxs,hcap,hmax,hrow,hrel,_⟩:=h1.sl_inv;exact .inr ⟨a,cap,xs,rfl,hcap,hmax,hz,hrow,rows_hrows (fun x v c _ hv hx=>rel_hc hx hv) h2 hrel,fun h0=>row_old hrow h0⟩
 |.st t,_,_,_,h,hr=>rel_hc (t:=t) h hr
 |.pair a b,x,_,cs,⟨c,d,e,h1,h2⟩,hr=>by
  subst e;have k1:=hr.take c.length;have k2:=hr.drop c.length;rw[List.take_left]at k1;rw[List.drop_left]at k2;exact⟨_,_,(List.take_append_drop c.length cs).symm,rel_hc h1 k1,rel_hc h2 k2⟩
 |.av k n,x,_,cs,⟨h1,h2⟩,hr=>by
  subst h2;refine⟨h1,?_⟩;clear h1
  induction x generalizing cs with
  |nil=>cases hr;rfl
  |cons i r ih=>
   cases hr with
   |cons _ c _ cs h3 h4=>rw[h3.int_inv,ih _ h4];rfl
 |.fn f,_,_,_,h,hr=>by
  cases h;obtain⟨c,rfl,h1⟩:=rel_one hr;obtain⟨xs,ys,rfl,h2,h3,_⟩:=h1.fn_inv;have e1:xs=#[]:=Array.ext' (by cases hh:xs.toList with|nil=>rfl|cons=>rw[hh]at h2;cases h2);have e2:ys=#[]:=Array.ext' (by cases hh:ys.toList with|nil=>rfl|cons=>rw[hh]at h3;cases h3);subst e1;subst e2;rfl
/- and back -/
theorem hrows_rows{w:World}{A:Pl}{B:List Nat}{α:Type}{R:α->List V->Prop}{R':α->List Value->Prop}:∀{l:List α} {cs:List Value},(∀x c,x∈l->R' x c->∃v,RelL w A B v c/\R x v/\∀u∈v,u.bare0)->HRows R' l cs->∃vs,RelL w A B vs cs/\aL R l vs/\∀u∈vs,u.bare0
 |[],cs,_,h=>by cases h;exact⟨[],.nil,rfl,fun u hu=>by cases hu⟩
 |x::l,cs,hm,⟨c,r,e,h1,h2⟩=>by
  subst e;obtain⟨v,k1,k2,k3⟩:=hm x c List.mem_cons_self h1;obtain⟨vs,k4,k5,k6⟩:=hrows_rows (fun y c hy=>hm y c (List.mem_cons_of_mem _ hy)) h2;exact⟨v++vs,k1.append k4,⟨v,vs,rfl,k2,k5⟩,fun u hu=>(List.mem_append.1 hu).elim (k3 u) (k6 u)⟩
theorem bare_names{vs:List V}(h:∀u∈vs,u.bare0)(hc:∀u∈vs,u.cell):aC vs=[]:=cW.2 fun v hv=>by
 have h1:=h v hv;have h2:=hc v hv;cases v with
 |sl l z n cs=>simp only[V.bare0]at h1;subst h1;rfl
 |_=>first|rfl|exact h2.elim
/-- 'A': where rows may lie. -/
theorem hc_rel{w:World}{A:Pl}{B:List Nat}{Q:Nat->Prop}(hA:∀a rows z n cap,Row w a rows->(rows≠[]->Q a.block)->A .none a rows.length z n cap):∀{t:Ty} {x:t.den} {cs:List Value},HC w Q t x cs->∃vs,RelL w A B vs cs/\bP t x vs/\∀u∈vs,u.bare0
 |.unit,_,_,h=>by cases h;exact⟨[],.nil,rfl,fun u hu=>by cases hu⟩
 |.bool,b,_,h=>by cases h;exact⟨[.bool b],.cons _ _ _ _ (.bool b) .nil,rfl,fun u hu=>by simp at hu;subst hu;trivial⟩
 |.int k,n,_,h=>by cases h;exact⟨[.int k n],.cons _ _ _ _ (.int k n) .nil,rfl,fun u hu=>by simp at hu;subst hu;trivial⟩
 |.str,s,_,⟨t,h1,h2⟩=>by subst h1;subst h2;exact⟨[.str t.data.toList],.cons _ _ _ _ (.str t) .nil,rfl,fun u hu=>by simp at hu;subst hu;trivial⟩
 |.err,b,_,h=>by
  rcases h with⟨h1,rfl⟩|⟨h1,t,p,rfl⟩
  .exact⟨[.nili],.cons _ _ _ _ .nili .nil,.inl ⟨rfl,h1⟩,fun u hu=>by simp at hu;subst hu;trivial⟩
  .exact⟨[.iface t .undef],.cons _ _ _ _ (.iface t .undef p (.undef p) rfl) .nil,.inr ⟨t,.undef,rfl,rfl,h1⟩,fun u hu=>by simp at hu;subst hu;trivial⟩
 |.sl t,l,_,h=>by
  rcases h with⟨h1,rfl⟩|⟨a,cap,rows,rfl,h2,h3,h4,h5,h6,h7⟩
  .exact⟨[.nils],.cons _ _ _ _ .nils .nil,.inl ⟨rfl,h1⟩,fun u hu=>by simp at hu;subst hu;trivial⟩
  .obtain⟨vs,k1,k2,k3⟩:=hrows_rows (R:=bP t) (fun x c _ hx=>hc_rel hA hx) h6;have hl:=hrows_len (z:=t.size) (fun x c hx=>hc_len hx) h6;have hcell:∀u∈vs,u.cell:=by
    intro u hu;have:∀{l:List t.den} {vs:List V},aL (bP t) l vs->∀u∈vs,u.cell:=by
     intro l
     induction l with
     |nil=>intro vs h u hu;cases h;cases hu
     |cons x l ih=>
      intro vs ⟨c,r,e,q1,q2⟩ u hu;subst e;exact(List.mem_append.1 hu).elim (bJ q1 u) (ih q2 u)
    exact this k2 u hu
   exact⟨[.sl .none t.size (List.length l) vs],.cons _ _ _ _ (.sl .none t.size (List.length l) vs a cap rows (hA a rows _ _ _ h5 h7) h4 hl h2 h3 h5 k1 (bare_names k3 hcell)) .nil,.inr ⟨.none,vs,rfl,k2,k3⟩,fun u hu=>by simp at hu;subst hu;rfl⟩
 |.st t,_,_,h=>hc_rel (t:=t) hA h
 |.pair a b,x,_,⟨c,d,e,h1,h2⟩=>by
  subst e;obtain⟨v1,k1,k2,k3⟩:=hc_rel (B:=B) hA h1;obtain⟨v2,k4,k5,k6⟩:=hc_rel (B:=B) hA h2;exact⟨v1++v2,k1.append k4,⟨v1,v2,rfl,k2,k5⟩,fun u hu=>(List.mem_append.1 hu).elim (k3 u) (k6 u)⟩
 |.av k n,x,_,⟨h1,h2⟩=>by
  subst h2;refine⟨x.map (V.int k),?_,⟨h1,rfl⟩,fun u hu=>by obtain⟨i,_,rfl⟩:=List.mem_map.1 hu;trivial⟩;clear h1
  induction x with
  |nil=>exact .nil
  |cons i r ih=>exact .cons _ _ _ _ (.int k i) ih
 |.fn f,_,_,h=>by cases h;exact⟨[.fn (.func f) [] []],.cons _ _ _ _ (.fn _ _ _ #[] #[] .nil .nil rfl rfl) .nil,rfl,fun u hu=>by simp at hu;subst hu;trivial⟩
theorem hv_rel{w:World}{A:Pl}{B:List Nat}{Q:Nat->Prop}(hA:∀a rows z n cap,Row w a rows->(rows≠[]->Q a.block)->A .none a rows.length z n cap){t:Ty}(ht:t.agg=true\/t.size=1){x:t.den}{c:Value}(h:HV w Q t x c):∃v,Rel w A B v c/\gP t x v/\∀u∈v.cells,u.bare0:=by
 obtain⟨h1,h2⟩:=h;obtain⟨vs,k1,k2,k3⟩:=hc_rel (B:=B) hA h1;cases c with
 |agg xs=>
  have h2:true=t.agg:=h2;exact⟨.agg vs,.agg vs xs (by simpa[Value.cells]using k1),⟨k2,h2⟩,k3⟩
 |_=>
  have h2:false=t.agg:=h2;simp only[Value.cells]at k1;have hl:=k1.length
  match vs,hl with
  |[v],_=>
   obtain⟨c',e,k4⟩:=rel_one k1;cases e;have hcell:=bJ k2 v (by simp);have hv:v.cells=[v]:=by cases v<;>first|rfl|exact hcell.elim
   refine⟨v,k4,⟨by rw[hv];exact k2,?_⟩,fun u hu=>k3 u (by rw[hv]at hu;exact hu)⟩;rw[<-h2];cases v<;>first|rfl|exact hcell.elim
end Go.VM
