/- Rows of rows, as a walk by hand has them. -/
import Derived.Test.YtgfmodmeimhhpaaDoorH2
import Derived.Laws.OwnMore
import Derived.Laws.NewBlocks
import Derived.Deep.Onto
import Derived.Lib.OwnBridge
import Derived.WalkKit
import Derived.Maps.AppendAt
open List(length_append getElem_append_left getElem_set_ne)
open Nat(add_mul)
namespace Go.VM
open Go.RowKit
def intC(l:List Int):List Value:=l.map (Value.int .i64)
def segC:List (Bool×List Int)->List Value->List Value
 |p::L,v::vs=>.bool p.1::v::segC L vs|_,_=>[]
theorem intC_len(l:List Int):(intC l).length=l.length:=List.length_map _
theorem segC_len:∀{L:List (Bool×List Int)} {vs:List Value},vs.length=L.length->(segC L vs).length=L.length*2
 |[],[],_=>rfl|[],_::_,h=>by simp at h|_::_,[],h=>by simp at h|p::L,v::vs,h=>by have:=segC_len (L:=L) (vs:=vs) (by simpa using h);simp only[segC,List.length_cons,this];omega
theorem segC_get0:∀{L:List (Bool×List Int)} {vs:List Value} {i:Nat} (_:vs.length=L.length) (h:i<L.length),(segC L vs)[i*2]?=some (.bool L[i].1)
 |p::L,v::vs,0,_,_=>rfl|p::L,v::vs,i+1,hl,h=>by have:=segC_get0 (L:=L) (vs:=vs) (i:=i) (by simpa using hl) (by simpa using h);rw[show(i+1)*2=i*2+1+1 by omega];simpa[segC]using this|_::_,[],_,hl,_=>by simp at hl
theorem segC_get1:∀{L:List (Bool×List Int)} {vs:List Value} {i:Nat} (_:vs.length=L.length) (h:i<vs.length),(segC L vs)[i*2+1]?=some vs[i]
 |p::L,v::vs,0,_,_=>rfl|p::L,v::vs,i+1,hl,h=>by have:=segC_get1 (L:=L) (vs:=vs) (i:=i) (by simpa using hl) (by simpa using h);rw[show(i+1)*2+1=i*2+1+1+1 by omega];simpa[segC]using this|[],_::_,_,hl,_=>by simp at hl
theorem segC_set:∀{L:List (Bool×List Int)} {vs:List Value} {i:Nat} (v:Value),vs.length=L.length->(segC L vs).set (i*2+1) v=segC L (vs.set i v)
 |[],[],_,_,_=>rfl|[],_::_,_,_,h=>by simp at h|_::_,[],_,_,h=>by simp at h|p::L,u::vs,0,v,_=>rfl|p::L,u::vs,i+1,v,h=>by have:=segC_set (L:=L) (vs:=vs) (i:=i) v (by simpa using h);rw[show(i+1)*2+1=i*2+1+1+1 by omega];simpa[segC]using this
theorem segC_app:∀{L M:List (Bool×List Int)} {vs us:List Value},vs.length=L.length->segC (L++M) (vs++us)=segC L vs++segC M us
 |[],_,[],_,_=>rfl|[],_,_::_,_,h=>by simp at h|_::_,_,[],_,h=>by simp at h|p::L,M,v::vs,us,h=>by have:=segC_app (L:=L) (M:=M) (vs:=vs) (us:=us) (by simpa using h);simp[segC,this]
theorem segC_fst:∀{L M:List (Bool×List Int)} (vs:List Value),L.map Prod.fst=M.map Prod.fst->segC L vs=segC M vs
 |[],[],_,_=>rfl|[],_::_,_,h=>by simp at h|_::_,[],_,h=>by simp at h|p::L,q::M,[],_=>rfl|p::L,q::M,v::vs,h=>by simp only[List.map_cons,List.cons.injEq]at h;simp only[segC,h.1,segC_fst vs h.2]
theorem segC_one:∀{L:List (Bool×List Int)} {vs:List Value},(∀v∈vs,v.oneCell'=true)->∀u∈segC L vs,u.oneCell'=true
 |[],_,_,u,hu=>by simp[segC]at hu|_::_,[],_,u,hu=>by simp[segC]at hu|p::L,v::vs,h,u,hu=>by simp only[segC,List.mem_cons]at hu;rcases hu with rfl|rfl|hu;rfl;exact h u (by simp);exact segC_one (fun v hv=>h v (by simp[hv])) u hu
theorem set_fst{L:List (Bool×List Int)}{i:Nat}(h:i<L.length)(l:List Int):(L.set i (L[i].1,l)).map Prod.fst=L.map Prod.fst:=by apply List.ext_getElem?;intro j;simp only[List.getElem?_map,List.getElem?_set];by_cases e:i=j;subst e;simp[h];simp[e]
def ownG(w:World)(base:Nat)(z:Nat)(v:Value)(n:Nat)(xs:List Value):Prop:=
 xs.length=n*z/\((v=.slice none 0 0/\n=0)\/∃g cap cur e,∃fr:Nat×Nat,v=.slice (some ⟨g,0,none⟩) n cap/\base<=g/\w.heap[g]?=some (.cells cur e fr)/\Fz fr cur.size/\n<=cap/\cap<=maxLen/\cur.size=cap*z/\cur.toList.take (n*z)=xs)
section
variable{w:World}{base:Nat}{z:Nat}{v:Value}{n:Nat}{xs:List Value}
theorem ownG_of{e:TypeId}(h:w.ownsRow base e z v n xs):ownG w base z v n xs:=
 ⟨h.1,h.2.imp id fun⟨g,cap,cur,h1,h2,h3,h4,h5,h6,h7⟩=>⟨g,cap,cur,e,(0,0),h1,h2,h3,Fz.zero _,h4,h5,h6,h7⟩⟩
theorem ownG.lt(h:ownG w base z v n xs):∀k,v.ownBlock=some k->base<=k/\k<w.heap.size:=fun k hk=>by rcases h.2 with⟨h1,_⟩|⟨g,cap,cur,e,fr,h1,h2,h3,_⟩;rw[h1]at hk;cases hk;rw[h1]at hk;cases hk;exact⟨h2,(Array.getElem?_eq_some_iff.1 h3).1⟩
theorem ownG.kept{w':World}{row:Option Nat}(h:ownG w base z v n xs)(hg:w.grownBy w' row)(hne:v.ownBlock=none\/v.ownBlock≠row):ownG w' base z v n xs:=by refine⟨h.1,h.2.imp id fun⟨g,cap,cur,e,fr,h1,h2,h3,h4⟩=>⟨g,cap,cur,e,fr,h1,h2,?_,h4⟩⟩;rw[hg.block g (Array.getElem?_eq_some_iff.1 h3).1 fun e=>?_];exact h3;subst h1;rcases hne with q|q;cases q;exact q e
theorem ownG.mono{base':Nat}(h:ownG w base z v n xs)(hb:base'<=base):ownG w base' z v n xs:=
 ⟨h.1,h.2.imp id fun⟨g,cap,cur,e,fr,h1,h2,h3⟩=>⟨g,cap,cur,e,fr,h1,Nat.le_trans hb h2,h3⟩⟩
theorem ownG.shape(h:ownG w base z v n xs):(v=.slice none 0 0/\n=0)\/∃g c,v=.slice (some ⟨g,0,none⟩) n c:=by rcases h.2 with h|⟨g,c,cur,e,fr,h,_⟩;exact .inl h;exact .inr ⟨g,c,h⟩
theorem ownG.shape3(h:ownG w base z v n xs):∃o m c,v=.slice o m c:=by rcases h.shape with⟨h,_⟩|⟨g,c,h⟩<;>exact⟨_,_,_,h⟩
theorem ownG.one(h:ownG w base z v n xs):v.oneCell'=true:=by rcases h.shape with⟨h,_⟩|⟨g,c,h⟩<;>rw[h]<;>rfl
theorem ownG.row{a:Addr}{c:Nat}(h:ownG w base z (.slice (some a) n c) n xs):Row w a xs/\n<=c/\c<=maxLen/\base<=a.block/\a.block<w.heap.size:=by rcases h.2 with⟨h',_⟩|⟨g,c',cur,e,fr,h',hb,hh,_,hc,hm,hs,ht⟩;cases h';cases h';refine⟨fun j u hj=>?_,hc,hm,hb,(Array.getElem?_eq_some_iff.1 hh).1⟩;rw[show(Addr.add ⟨g,0,none⟩ j)=⟨g,j,none⟩from by rw[Addr.add_lit,Nat.zero_add]];simp only[World.cell?,hh];rw[<-ht,List.getElem?_take]at hj;split at hj;simpa using hj;cases hj
end
theorem run_append_G{P:Program}(w:World)(base:Nat)(t ty e:TypeId)(i:TypeInfo)(z:Value)(size bytes:Nat)(ht:P.underlying t=some (.slice e))(hi:P.info? e=some i)(hz:i.zero=some z)
  (hsize:i.size=size) (hby:i.bytes=bytes) (hzs:z.cells.size=size) (hsz:0<size) (v:Value) (n:Nat) (xs:List Value) (hown:ownG w base size v n xs)
  (a:Addr) (m c:Nat) (news:List Value) (hl:news.length=m*size) (hnews:∀j u,news[j]?=some u->w.cell? (a.add j)=some u) (h1:∀u∈news,u.oneCell'=true)
  (h63:n+m<=maxLen) (hbytes:(n+m)*bytes<=140737488355328) (hbase:base<=w.heap.size) :
  ∃v' w',(Builtin.append_ #[t,t] ty #[v,.slice (some a) m c]).run P w=.ok v' w'/\ownG w' base size v' (n+m) (xs++news)/\w.grownBy w' v.ownBlock/\(v'=.slice none 0 0↔v=.slice none 0 0/\m=0)/\(v'.ownBlock=v.ownBlock\/v'.ownBlock=some w.heap.size):=by
 rcases hown.2 with⟨rfl,rfl⟩|⟨g,cap,cur,e0,fr,rfl,hb,hh,hfz,hnc,hm,hs,htk⟩;have hx:xs=[]:=List.eq_nil_of_length_eq_zero (by simpa using hown.1);subst hx;obtain⟨v',w',q1,q2,q3⟩:=run_append_own_at w base t ty e i z size bytes ht hi hz hsize hby hzs hsz (.slice none 0 0) 0 [] (World.ownsRow_nil _ _ _ _) a m c news hl hnews h1 h63 hbytes hbase;exact⟨v',w',q1,ownG_of q2,q3⟩;by_cases hroom:n+m<=cap;subst hsize;have hlen:(xs++news).length=(n+m)*i.size:=by rw[length_append,hown.1,hl,add_mul]
 have hfit:n*i.size+news.length<=cur.size:=by rw[hl,hs,<-add_mul];exact Nat.mul_le_mul_right _ hroom
 have hr:=mO (P:=P) (ty:=ty) ht ht hi ⟨fr,hh,hfz⟩ (.inl ⟨fun k h=>by(cases h),qO (c:=c) hl hnews⟩) h1 hroom hs;have hsz2:(cur.toList.take (n*i.size)++news++cur.toList.drop (n*i.size+news.length)).toArray.size=cur.size:=by simp only[List.size_toArray,length_append,List.length_take,List.length_drop,Array.length_toList];omega
 refine⟨_,_,hr,⟨hlen,.inr ⟨g,cap,_,e0,fr,rfl,hb,setRow_heap w g cur _ e0 fr hh,by rw[hsz2];exact hfz,hroom,hm,by rw[hsz2];exact hs,?_⟩⟩,⟨rfl,rfl,rfl,by simp,fun k _ hk=>setRow_other w g k _ (fun e=>hk (by simp[Value.ownBlock,e]))⟩,by simp,.inl rfl⟩;rw[htk,<-hlen];exact List.take_left;have hr:=run_append_grow (P:=P) w t ty e i z ht hi hz ⟨g,0,none⟩ n cap xs (by rw[hsize];exact hown.1) (fun j u hj=>(ownG.row hown).1 j u hj) a m c news (by rw[hsize];exact hl) hnews (by omega) (by unfold maxLen at h63;omega) (growslice_fits (by omega) (by rw[hby];exact hbytes));have hge:=grownCap_ge w (n+m) cap e;have hcm:grownCap w (n+m) cap e<=maxLen:=grownCap_le_maxLen w (n+m) cap e h63;have hlen:(xs++news).length=(n+m)*size:=by rw[length_append,hown.1,hl,add_mul]
 refine⟨_,_,hr,⟨hlen,.inr ⟨w.heap.size,_,_,e,(0,0),rfl,hbase,heap_alloc_new w.drew _,Fz.zero _,hge,hcm,?_,?_⟩⟩,⟨rfl,rfl,rfl,by simp,fun k hk _=>Go.heap_alloc_old w.drew _ hk⟩,by simp,.inr rfl⟩;simp only[Array.size_append,List.size_toArray,size_zeroCells,hzs,hown.1,hl,<-add_mul];congr 1;omega;simp only[Array.toList_append,List.append_assoc];rw[<-List.append_assoc,<-hlen];exact List.take_left
structure Deep(w:World)(base:Nat)(v:Value)(L:List (Bool×List Int))(vs:List Value):Prop where
 len:vs.length=L.length
 row:w.ownsRow base 63 2 v L.length (segC L vs)
 ins:∀i (h:i<L.length) (h':i<vs.length),ownG w base 1 vs[i] L[i].2.length (intC L[i].2)
 apart:∀i j (hi:i<vs.length) (hj:j<vs.length),i≠j->∀k,vs[i].ownBlock=some k->vs[j].ownBlock≠some k
 out:∀i (hi:i<vs.length) k,vs[i].ownBlock=some k->v.ownBlock≠some k
theorem owns_slice{w:World}{base:Nat}{e:TypeId}{z:Nat}{v:Value}{n:Nat}{xs:List Value}(h:w.ownsRow base e z v n xs):(v=.slice none 0 0/\n=0)\/∃g c,v=.slice (some ⟨g,0,none⟩) n c:=by rcases h.2 with h|⟨g,c,cur,h,_⟩;exact .inl h;exact .inr ⟨g,c,h⟩
theorem owns_row{w:World}{base:Nat}{e:TypeId}{z:Nat}{n:Nat}{a:Addr}{c:Nat}{xs:List Value}(h:w.ownsRow base e z (.slice (some a) n c) n xs):Row w a xs/\n<=c/\c<=maxLen/\base<=a.block/\a.block<w.heap.size:=by rcases h.2 with⟨h',_⟩|⟨g,c',cur,h',hb,hh,hc,hm,hs,ht⟩;cases h';cases h';have hl:=(World.ownsRow.lt h g rfl).2;exact⟨World.ownsRow.cells h rfl,hc,hm,hb,hl⟩
theorem Deep.one{w:World}{base:Nat}{v:Value}{L:List (Bool×List Int)}{vs:List Value}(h:Deep w base v L vs):∀u∈vs,u.oneCell'=true:=fun u hu=>by obtain⟨i,hi,rfl⟩:=List.mem_iff_getElem.1 hu;exact(h.ins i (by rw[<-h.len];exact hi) hi).one
theorem Deep.kept{w w':World}{row:Option Nat}{base:Nat}{v:Value}{L:List (Bool×List Int)}{vs:List Value}(h:Deep w base v L vs)(hg:w.grownBy w' row)(hne:∀k,row=some k->v.ownBlock≠some k/\∀i (hi:i<vs.length),vs[i].ownBlock≠some k):Deep w' base v L vs:=by
 have hh:∀u:Value,(∀k,row=some k->u.ownBlock≠some k)->u.ownBlock=none\/u.ownBlock≠row:=fun u hu=>by
  cases row with|none=>exact(Classical.em (u.ownBlock=none)).imp id id|some k=>exact .inr (hu k rfl)
 exact⟨h.len,h.row.kept hg (hh _ fun k hk=>(hne k hk).1),fun i hi hi'=>(h.ins i hi hi').kept hg (hh _ fun k hk=>(hne k hk).2 i hi'),h.apart,h.out⟩
theorem Deep.below{w w':World}{base:Nat}{v:Value}{L:List (Bool×List Int)}{vs:List Value}(h:Deep w base v L vs)(hb:Below w.heap.size w w'):Deep w' base v L vs:=
 h.kept (row:=none) ⟨hb.os,hb.tape,hb.output,hb.size,fun k hk _=>hb.block k hk⟩ (fun k hk=>by cases hk)
theorem Deep.mono{w:World}{base base':Nat}{v:Value}{L:List (Bool×List Int)}{vs:List Value}(h:Deep w base v L vs)(hb:base'<=base):Deep w base' v L vs:=
 ⟨h.len,h.row.mono hb,fun i hi hi'=>(h.ins i hi hi').mono hb,h.apart,h.out⟩
theorem Deep.nil(w:World)(base:Nat):Deep w base (.slice none 0 0) [] []:=
 ⟨rfl,World.ownsRow_nil _ _ _ _,fun i h=>by simp at h,fun i j h=>by simp at h,fun i h=>by simp at h⟩
theorem Deep.push{w w':World}{base:Nat}{v v' u:Value}{L:List (Bool×List Int)}{vs:List Value}{b:Bool}{l:List Int}(h:Deep w base v L vs)(hu:ownG w base 1 u l.length (intC l))(ha:∀i (hi:i<vs.length) k,vs[i].ownBlock=some k->u.ownBlock≠some k)(hv:∀k,u.ownBlock=some k->v.ownBlock≠some k)
  (hw:w'.ownsRow base 63 2 v' (L.length+1) (segC L vs++[.bool b,u])) (hg:w.grownBy w' v.ownBlock) (hb:v'.ownBlock=v.ownBlock\/∃k,v'.ownBlock=some k/\w.heap.size<=k):Deep w' base v' (L++[(b,l)]) (vs++[u]):=by
 have hok:∀i (hi:i<(vs++[u]).length) k,(vs++[u])[i].ownBlock=some k->v.ownBlock≠some k/\k<w.heap.size:=fun i hi k hk=>by
  by_cases hlt:i<vs.length;rw[getElem_append_left hlt]at hk;exact⟨h.out i hlt k hk,((h.ins i (by rw[<-h.len];exact hlt) hlt).lt k hk).2⟩;have:i=vs.length:=by simp at hi;omega
  subst this;rw[List.getElem_concat_length]at hk;exact⟨hv k hk,(hu.lt k hk).2⟩;rfl
 refine⟨by simp[h.len],?_,fun i hi hi'=>?_,fun i j hi hj hij k hk=>?_,fun i hi k hk=>?_⟩;rw[segC_app h.len,length_append];exact hw
 · have hkeep : ∀ {x : Value} {m : List Int}, ownG w base 1 x m.length (intC m) → (∀ k, x.ownBlock = some k → v.ownBlock ≠ some k) → ownG w' base 1 x m.length (intC m) := fun {x m} hx hne => by
     refine hx.kept hg ?_;by_cases h0:x.ownBlock=none;exact .inl h0;obtain⟨k,hk⟩:=Option.ne_none_iff_exists'.1 h0;exact .inr fun e=>hne k hk (by rw[<-e];exact hk)
   by_cases hlt:i<vs.length;have hlt':i<L.length:=by rw[<-h.len];exact hlt
   rw[getElem_append_left hlt];have e:(L++[(b,l)])[i]=L[i]:=getElem_append_left hlt';rw[e];exact hkeep (h.ins i hlt' hlt) fun k hk=>h.out i hlt k hk
   have e0:i=vs.length:=by simp at hi';omega
   have e1:(vs++[u])[i]=u:=by subst e0;simp
   have e2:(L++[(b,l)])[i]=(b,l):=by
    have:i=L.length:=by rw[e0,h.len]
    subst this;simp
   rw[e1,e2];exact hkeep hu hv
 by_cases h1:i<vs.length<;>by_cases h2:j<vs.length
 rw[getElem_append_left h1]at hk;rw[getElem_append_left h2];exact h.apart i j h1 h2 hij k hk
 · have e2 : (vs ++ [u])[j] = u := by
     have:j=vs.length:=by simp at hj;omega
     subst this;simp
   rw[getElem_append_left h1]at hk;rw[e2];exact ha i h1 k hk
 · have e1 : (vs ++ [u])[i] = u := by
     have:i=vs.length:=by simp at hi;omega
     subst this;simp
   rw[e1]at hk;rw[getElem_append_left h2];exact fun hk'=>ha j h2 k hk' hk
 exfalso;simp at hi hj;omega;obtain⟨q1,q2⟩:=hok i hi k hk;rcases hb with hb|⟨g,hb,hge⟩;rw[hb];exact q1;rw[hb];intro e;cases e;omega
theorem Deep.setIn{w w':World}{base g n c i:Nat}{u:Value}{L:List (Bool×List Int)}{vs:List Value}{l:List Int}(h:Deep w base (.slice (some ⟨g,0,none⟩) n c) L vs)(hi:i<L.length)
  (hg:w.grownBy w' (vs[i]'(by rw[h.len];exact hi)).ownBlock) (hu:ownG w' base 1 u l.length (intC l)) (hb:∀k,u.ownBlock=some k->(vs[i]'(by rw[h.len];exact hi)).ownBlock=some k\/w.heap.size<=k) :
  Deep (w'.setCell ⟨g,i*2+1,none⟩ u) base (.slice (some ⟨g,0,none⟩) n c) (L.set i (L[i].1,l)) (vs.set i u)/\w'.grownBy (w'.setCell ⟨g,i*2+1,none⟩ u) (some g):=by
 have hi':i<vs.length:=by rw[h.len];exact hi
 have hn:n=L.length:=by rcases owns_slice h.row with⟨q,_⟩|⟨g',c',q⟩;cases q;cases q;rfl
 have hgo:∀j (hj:j<vs.length),vs[j].ownBlock≠some g:=fun j hj e=>h.out j hj g e rfl
 have hgw:g<w.heap.size:=(World.ownsRow.lt h.row g rfl).2;have hrow:w'.ownsRow base 63 2 (.slice (some ⟨g,0,none⟩) n c) n (segC L vs):=by have:=h.row.kept hg (.inr fun e=>hgo i hi' e.symm);rw[<-hn]at this;exact this
 obtain⟨hs1,hs2⟩:=hrow.stored (i*2+1) u;rw[segC_set u h.len]at hs1;have hug:u.ownBlock≠some g:=fun e=>by rcases hb g e with q|q;exact hgo i hi' q;omega
 have hne:∀x:Value,x.ownBlock≠some g->x.ownBlock=none\/x.ownBlock≠some g:=fun x hx=>.inr hx
 refine⟨⟨by simp[h.len],?_,fun j hj hj'=>?_,fun j k hj hk hjk b hb1=>?_,fun j hj k hk=>?_⟩,hs2⟩;rw[segC_fst (M:=L) _ (set_fst hi l),List.length_set,<-hn];exact hs1;have hj1:j<vs.length:=by simpa using hj'
 have hj2:j<L.length:=by simpa using hj
 by_cases e:i=j;subst e;simp only[List.getElem_set_self];exact hu.kept hs2 (hne _ hug);simp only[getElem_set_ne e];have hne2:vs[j].ownBlock=none\/vs[j].ownBlock≠vs[i].ownBlock:=by by_cases h0:vs[j].ownBlock=none;exact .inl h0;obtain⟨k,hk⟩:=Option.ne_none_iff_exists'.1 h0;exact .inr fun q=>h.apart j i hj1 hi' (Ne.symm e) k hk (by rw[<-q];exact hk)
 exact((h.ins j hj2 hj1).kept hg hne2).kept hs2 (hne _ (hgo j hj1));have hj1:j<vs.length:=by simpa using hj
 have hk1:k<vs.length:=by simpa using hk
 have hold:∀q (hq:q<vs.length),q≠i->∀b,u.ownBlock=some b->vs[q].ownBlock≠some b:=fun q hq hqi b hub hqb=>by rcases hb b hub with q1|q1;exact h.apart q i hq hi' hqi b hqb q1;have:=((h.ins q (by rw[<-h.len];exact hq) hq).lt b hqb).2;omega
 by_cases e1:i=j;subst e1;rw[List.getElem_set_self]at hb1;rw[getElem_set_ne hjk];exact hold k hk1 (Ne.symm hjk) b hb1;rw[getElem_set_ne e1]at hb1;by_cases e2:i=k;subst e2;rw[List.getElem_set_self];exact fun hub=>hold j hj1 (Ne.symm e1) b hub hb1
 rw[getElem_set_ne e2];exact h.apart j k hj1 hk1 hjk b hb1;have hj1:j<vs.length:=by simpa using hj
 by_cases e:i=j;subst e;rw[List.getElem_set_self]at hk;intro q;cases q;exact hug hk;rw[getElem_set_ne e]at hk;exact h.out j hj1 k hk
abbrev tyS:Ty:=.st (.pair .bool (.sl (.int .i64)))
def rowV(l:List Int):V:=if l.isEmpty then .nils else .sl .none 1 l.length (l.map (V.int .i64))
def segsV:List (Bool×List Int)->List V
 |[]=>[]|p::L=>.bool p.1::rowV p.2::segsV L
def pathV(L:List (Bool×List Int)):V:=.sl .none 2 L.length (segsV L)
theorem owns_rel{w w':World}{z n base:Nat}{v:Value}{xs:List Value}{vs:List V}(hz:0<z)(hb:w.heap.size<=base)(h:ownG w' base z v n xs)(hn:v≠.slice none 0 0)(hr:RelL w' (aGu w w') [] vs xs)(hnm:aC vs=[]):Rel w' (aGu w w') [] (.sl .none z n vs) v:=by obtain⟨h1,⟨h2,_⟩|⟨g,cap,cur,e,fr,rfl,hg,hh,_,hc,hm,hs,ht⟩⟩:=h;exact absurd h2 hn;have hle:n*z<=cap*z:=Nat.mul_le_mul_right z hc;refine .sl .none z n vs _ cap xs (.inr ⟨Nat.le_trans hb hg,cur,e,fr,hh,?_⟩) hz h1 hc hm (fun j u hj=>?_) hr hnm;rw[h1];show 0+n*z<=cur.size;omega;rw[show(Addr.add ⟨g,0,none⟩ j)=⟨g,j,none⟩from by rw[Addr.add_lit,Nat.zero_add]];simp only[World.cell?,hh];rw[<-ht,List.getElem?_take]at hj;split at hj;simpa using hj;cases hj
theorem ints_rel{w:World}{A:Pl}{B:List Nat}:∀l:List Int,RelL w A B (l.map (V.int .i64)) (intC l)
 |[]=>.nil|i::l=>.cons _ _ _ _ (.int _ _) (ints_rel l)
theorem ints_names:∀l:List Int,aC (l.map (V.int .i64))=[]
 |[]=>rfl|_::l=>ints_names l
theorem rowV_rel{w w':World}{base:Nat}{l:List Int}{v:Value}(hb:w.heap.size<=base)(h:ownG w' base 1 v l.length (intC l))(hn:l=[]->v=.slice none 0 0):Rel w' (aGu w w') [] (rowV l) v:=by unfold rowV;by_cases h0:l=[];rw[if_pos (by simp[h0]),hn h0];exact .nils;rw[if_neg (by simpa using h0)];refine owns_rel (by decide) hb h (fun e=>?_) (ints_rel l) (ints_names l);rcases h.shape with⟨_,q⟩|⟨g,c,q⟩;exact h0 (List.length_eq_zero_iff.1 q);rw[q]at e;cases e
theorem rowV_names(l:List Int):(rowV l).names=[]:=by unfold rowV;split<;>rfl
theorem segsV_names:∀L:List (Bool×List Int),aC (segsV L)=[]
 |[]=>rfl|p::L=>by simp only[segsV,aC,V.names,rowV_names,segsV_names L,List.nil_append]
theorem segsV_rel{w:World}{A:Pl}{B:List Nat}:∀{L:List (Bool×List Int)} {vs:List Value},vs.length=L.length->(∀i (h:i<L.length) (h':i<vs.length),Rel w A B (rowV L[i].2) vs[i])->RelL w A B (segsV L) (segC L vs)
 |[],[],_,_=>.nil|[],_::_,h,_=>by simp at h|_::_,[],h,_=>by simp at h|p::L,v::vs,hl,h=>.cons _ _ _ _ (.bool _) (.cons _ _ _ _ (h 0 (by simp) (by simp)) (segsV_rel (by simpa using hl) fun i hi hi'=>h (i+1) (by simpa using hi) (by simpa using hi')))
theorem Deep.rel{w w':World}{base:Nat}{v:Value}{L:List (Bool×List Int)}{vs:List Value}(h:Deep w' base v L vs)(hb:w.heap.size<=base)(hn:∀i (hi:i<L.length) (hi':i<vs.length),L[i].2=[]->vs[i]=.slice none 0 0)(hv:v≠.slice none 0 0):Rel w' (aGu w w') [] (pathV L) v:=
 owns_rel (by decide) hb (ownG_of h.row) hv (segsV_rel h.len fun i hi hi'=>rowV_rel hb (h.ins i hi hi') (hn i hi hi')) (segsV_names L)
theorem rowV_crel(l:List Int):bP (.sl (.int .i64)) l [rowV l]:=by
 unfold rowV;by_cases h0:l=[];subst h0;exact .inl ⟨rfl,rfl⟩;rw[if_neg (by simpa using h0)];refine .inr ⟨.none,_,rfl,?_,fun v hv=>by obtain⟨i,_,rfl⟩:=List.mem_map.1 hv;trivial⟩;clear h0
 induction l with|nil=>rfl|cons i l ih=>exact⟨[.int .i64 i],_,rfl,rfl,ih⟩
theorem rowV_bare(l:List Int):(rowV l).bare0:=by unfold rowV;split;trivial;rfl
theorem segsV_bare:∀L:List (Bool×List Int),∀u∈segsV L,u.bare0
 |[],u,hu=>by cases hu|p::L,u,hu=>by simp only[segsV,List.mem_cons]at hu;rcases hu with rfl|rfl|hu;trivial;exact rowV_bare _;exact segsV_bare L u hu
theorem pathV_crel(L:List (Bool×List Int)):bP (.sl tyS) L [pathV L]:=by
 refine .inr ⟨.none,segsV L,rfl,?_,segsV_bare L⟩
 induction L with|nil=>rfl|cons p L ih=>exact⟨[.bool p.1,rowV p.2],_,rfl,⟨[.bool p.1],[rowV p.2],rfl,rfl,rowV_crel p.2⟩,ih⟩
theorem hrows_seg{w:World}{Q:Nat->Prop}:∀{L:List (Bool×List Int)} {rows:List Value},HRows (HC w Q tyS) L rows->∃us,us.length=L.length/\rows=segC L us/\∀i (h:i<L.length) (h':i<us.length),HC w Q (.sl (.int .i64)) L[i].2 [us[i]]
 |[],_,h=>⟨[],rfl,h,fun i h=>by simp at h⟩|p::L,_,⟨c,r,e,h1,h2⟩=>by
  obtain⟨us,k1,k2,k3⟩:=hrows_seg h2;obtain⟨c1,c2,e1,q1,q2⟩:=h1;have q1:c1=[.bool p.1]:=q1;have hl:c2.length=1:=hc_len q2
  match c2,hl with
  |[u],_=>
   subst q1;refine⟨u::us,by simp[k1],by rw[e,e1,k2];rfl,fun i h h'=>?_⟩;cases i with
   |zero=>exact q2|succ i=>exact k3 i (by simpa using h) (by simpa using h')
theorem hc_slice{w:World}{Q:Nat->Prop}{t:Ty}{l:List t.den}{u:Value}(h:HC w Q (.sl t) l [u]):(l=[]/\u=.slice none 0 0)\/∃a cap rows,u=.slice (some a) l.length cap/\l.length<=cap/\cap<=maxLen/\Row w a rows/\HRows (HC w Q t) l rows/\(rows≠[]->Q a.block):=by rcases h with⟨h1,h2⟩|⟨a,cap,rows,h1,h2,h3,_,h4,h5,h6⟩;cases h2;exact .inl ⟨h1,rfl⟩;cases h1;exact .inr ⟨a,cap,rows,rfl,h2,h3,h4,h5,h6⟩
theorem hrows_ints{w:World}{Q:Nat->Prop}:∀{l:List Int} {rows:List Value},HRows (HC w Q (.int .i64)) l rows->rows=intC l
 |[],_,h=>h|i::l,_,⟨c,r,e,h1,h2⟩=>by have h1:c=[.int .i64 i]:=h1;rw[e,h1,hrows_ints h2];rfl
theorem ints_hrows{w:World}{Q:Nat->Prop}:∀l:List Int,HRows (HC w Q (.int .i64)) l (intC l)
 |[]=>rfl|i::l=>⟨[.int .i64 i],_,rfl,rfl,ints_hrows l⟩
theorem intC_one(l:List Int):∀u∈intC l,u.oneCell'=true:=fun u hu=>by obtain⟨i,_,rfl⟩:=List.mem_map.1 hu;rfl
theorem owns_hc{w:World}{base:Nat}{l:List Int}{v:Value}(h:ownG w base 1 v l.length (intC l)):HC w (fun b=>b<w.heap.size) (.sl (.int .i64)) l [v]:=by rcases h.shape with⟨rfl,h0⟩|⟨g,c,rfl⟩;exact .inl ⟨List.length_eq_zero_iff.1 h0,rfl⟩;obtain⟨q1,q2,q3,_,q5⟩:=h.row;exact .inr ⟨_,c,intC l,rfl,q2,q3,by decide,q1,ints_hrows l,fun _=>q5⟩
theorem Deep.hv{w:World}{base:Nat}{v:Value}{L:List (Bool×List Int)}{vs:List Value}(h:Deep w base v L vs):HV w (fun b=>b<w.heap.size) (.sl tyS) L v:=by
 have hr:∀{L:List (Bool×List Int)} {vs:List Value},vs.length=L.length->(∀i (h:i<L.length) (h':i<vs.length),HC w (fun b=>b<w.heap.size) (.sl (.int .i64)) L[i].2 [vs[i]])->HRows (HC w (fun b=>b<w.heap.size) tyS) L (segC L vs):=by
  intro L
  induction L with
  |nil=>intro vs hl _;cases vs with|nil=>rfl|cons=>simp at hl
  |cons p L ih=>
   intro vs hl hi;cases vs with
   |nil=>simp at hl|cons u vs=>exact⟨[.bool p.1,u],_,rfl,⟨[.bool p.1],[u],rfl,rfl,hi 0 (by simp) (by simp)⟩,ih (by simpa using hl) fun i h h'=>hi (i+1) (by simpa using h) (by simpa using h')⟩
 have hrow:=hr h.len fun i hi hi'=>owns_hc (h.ins i hi hi')
 rcases owns_slice h.row with⟨rfl,h0⟩|⟨g,c,q⟩;exact⟨.inl ⟨List.length_eq_zero_iff.1 h0,rfl⟩,rfl⟩;have hr2:=h.row;obtain⟨len,row,_,_,_⟩:=h;rw[q]at hr2 ⊢;have hn:∃n,v=.slice (some ⟨g,0,none⟩) n c:=⟨_,q⟩;rcases hr2.2 with⟨q1,_⟩|⟨g',c',cur,q1,_⟩;cases q1;cases q1;obtain⟨q1,q2,q3,_,q5⟩:=owns_row hr2;exact⟨.inr ⟨_,c,_,rfl,q2,q3,by decide,q1,hrow,fun _=>q5⟩,rfl⟩
end Go.VM
