/- Walked by hand: a copy in place and a clear, as the machine does them. -/
import Derived.Laws.CopyRow
import Derived.Laws.IdiomCopy
import Derived.Laws.AppendOwn
import Derived.Lib.AppendZerosOnto
import Derived.Lib.Overlaps
import Derived.Laws.NewBlocks
import Derived.Shelf.RegionOpenPlain
import Derived.WalkKit
import Derived.Lib.Walk
import Derived.Lib.SliceRun
import Derived.Lib.JoinLaws
import Derived.Lib.AppendZeros
import Derived.Lib.OwnBridge
import Derived.Laws.Externs
import Derived.Lib.Hide
import Derived.Maps.AppendAt
import Derived.Laws.OwnMore
import Derived.Deep.Onto
import Derived.Lib.AtoiAll
import Derived.Deep.LoopGhost
import Derived.Lib.Mul64
import Derived.Shelf.Bits.Mul64
import Derived.Shelf.Slices.Turned
import Derived.Ground.Names2Prog
import Derived.Shelf.Slices.Clone
import Derived.Shelf.Slices.SearchI
import Derived.Ground.SlgnProg
import Derived.Shelf.SlicesE.Clone
import Derived.Deep.RegionHeld3
import Derived.Deep.AppendLies
import Derived.Test.YtgfmodmeimhhpaaGreatDoorJC
import Derived.Test.YtgfmodmeimhhpaaGreatDoorRows
import Derived.Maps.Keyed
import Derived.LaidMore
import Derived.MakeChecks
namespace Go.VM
theorem a3B{P:Program}(w:World)(dT sT ty elem:TypeId)(z g o dLen dCap:Nat)(a:Addr)(sLen sCap:Nat)(cur:Array Value)(t:TypeId)(cs:List Value)
  (hu:P.underlying dT=some (.slice elem)) (hs:(P.info? elem).map (·.size)=some z)
  (hg:w.heap[g]?=some (.cells cur t (0,0))) (hn:cs.length=Nat.min sLen dLen*z)
  (hsrc:∀j v,cs[j]?=some v->w.cell? (a.add j)=some v) (hfit:o+cs.length<=cur.size) (h1:∀v∈cs,v.oneCell'=true) :
  (Builtin.copy_ #[dT,sT] ty #[.slice (some ⟨g,o,none⟩) dLen dCap,.slice (some a) sLen sCap]).run P w=
   .ok (goInt (Nat.min sLen dLen)) (w.setRow g (cur.toList.take o++cs++cur.toList.drop (o+cs.length)).toArray):=by
 have hl:=run_loadCells_list (P:=P) w a cs hsrc;have hst:=run_storeCells_at P g o t cs 0 cur w hg (by simpa using hfit) h1;cases hq:P.info? elem with
 |none=>simp[hq]at hs|some i=>
  have hi:i.size=z:=by simpa[hq]using hs
  rw[hn]at hl;simp[Builtin.copy_,run_underlying hu,Builtin.lenOf,Builtin.firstCells,sizeOf,typeInfo,hq,hi,hl,hst]
end Go.VM
namespace Go.Proofs.YtgfmodmeimhhpaaGreatDoor
open Go.RowKit Go.Lib Go.VM
theorem a6q:(Tryz.prog.info? 80).map (fun i=>(i.zero,i.size,i.bytes))=some (some (.agg #[.bool false,.slice none 0 0]),2,32):=by kernel_rfl
theorem a3o{P:Program}{ops:Array Oper}{o:Oper}{a:Act}{w:World}{K:Act->World->Prop}{Q:Exit->Act->World->Prop}{E:Prop}
  (hg:o.guard=none) (d x:Operand) (dT sT:TypeId) (hop:o.op=Op.call {callee:=Callee.builtin Builtin.copy,args:=#[d,x],argTypes:=#[dT,sT]})
  (v u:Value) (hd:a.eval d=v) (hx:a.eval x=u) {v':Value} {w':World} (hr:(Builtin.copy_ #[dT,sT] o.type #[v,u]).run P w=.ok v' w') (hK:K (a.put o.dst v') w') :
  if Region.wanted o (yielded ops a.tmps)=true then Oper.wp P o a w K Q else E:=by
 have hw:Region.wanted o (yielded ops a.tmps)=true:=by simp[Region.wanted,hg]
 rw[if_pos hw];unfold Oper.wp;simp[execOp,hop,resolve,invoke,builtin,hd,hx,hr,Result.andThen];exact hK
set_option maxHeartbeats 4000000 in
set_option maxRecDepth 100000 in
theorem ins_end(base:Nat)(s:Value)(n c vb:Nat)(a:Option Addr)(xs ds:List Value)(w:World)(hs:s=.slice a n c)(hown:w.ownsRow base 80 2 s n xs)(hbase:base<=w.heap.size)(hn:n+1<=4294967295)
  (hv:w.heap[vb]?=some (.cells ds.toArray 80 (0,0))) (hdl:ds.length=2) (hd1:∀v∈ds,v.oneCell'=true) :
  Calls Tryz.prog 89 #[.slice a n c,.int .i64 n,.slice (some ⟨vb,0,none⟩) 1 1] w fun r w'=>∃v',r=.returned v'/\w'.ownsRow base 80 2 v' (n+1) (xs++ds)/\w.grownBy w' s.ownBlock/\(v'.ownBlock=s.ownBlock\/v'.ownBlock=some w.heap.size):=by
 have u22:∀w,Sem.run Tryz.prog (underlying 30) w=.ok (TypeDesc.slice 80) w:=run_underlying Tryz.underlying30;obtain⟨i0,hi0,hz0,hzs,hzb⟩:=info_parts a6q;have H1:=Lib.hid hown;have H2:=Lib.hid hv;have H3:=Lib.hid hdl;have H4:=Lib.hid hd1;have H5:=Lib.hid hs;clear hown hv hdl hd1 hs
 go_enter Tryz.func89,Tryz.ntmps89
 go_wp2_with (at_builtin;refine wpList_append_own_at _ rfl _ _ 30 rfl base 80 i0 (.agg #[.bool false,.slice none 0 0]) 2 32 Tryz.underlying30 hi0 hz0 hzs hzb rfl (by omega) (.slice a n c) n xs rfl (H5.out▸H1.out) ⟨vb,0,none⟩ 1 1 ds rfl H3.out (fun j u hj=>by rw[Addr.add_lit];simpa[World.cell?,H2.out]using hj) H4.out (by unfold maxLen;omega) (by omega) hbase ?_;intro v' w1 hown' hgrow hnil hat;have X:=Lib.hid (And.intro hown' (And.intro hgrow hat));clear hown' hgrow hnil hat)
 all_goals
  go_ret
  exact⟨_,rfl,X.out.1,by rw[H5.out];exact X.out.2⟩
end Go.Proofs.YtgfmodmeimhhpaaGreatDoor
namespace Go.Proofs.YtgfmodmeimhhpaaGreatDoor
open Go.RowKit Go.Lib Go.VM
theorem a2F(w:World)(g:Nat)(R:Array Value):w.grownBy (w.setRow g R) (some g):=by refine⟨rfl,rfl,rfl,?_,fun k hk hne=>?_⟩;show _<=(w.heap.modify g _).size;rw[Array.size_modify];exact Nat.le_refl _;show(w.heap.modify g _)[k]?=_;rw[Array.getElem?_modify,if_neg (fun h=>hne (by rw[h]))]
end Go.Proofs.YtgfmodmeimhhpaaGreatDoor
open List(length_append getElem_append_left getElem_set_ne)
open Nat(add_mul)
namespace Go.VM
open Go.RowKit
def a1f(l:List Int):List Value:=l.map (Value.int .i64)
def a1I:List (Bool×List Int)->List Value->List Value
 |p::L,v::vs=>.bool p.1::v::a1I L vs|_,_=>[]
theorem a1r(l:List Int):(a1f l).length=l.length:=List.length_map _
theorem a5c:∀{L:List (Bool×List Int)} {vs:List Value},vs.length=L.length->(a1I L vs).length=L.length*2
 |[],[],_=>rfl|[],_::_,h=>by simp at h|_::_,[],h=>by simp at h|p::L,v::vs,h=>by have:=a5c (L:=L) (vs:=vs) (by simpa using h);simp only[a1I,List.length_cons,this];omega
theorem a2Z:∀{L:List (Bool×List Int)} {vs:List Value} {i:Nat} (_:vs.length=L.length) (h:i<L.length),(a1I L vs)[i*2]?=some (.bool L[i].1)
 |p::L,v::vs,0,_,_=>rfl|p::L,v::vs,i+1,hl,h=>by have:=a2Z (L:=L) (vs:=vs) (i:=i) (by simpa using hl) (by simpa using h);rw[show(i+1)*2=i*2+1+1 by omega];simpa[a1I]using this|_::_,[],_,hl,_=>by simp at hl
theorem a2e:∀{L:List (Bool×List Int)} {vs:List Value} {i:Nat} (_:vs.length=L.length) (h:i<vs.length),(a1I L vs)[i*2+1]?=some vs[i]
 |p::L,v::vs,0,_,_=>rfl|p::L,v::vs,i+1,hl,h=>by have:=a2e (L:=L) (vs:=vs) (i:=i) (by simpa using hl) (by simpa using h);rw[show(i+1)*2+1=i*2+1+1+1 by omega];simpa[a1I]using this|[],_::_,_,hl,_=>by simp at hl
theorem a3S:∀{L:List (Bool×List Int)} {vs:List Value} {i:Nat} (v:Value),vs.length=L.length->(a1I L vs).set (i*2+1) v=a1I L (vs.set i v)
 |[],[],_,_,_=>rfl|[],_::_,_,_,h=>by simp at h|_::_,[],_,_,h=>by simp at h|p::L,u::vs,0,v,_=>rfl|p::L,u::vs,i+1,v,h=>by have:=a3S (L:=L) (vs:=vs) (i:=i) v (by simpa using h);rw[show(i+1)*2+1=i*2+1+1+1 by omega];simpa[a1I]using this
theorem a5d:∀{L M:List (Bool×List Int)} {vs us:List Value},vs.length=L.length->a1I (L++M) (vs++us)=a1I L vs++a1I M us
 |[],_,[],_,_=>rfl|[],_,_::_,_,h=>by simp at h|_::_,_,[],_,h=>by simp at h|p::L,M,v::vs,us,h=>by have:=a5d (L:=L) (M:=M) (vs:=vs) (us:=us) (by simpa using h);simp[a1I,this]
theorem a5e:∀{L M:List (Bool×List Int)} (vs:List Value),L.map Prod.fst=M.map Prod.fst->a1I L vs=a1I M vs
 |[],[],_,_=>rfl|[],_::_,_,h=>by simp at h|_::_,[],_,h=>by simp at h|p::L,q::M,[],_=>rfl|p::L,q::M,v::vs,h=>by simp only[List.map_cons,List.cons.injEq]at h;simp only[a1I,h.1,a5e vs h.2]
theorem a5f:∀{L:List (Bool×List Int)} {vs:List Value},(∀v∈vs,v.oneCell'=true)->∀u∈a1I L vs,u.oneCell'=true
 |[],_,_,u,hu=>by simp[a1I]at hu|_::_,[],_,u,hu=>by simp[a1I]at hu|p::L,v::vs,h,u,hu=>by simp only[a1I,List.mem_cons]at hu;rcases hu with rfl|rfl|hu;rfl;exact h u (by simp);exact a5f (fun v hv=>h v (by simp[hv])) u hu
theorem set_fst{L:List (Bool×List Int)}{i:Nat}(h:i<L.length)(l:List Int):(L.set i (L[i].1,l)).map Prod.fst=L.map Prod.fst:=by apply List.ext_getElem?;intro j;simp only[List.getElem?_map,List.getElem?_set];by_cases e:i=j;subst e;simp[h];simp[e]
def a1J(w:World)(base:Nat)(z:Nat)(v:Value)(n:Nat)(xs:List Value):Prop:=
 xs.length=n*z/\((v=.slice none 0 0/\n=0)\/∃g cap cur e,∃fr:Nat×Nat,v=.slice (some ⟨g,0,none⟩) n cap/\base<=g/\w.heap[g]?=some (.cells cur e fr)/\Fz fr cur.size/\n<=cap/\cap<=maxLen/\cur.size=cap*z/\cur.toList.take (n*z)=xs)
section
variable{w:World}{base:Nat}{z:Nat}{v:Value}{n:Nat}{xs:List Value}
theorem a2u{e:TypeId}(h:w.ownsRow base e z v n xs):a1J w base z v n xs:=
 ⟨h.1,h.2.imp id fun⟨g,cap,cur,h1,h2,h3,h4,h5,h6,h7⟩=>⟨g,cap,cur,e,(0,0),h1,h2,h3,Fz.zero _,h4,h5,h6,h7⟩⟩
theorem a1J.lt(h:a1J w base z v n xs):∀k,v.ownBlock=some k->base<=k/\k<w.heap.size:=fun k hk=>by rcases h.2 with⟨h1,_⟩|⟨g,cap,cur,e,fr,h1,h2,h3,_⟩;rw[h1]at hk;cases hk;rw[h1]at hk;cases hk;exact⟨h2,(Array.getElem?_eq_some_iff.1 h3).1⟩
theorem a1J.kept{w':World}{row:Option Nat}(h:a1J w base z v n xs)(hg:w.grownBy w' row)(hne:v.ownBlock=none\/v.ownBlock≠row):a1J w' base z v n xs:=by refine⟨h.1,h.2.imp id fun⟨g,cap,cur,e,fr,h1,h2,h3,h4⟩=>⟨g,cap,cur,e,fr,h1,h2,?_,h4⟩⟩;rw[hg.block g (Array.getElem?_eq_some_iff.1 h3).1 fun e=>?_];exact h3;subst h1;rcases hne with q|q;cases q;exact q e
theorem a1J.mono{base':Nat}(h:a1J w base z v n xs)(hb:base'<=base):a1J w base' z v n xs:=
 ⟨h.1,h.2.imp id fun⟨g,cap,cur,e,fr,h1,h2,h3⟩=>⟨g,cap,cur,e,fr,h1,Nat.le_trans hb h2,h3⟩⟩
theorem a1J.shape(h:a1J w base z v n xs):(v=.slice none 0 0/\n=0)\/∃g c,v=.slice (some ⟨g,0,none⟩) n c:=by rcases h.2 with h|⟨g,c,cur,e,fr,h,_⟩;exact .inl h;exact .inr ⟨g,c,h⟩
theorem a1J.shape3(h:a1J w base z v n xs):∃o m c,v=.slice o m c:=by rcases h.shape with⟨h,_⟩|⟨g,c,h⟩<;>exact⟨_,_,_,h⟩
theorem a1J.one(h:a1J w base z v n xs):v.oneCell'=true:=by rcases h.shape with⟨h,_⟩|⟨g,c,h⟩<;>rw[h]<;>rfl
theorem a1J.row{a:Addr}{c:Nat}(h:a1J w base z (.slice (some a) n c) n xs):Row w a xs/\n<=c/\c<=maxLen/\base<=a.block/\a.block<w.heap.size:=by rcases h.2 with⟨h',_⟩|⟨g,c',cur,e,fr,h',hb,hh,_,hc,hm,hs,ht⟩;cases h';cases h';refine⟨fun j u hj=>?_,hc,hm,hb,(Array.getElem?_eq_some_iff.1 hh).1⟩;rw[show(Addr.add ⟨g,0,none⟩ j)=⟨g,j,none⟩from by rw[Addr.add_lit,Nat.zero_add]];simp only[World.cell?,hh];rw[<-ht,List.getElem?_take]at hj;split at hj;simpa using hj;cases hj
end
theorem a4m{P:Program}(w:World)(base:Nat)(t ty e:TypeId)(i:TypeInfo)(z:Value)(size bytes:Nat)(ht:P.underlying t=some (.slice e))(hi:P.info? e=some i)(hz:i.zero=some z)
  (hsize:i.size=size) (hby:i.bytes=bytes) (hzs:z.cells.size=size) (hsz:0<size) (v:Value) (n:Nat) (xs:List Value) (hown:a1J w base size v n xs)
  (a:Addr) (m c:Nat) (news:List Value) (hl:news.length=m*size) (hnews:∀j u,news[j]?=some u->w.cell? (a.add j)=some u) (h1:∀u∈news,u.oneCell'=true)
  (h106:n+m<=maxLen) (hbytes:(n+m)*bytes<=140737488355328) (hbase:base<=w.heap.size) :
  ∃v' w',(Builtin.append_ #[t,t] ty #[v,.slice (some a) m c]).run P w=.ok v' w'/\a1J w' base size v' (n+m) (xs++news)/\w.grownBy w' v.ownBlock/\(v'=.slice none 0 0↔v=.slice none 0 0/\m=0)/\(v'.ownBlock=v.ownBlock\/v'.ownBlock=some w.heap.size):=by
 rcases hown.2 with⟨rfl,rfl⟩|⟨g,cap,cur,e0,fr,rfl,hb,hh,hfz,hnc,hm,hs,htk⟩;have hx:xs=[]:=List.eq_nil_of_length_eq_zero (by simpa using hown.1);subst hx;obtain⟨v',w',q1,q2,q3⟩:=run_append_own_at w base t ty e i z size bytes ht hi hz hsize hby hzs hsz (.slice none 0 0) 0 [] (World.ownsRow_nil _ _ _ _) a m c news hl hnews h1 h106 hbytes hbase;exact⟨v',w',q1,a2u q2,q3⟩;by_cases hroom:n+m<=cap;subst hsize;have hlen:(xs++news).length=(n+m)*i.size:=by rw[length_append,hown.1,hl,add_mul]
 have hfit:n*i.size+news.length<=cur.size:=by rw[hl,hs,<-add_mul];exact Nat.mul_le_mul_right _ hroom
 have hr:=mO (P:=P) (ty:=ty) ht ht hi ⟨fr,hh,hfz⟩ (.inl ⟨fun k h=>by(cases h),qO (c:=c) hl hnews⟩) h1 hroom hs;have hsz2:(cur.toList.take (n*i.size)++news++cur.toList.drop (n*i.size+news.length)).toArray.size=cur.size:=by simp only[List.size_toArray,length_append,List.length_take,List.length_drop,Array.length_toList];omega
 refine⟨_,_,hr,⟨hlen,.inr ⟨g,cap,_,e0,fr,rfl,hb,setRow_heap w g cur _ e0 fr hh,by rw[hsz2];exact hfz,hroom,hm,by rw[hsz2];exact hs,?_⟩⟩,⟨rfl,rfl,rfl,by simp,fun k _ hk=>setRow_other w g k _ (fun e=>hk (by simp[Value.ownBlock,e]))⟩,by simp,.inl rfl⟩;rw[htk,<-hlen];exact List.take_left;have hr:=run_append_grow (P:=P) w t ty e i z ht hi hz ⟨g,0,none⟩ n cap xs (by rw[hsize];exact hown.1) (fun j u hj=>(a1J.row hown).1 j u hj) a m c news (by rw[hsize];exact hl) hnews (by omega) (by unfold maxLen at h106;omega) (growslice_fits (by omega) (by rw[hby];exact hbytes));have hge:=grownCap_ge w (n+m) cap e;have hcm:grownCap w (n+m) cap e<=maxLen:=grownCap_le_maxLen w (n+m) cap e h106;have hlen:(xs++news).length=(n+m)*size:=by rw[length_append,hown.1,hl,add_mul]
 refine⟨_,_,hr,⟨hlen,.inr ⟨w.heap.size,_,_,e,(0,0),rfl,hbase,heap_alloc_new w.drew _,Fz.zero _,hge,hcm,?_,?_⟩⟩,⟨rfl,rfl,rfl,by simp,fun k hk _=>Go.heap_alloc_old w.drew _ hk⟩,by simp,.inr rfl⟩;simp only[Array.size_append,List.size_toArray,size_zeroCells,hzs,hown.1,hl,<-add_mul];congr 1;omega;simp only[Array.toList_append,List.append_assoc];rw[<-List.append_assoc,<-hlen];exact List.take_left
structure Deep(w:World)(base:Nat)(v:Value)(L:List (Bool×List Int))(vs:List Value):Prop where
 len:vs.length=L.length
 row:w.ownsRow base 80 2 v L.length (a1I L vs)
 ins:∀i (h:i<L.length) (h':i<vs.length),a1J w base 1 vs[i] L[i].2.length (a1f L[i].2)
 apart:∀i j (hi:i<vs.length) (hj:j<vs.length),i≠j->∀k,vs[i].ownBlock=some k->vs[j].ownBlock≠some k
 out:∀i (hi:i<vs.length) k,vs[i].ownBlock=some k->v.ownBlock≠some k
theorem a0W{w:World}{base:Nat}{e:TypeId}{z:Nat}{v:Value}{n:Nat}{xs:List Value}(h:w.ownsRow base e z v n xs):(v=.slice none 0 0/\n=0)\/∃g c,v=.slice (some ⟨g,0,none⟩) n c:=by rcases h.2 with h|⟨g,c,cur,h,_⟩;exact .inl h;exact .inr ⟨g,c,h⟩
theorem a7l{w:World}{base:Nat}{e:TypeId}{z:Nat}{n:Nat}{a:Addr}{c:Nat}{xs:List Value}(h:w.ownsRow base e z (.slice (some a) n c) n xs):Row w a xs/\n<=c/\c<=maxLen/\base<=a.block/\a.block<w.heap.size:=by rcases h.2 with⟨h',_⟩|⟨g,c',cur,h',hb,hh,hc,hm,hs,ht⟩;cases h';cases h';have hl:=(World.ownsRow.lt h g rfl).2;exact⟨World.ownsRow.cells h rfl,hc,hm,hb,hl⟩
theorem Deep.one{w:World}{base:Nat}{v:Value}{L:List (Bool×List Int)}{vs:List Value}(h:Deep w base v L vs):∀u∈vs,u.oneCell'=true:=fun u hu=>by obtain⟨i,hi,rfl⟩:=List.mem_iff_getElem.1 hu;exact(h.ins i (by rw[<-h.len];exact hi) hi).one
theorem Deep.kept{w w':World}{row:Option Nat}{base:Nat}{v:Value}{L:List (Bool×List Int)}{vs:List Value}(h:Deep w base v L vs)(hg:w.grownBy w' row)(hne:∀k,row=some k->v.ownBlock≠some k/\∀i (hi:i<vs.length),vs[i].ownBlock≠some k):Deep w' base v L vs:=by
 have hh:∀u:Value,(∀k,row=some k->u.ownBlock≠some k)->u.ownBlock=none\/u.ownBlock≠row:=fun u hu=>by
  cases row with|none=>exact(Classical.em (u.ownBlock=none)).imp id id|some k=>exact .inr (hu k rfl)
 exact⟨h.len,h.row.kept hg (hh _ fun k hk=>(hne k hk).1),fun i hi hi'=>(h.ins i hi hi').kept hg (hh _ fun k hk=>(hne k hk).2 i hi'),h.apart,h.out⟩
theorem Deep.below{w w':World}{base:Nat}{v:Value}{L:List (Bool×List Int)}{vs:List Value}(h:Deep w base v L vs)(hb:Below w.heap.size w w'):Deep w' base v L vs:=
 h.kept (row:=none) ⟨hb.os,hb.tape,hb.output,hb.size,fun k hk _=>hb.block k hk⟩ (fun k hk=>by cases hk)
theorem Deep.mono{w:World}{base base':Nat}{v:Value}{L:List (Bool×List Int)}{vs:List Value}(h:Deep w base v L vs)(hb:base'<=base):Deep w base' v L vs:=
 ⟨h.len,h.row.mono hb,fun i hi hi'=>(h.ins i hi hi').mono hb,h.apart,h.out⟩
theorem Deep.nil(w:World)(base:Nat):Deep w base (.slice none 0 0) [] []:=
 ⟨rfl,World.ownsRow_nil _ _ _ _,fun i h=>by simp at h,fun i j h=>by simp at h,fun i h=>by simp at h⟩
theorem Deep.push{w w':World}{base:Nat}{v v' u:Value}{L:List (Bool×List Int)}{vs:List Value}{b:Bool}{l:List Int}(h:Deep w base v L vs)(hu:a1J w base 1 u l.length (a1f l))(ha:∀i (hi:i<vs.length) k,vs[i].ownBlock=some k->u.ownBlock≠some k)(hv:∀k,u.ownBlock=some k->v.ownBlock≠some k)
  (hw:w'.ownsRow base 80 2 v' (L.length+1) (a1I L vs++[.bool b,u])) (hg:w.grownBy w' v.ownBlock) (hb:v'.ownBlock=v.ownBlock\/∃k,v'.ownBlock=some k/\w.heap.size<=k):Deep w' base v' (L++[(b,l)]) (vs++[u]):=by
 have hok:∀i (hi:i<(vs++[u]).length) k,(vs++[u])[i].ownBlock=some k->v.ownBlock≠some k/\k<w.heap.size:=fun i hi k hk=>by
  by_cases hlt:i<vs.length;rw[getElem_append_left hlt]at hk;exact⟨h.out i hlt k hk,((h.ins i (by rw[<-h.len];exact hlt) hlt).lt k hk).2⟩;have:i=vs.length:=by simp at hi;omega
  subst this;rw[List.getElem_concat_length]at hk;exact⟨hv k hk,(hu.lt k hk).2⟩;rfl
 refine⟨by simp[h.len],?_,fun i hi hi'=>?_,fun i j hi hj hij k hk=>?_,fun i hi k hk=>?_⟩;rw[a5d h.len,length_append];exact hw
 · have hkeep : ∀ {x : Value} {m : List Int}, a1J w base 1 x m.length (a1f m) → (∀ k, x.ownBlock = some k → v.ownBlock ≠ some k) → a1J w' base 1 x m.length (a1f m) := fun {x m} hx hne => by
     refine hx.kept hg ?_;by_cases h0:x.ownBlock=none;exact .inl h0;obtain⟨k,hk⟩:=Option.ne_none_iff_exists'.1 h0;exact .inr fun e=>hne k hk (by rw[<-e];exact hk)
   by_cases hlt:i<vs.length;have hlt':i<L.length:=by rw[<-h.len];exact hlt
   rw[getElem_append_left hlt];have e:(L++[(b,l)])[i]=L[i]:=getElem_append_left hlt';rw[e];exact hkeep (h.ins i hlt' hlt) fun k hk=>h.out i hlt k hk
   have e0:i=vs.length:=by simp at hi';omega
   have e1:(vs++[u])[i]=u:=by subst e0;simp
   have e2:(L++[(b,l)])[i]=(b,l):=by
    have:i=L.length:=by rw[e0,h.len]
    subst this;simp
   rw[e1,e2];exact hkeep hu hv
 by_cases h1:i<vs.length<;>by_cases h2:j<vs.length
 rw[getElem_append_left h1]at hk;rw[getElem_append_left h2];exact h.apart i j h1 h2 hij k hk
 · have e2 : (vs ++ [u])[j] = u := by
     have:j=vs.length:=by simp at hj;omega
     subst this;simp
   rw[getElem_append_left h1]at hk;rw[e2];exact ha i h1 k hk
 · have e1 : (vs ++ [u])[i] = u := by
     have:i=vs.length:=by simp at hi;omega
     subst this;simp
   rw[e1]at hk;rw[getElem_append_left h2];exact fun hk'=>ha j h2 k hk' hk
 exfalso;simp at hi hj;omega;obtain⟨q1,q2⟩:=hok i hi k hk;rcases hb with hb|⟨g,hb,hge⟩;rw[hb];exact q1;rw[hb];intro e;cases e;omega
theorem Deep.setIn{w w':World}{base g n c i:Nat}{u:Value}{L:List (Bool×List Int)}{vs:List Value}{l:List Int}(h:Deep w base (.slice (some ⟨g,0,none⟩) n c) L vs)(hi:i<L.length)
  (hg:w.grownBy w' (vs[i]'(by rw[h.len];exact hi)).ownBlock) (hu:a1J w' base 1 u l.length (a1f l)) (hb:∀k,u.ownBlock=some k->(vs[i]'(by rw[h.len];exact hi)).ownBlock=some k\/w.heap.size<=k) :
  Deep (w'.setCell ⟨g,i*2+1,none⟩ u) base (.slice (some ⟨g,0,none⟩) n c) (L.set i (L[i].1,l)) (vs.set i u)/\w'.grownBy (w'.setCell ⟨g,i*2+1,none⟩ u) (some g):=by
 have hi':i<vs.length:=by rw[h.len];exact hi
 have hn:n=L.length:=by rcases a0W h.row with⟨q,_⟩|⟨g',c',q⟩;cases q;cases q;rfl
 have hgo:∀j (hj:j<vs.length),vs[j].ownBlock≠some g:=fun j hj e=>h.out j hj g e rfl
 have hgw:g<w.heap.size:=(World.ownsRow.lt h.row g rfl).2;have hrow:w'.ownsRow base 80 2 (.slice (some ⟨g,0,none⟩) n c) n (a1I L vs):=by have:=h.row.kept hg (.inr fun e=>hgo i hi' e.symm);rw[<-hn]at this;exact this
 obtain⟨hs1,hs2⟩:=hrow.stored (i*2+1) u;rw[a3S u h.len]at hs1;have hug:u.ownBlock≠some g:=fun e=>by rcases hb g e with q|q;exact hgo i hi' q;omega
 have hne:∀x:Value,x.ownBlock≠some g->x.ownBlock=none\/x.ownBlock≠some g:=fun x hx=>.inr hx
 refine⟨⟨by simp[h.len],?_,fun j hj hj'=>?_,fun j k hj hk hjk b hb1=>?_,fun j hj k hk=>?_⟩,hs2⟩;rw[a5e (M:=L) _ (set_fst hi l),List.length_set,<-hn];exact hs1;have hj1:j<vs.length:=by simpa using hj'
 have hj2:j<L.length:=by simpa using hj
 by_cases e:i=j;subst e;simp only[List.getElem_set_self];exact hu.kept hs2 (hne _ hug);simp only[getElem_set_ne e];have hne2:vs[j].ownBlock=none\/vs[j].ownBlock≠vs[i].ownBlock:=by by_cases h0:vs[j].ownBlock=none;exact .inl h0;obtain⟨k,hk⟩:=Option.ne_none_iff_exists'.1 h0;exact .inr fun q=>h.apart j i hj1 hi' (Ne.symm e) k hk (by rw[<-q];exact hk)
 exact((h.ins j hj2 hj1).kept hg hne2).kept hs2 (hne _ (hgo j hj1));have hj1:j<vs.length:=by simpa using hj
 have hk1:k<vs.length:=by simpa using hk
 have hold:∀q (hq:q<vs.length),q≠i->∀b,u.ownBlock=some b->vs[q].ownBlock≠some b:=fun q hq hqi b hub hqb=>by rcases hb b hub with q1|q1;exact h.apart q i hq hi' hqi b hqb q1;have:=((h.ins q (by rw[<-h.len];exact hq) hq).lt b hqb).2;omega
 by_cases e1:i=j;subst e1;rw[List.getElem_set_self]at hb1;rw[getElem_set_ne hjk];exact hold k hk1 (Ne.symm hjk) b hb1;rw[getElem_set_ne e1]at hb1;by_cases e2:i=k;subst e2;rw[List.getElem_set_self];exact fun hub=>hold j hj1 (Ne.symm e1) b hub hb1
 rw[getElem_set_ne e2];exact h.apart j k hj1 hk1 hjk b hb1;have hj1:j<vs.length:=by simpa using hj
 by_cases e:i=j;subst e;rw[List.getElem_set_self]at hk;intro q;cases q;exact hug hk;rw[getElem_set_ne e]at hk;exact h.out j hj1 k hk
abbrev tyS:Ty:=.st (.pair .bool (.sl (.int .i64)))
def a5g(l:List Int):V:=if l.isEmpty then .nils else .sl .none 1 l.length (l.map (V.int .i64))
def a4n:List (Bool×List Int)->List V
 |[]=>[]|p::L=>.bool p.1::a5g p.2::a4n L
def a2I(L:List (Bool×List Int)):V:=.sl .none 2 L.length (a4n L)
theorem a5h{w w':World}{z n base:Nat}{v:Value}{xs:List Value}{vs:List V}(hz:0<z)(hb:w.heap.size<=base)(h:a1J w' base z v n xs)(hn:v≠.slice none 0 0)(hr:RelL w' (aGu w w') [] vs xs)(hnm:aC vs=[]):Rel w' (aGu w w') [] (.sl .none z n vs) v:=by obtain⟨h1,⟨h2,_⟩|⟨g,cap,cur,e,fr,rfl,hg,hh,_,hc,hm,hs,ht⟩⟩:=h;exact absurd h2 hn;have hle:n*z<=cap*z:=Nat.mul_le_mul_right z hc;refine .sl .none z n vs _ cap xs (.inr ⟨Nat.le_trans hb hg,cur,e,fr,hh,?_⟩) hz h1 hc hm (fun j u hj=>?_) hr hnm;rw[h1];show 0+n*z<=cur.size;omega;rw[show(Addr.add ⟨g,0,none⟩ j)=⟨g,j,none⟩from by rw[Addr.add_lit,Nat.zero_add]];simp only[World.cell?,hh];rw[<-ht,List.getElem?_take]at hj;split at hj;simpa using hj;cases hj
theorem a3T{w:World}{A:Pl}{B:List Nat}:∀l:List Int,RelL w A B (l.map (V.int .i64)) (a1f l)
 |[]=>.nil|i::l=>.cons _ _ _ _ (.int _ _) (a3T l)
theorem a2v:∀l:List Int,aC (l.map (V.int .i64))=[]
 |[]=>rfl|_::l=>a2v l
theorem a7m{w w':World}{base:Nat}{l:List Int}{v:Value}(hb:w.heap.size<=base)(h:a1J w' base 1 v l.length (a1f l))(hn:l=[]->v=.slice none 0 0):Rel w' (aGu w w') [] (a5g l) v:=by unfold a5g;by_cases h0:l=[];rw[if_pos (by simp[h0]),hn h0];exact .nils;rw[if_neg (by simpa using h0)];refine a5h (by decide) hb h (fun e=>?_) (a3T l) (a2v l);rcases h.shape with⟨_,q⟩|⟨g,c,q⟩;exact h0 (List.length_eq_zero_iff.1 q);rw[q]at e;cases e
theorem a5J(l:List Int):(a5g l).names=[]:=by unfold a5g;split<;>rfl
theorem a1s:∀L:List (Bool×List Int),aC (a4n L)=[]
 |[]=>rfl|p::L=>by simp only[a4n,aC,V.names,a5J,a1s L,List.nil_append]
theorem a4o{w:World}{A:Pl}{B:List Nat}:∀{L:List (Bool×List Int)} {vs:List Value},vs.length=L.length->(∀i (h:i<L.length) (h':i<vs.length),Rel w A B (a5g L[i].2) vs[i])->RelL w A B (a4n L) (a1I L vs)
 |[],[],_,_=>.nil|[],_::_,h,_=>by simp at h|_::_,[],h,_=>by simp at h|p::L,v::vs,hl,h=>.cons _ _ _ _ (.bool _) (.cons _ _ _ _ (h 0 (by simp) (by simp)) (a4o (by simpa using hl) fun i hi hi'=>h (i+1) (by simpa using hi) (by simpa using hi')))
theorem Deep.rel{w w':World}{base:Nat}{v:Value}{L:List (Bool×List Int)}{vs:List Value}(h:Deep w' base v L vs)(hb:w.heap.size<=base)(hn:∀i (hi:i<L.length) (hi':i<vs.length),L[i].2=[]->vs[i]=.slice none 0 0)(hv:v≠.slice none 0 0):Rel w' (aGu w w') [] (a2I L) v:=
 a5h (by decide) hb (a2u h.row) hv (a4o h.len fun i hi hi'=>a7m hb (h.ins i hi hi') (hn i hi hi')) (a1s L)
theorem a6r(l:List Int):bP (.sl (.int .i64)) l [a5g l]:=by
 unfold a5g;by_cases h0:l=[];subst h0;exact .inl ⟨rfl,rfl⟩;rw[if_neg (by simpa using h0)];refine .inr ⟨.none,_,rfl,?_,fun v hv=>by obtain⟨i,_,rfl⟩:=List.mem_map.1 hv;trivial⟩;clear h0
 induction l with|nil=>rfl|cons i l ih=>exact⟨[.int .i64 i],_,rfl,rfl,ih⟩
theorem a6s(l:List Int):(a5g l).bare0:=by unfold a5g;split;trivial;rfl
theorem a3C:∀L:List (Bool×List Int),∀u∈a4n L,u.bare0
 |[],u,hu=>by cases hu|p::L,u,hu=>by simp only[a4n,List.mem_cons]at hu;rcases hu with rfl|rfl|hu;trivial;exact a6s _;exact a3C L u hu
theorem a3D(L:List (Bool×List Int)):bP (.sl tyS) L [a2I L]:=by
 refine .inr ⟨.none,a4n L,rfl,?_,a3C L⟩
 induction L with|nil=>rfl|cons p L ih=>exact⟨[.bool p.1,a5g p.2],_,rfl,⟨[.bool p.1],[a5g p.2],rfl,rfl,a6r p.2⟩,ih⟩
theorem a4p{w:World}{Q:Nat->Prop}:∀{L:List (Bool×List Int)} {rows:List Value},a1C (HC w Q tyS) L rows->∃us,us.length=L.length/\rows=a1I L us/\∀i (h:i<L.length) (h':i<us.length),HC w Q (.sl (.int .i64)) L[i].2 [us[i]]
 |[],_,h=>⟨[],rfl,h,fun i h=>by simp at h⟩|p::L,_,⟨c,r,e,h1,h2⟩=>by
  obtain⟨us,k1,k2,k3⟩:=a4p h2;obtain⟨c1,c2,e1,q1,q2⟩:=h1;have q1:c1=[.bool p.1]:=q1;have hl:c2.length=1:=a4g q2
  match c2,hl with
  |[u],_=>
   subst q1;refine⟨u::us,by simp[k1],by rw[e,e1,k2];rfl,fun i h h'=>?_⟩;cases i with
   |zero=>exact q2|succ i=>exact k3 i (by simpa using h) (by simpa using h')
theorem a1g{w:World}{Q:Nat->Prop}{t:Ty}{l:List t.den}{u:Value}(h:HC w Q (.sl t) l [u]):(l=[]/\u=.slice none 0 0)\/∃a cap rows,u=.slice (some a) l.length cap/\l.length<=cap/\cap<=maxLen/\Row w a rows/\a1C (HC w Q t) l rows/\(rows≠[]->Q a.block):=by rcases h with⟨h1,h2⟩|⟨a,cap,rows,h1,h2,h3,_,h4,h5,h6⟩;cases h2;exact .inl ⟨h1,rfl⟩;cases h1;exact .inr ⟨a,cap,rows,rfl,h2,h3,h4,h5,h6⟩
theorem a2w{w:World}{Q:Nat->Prop}:∀{l:List Int} {rows:List Value},a1C (HC w Q (.int .i64)) l rows->rows=a1f l
 |[],_,h=>h|i::l,_,⟨c,r,e,h1,h2⟩=>by have h1:c=[.int .i64 i]:=h1;rw[e,h1,a2w h2];rfl
theorem a3E{w:World}{Q:Nat->Prop}:∀l:List Int,a1C (HC w Q (.int .i64)) l (a1f l)
 |[]=>rfl|i::l=>⟨[.int .i64 i],_,rfl,rfl,a3E l⟩
theorem a5i(l:List Int):∀u∈a1f l,u.oneCell'=true:=fun u hu=>by obtain⟨i,_,rfl⟩:=List.mem_map.1 hu;rfl
theorem a6t{w:World}{base:Nat}{l:List Int}{v:Value}(h:a1J w base 1 v l.length (a1f l)):HC w (fun b=>b<w.heap.size) (.sl (.int .i64)) l [v]:=by rcases h.shape with⟨rfl,h0⟩|⟨g,c,rfl⟩;exact .inl ⟨List.length_eq_zero_iff.1 h0,rfl⟩;obtain⟨q1,q2,q3,_,q5⟩:=h.row;exact .inr ⟨_,c,a1f l,rfl,q2,q3,by decide,q1,a3E l,fun _=>q5⟩
theorem Deep.hv{w:World}{base:Nat}{v:Value}{L:List (Bool×List Int)}{vs:List Value}(h:Deep w base v L vs):HV w (fun b=>b<w.heap.size) (.sl tyS) L v:=by
 have hr:∀{L:List (Bool×List Int)} {vs:List Value},vs.length=L.length->(∀i (h:i<L.length) (h':i<vs.length),HC w (fun b=>b<w.heap.size) (.sl (.int .i64)) L[i].2 [vs[i]])->a1C (HC w (fun b=>b<w.heap.size) tyS) L (a1I L vs):=by
  intro L
  induction L with
  |nil=>intro vs hl _;cases vs with|nil=>rfl|cons=>simp at hl
  |cons p L ih=>
   intro vs hl hi;cases vs with
   |nil=>simp at hl|cons u vs=>exact⟨[.bool p.1,u],_,rfl,⟨[.bool p.1],[u],rfl,rfl,hi 0 (by simp) (by simp)⟩,ih (by simpa using hl) fun i h h'=>hi (i+1) (by simpa using h) (by simpa using h')⟩
 have hrow:=hr h.len fun i hi hi'=>a6t (h.ins i hi hi')
 rcases a0W h.row with⟨rfl,h0⟩|⟨g,c,q⟩;exact⟨.inl ⟨List.length_eq_zero_iff.1 h0,rfl⟩,rfl⟩;have hr2:=h.row;obtain⟨len,row,_,_,_⟩:=h;rw[q]at hr2 ⊢;have hn:∃n,v=.slice (some ⟨g,0,none⟩) n c:=⟨_,q⟩;rcases hr2.2 with⟨q1,_⟩|⟨g',c',cur,q1,_⟩;cases q1;cases q1;obtain⟨q1,q2,q3,_,q5⟩:=a7l hr2;exact⟨.inr ⟨_,c,_,rfl,q2,q3,by decide,q1,hrow,fun _=>q5⟩,rfl⟩
end Go.VM
namespace Go.Proofs.YtgfmodmeimhhpaaGreatDoor
open Go.VM
abbrev Seg:=Bool×List Int
abbrev zS:Seg:=(false,([]:List Int))
def num(a:Int):Bool:=decide (1<=a/\a<=4294967295)
def a1t(s:Seg)(k:Nat):Bool:=num (s.2.getD k 0)&&(decide (k=0)||!s.1||decide (s.2.getD (k-1) 0<s.2.getD k 0))
def a1b(s:Seg):Bool:=(List.range' 0 s.2.length).all (a1t s)
def a1T(p:List Seg)(i:Nat):Bool:=!(p.getD i zS).2.isEmpty&&(decide (i=0)||(p.getD i zS).1||(p.getD (i-1) zS).1)&&a1b (p.getD i zS)
def tot(p:List Seg):Nat:=(p.map fun s=>s.2.length).sum
def pvd(p:List Seg):Bool:=(List.range' 0 p.length).all (a1T p)&&decide (tot p<=64)
def Mid(p:List Seg):Prop:=p.length<=1000/\∀s∈p,s.2.length<=100000
def a3U(p:List Seg)(a:Int)(k:Nat):List Seg:=
 match p with
 |[]=>[(false,List.replicate k a)]|s::r=>if s.1=true then(false,List.replicate k a)::s::r else(false,List.replicate k a++s.2)::r
def a0M(p:List Seg)(a n:Int):List Seg×Int:=
 if(!pvd p||!num a||decide (n<0))=true then([],1)else if n>64-((tot p:Nat):Int)then([],3)else if n=0 then(p,0)else(a3U p a n.toNat,0)
end Go.Proofs.YtgfmodmeimhhpaaGreatDoor
open Nat(zero_add)
namespace Go.Proofs.YtgfmodmeimhhpaaGreatDoor
open Go.RowKit Go.Lib Go.VM
theorem a5j:(Tryz.prog.info? 3).map (fun i=>(i.zero,i.size,i.bytes))=some (some (.int .i64 0),1,8):=by kernel_rfl
set_option maxHeartbeats 2000000 in
set_option maxRecDepth 100000 in
theorem clone_i(ad:Addr)(n c:Nat)(news:List Value)(w:World)(hl:news.length=n*1)(hn:n<=4294967295)
  (hc:∀j u,news[j]?=some u->w.cell? (ad.add j)=some u) (h1:∀u∈news,u.oneCell'=true) :
  Calls Tryz.prog 112 #[.slice (some ad) n c] w fun r w'=>∃v',r=.returned v'/\w'.ownsRow w.heap.size 3 1 v' n news/\v'≠.slice none 0 0/\Below w.heap.size w w':=by
 obtain⟨i0,hi0,hz0,hzs,hzb⟩:=info_parts a5j;have A:Aside (∀j u,news[j]?=some u->w.cell? (ad.add j)=some u):=hc;have q22:∀(w:World) (a:Option Addr) (n c n' c':Nat),(binOp .eql 22 (.slice a n c) (.slice none n' c')).run Tryz.prog w=.ok (.bool a.isNone) w:=fun w a n c n' c'=>Lib.run_eql_slice_nil w _ _ a n c n' c' Tryz.underlying22
 clear hc
 go_enter Tryz.func112,Tryz.ntmps112
 go_wp2_with (at_builtin;refine wpList_append_own _ rfl _ _ 22 rfl w.heap.size 3 i0 (.int .i64 0) 1 8 Tryz.underlying22 hi0 hz0 hzs hzb rfl (by omega) _ _ _ rfl (World.ownsRow_made w #[] 0 (Nat.le_refl _) (Nat.zero_le _) (by simp)) ad n c news rfl ?qc1 ?qc2 ?qc3 ?qc4 ?qc5 ?qc6 ?_)
 case qc1=>exact hl
 case qc2=>intro j u hj;exact Lib.cell?_alloc_some _ (A.out j u hj)
 case qc3=>exact h1
 case qc4=>rw[zero_add];unfold maxLen;omega
 case qc5=>rw[zero_add];omega
 case qc6=>simp
 intro v' w1 hown hgrow hnil
 go_wp2
 go_ret
 refine⟨v',rfl,by simpa using hown,?_,?_⟩
 .exact hnil
 .exact((Below.refl _ w).alloc (Nat.le_refl _) _).grown hgrow (by simp) (by intro k hk;simp[Value.ownBlock]at hk;omega)
theorem a5K(n c:Nat)(w:World):Calls Tryz.prog 112 #[.slice none n c] w fun r w'=>r=.returned (.slice none 0 0)/\w=w':=by
 have q22:∀(w:World) (a:Option Addr) (n c n' c':Nat),(binOp .eql 22 (.slice a n c) (.slice none n' c')).run Tryz.prog w=.ok (.bool a.isNone) w:=fun w a n c n' c'=>Lib.run_eql_slice_nil w _ _ a n c n' c' Tryz.underlying22
 go_enter Tryz.func112,Tryz.ntmps112
 go_wp2
 go_ret
 exact⟨rfl,rfl⟩
set_option maxHeartbeats 2000000 in
set_option maxRecDepth 100000 in
theorem clone_s(ad:Addr)(n c:Nat)(news:List Value)(w:World)(hl:news.length=n*2)(hn:n<=4294967295)
  (hc:∀j u,news[j]?=some u->w.cell? (ad.add j)=some u) (h1:∀u∈news,u.oneCell'=true) :
  Calls Tryz.prog 111 #[.slice (some ad) n c] w fun r w'=>∃v',r=.returned v'/\w'.ownsRow w.heap.size 80 2 v' n news/\v'≠.slice none 0 0/\Below w.heap.size w w':=by
 obtain⟨i0,hi0,hz0,hzs,hzb⟩:=info_parts a6q;have A:Aside (∀j u,news[j]?=some u->w.cell? (ad.add j)=some u):=hc;have q22:∀(w:World) (a:Option Addr) (n c n' c':Nat),(binOp .eql 30 (.slice a n c) (.slice none n' c')).run Tryz.prog w=.ok (.bool a.isNone) w:=fun w a n c n' c'=>Lib.run_eql_slice_nil w _ _ a n c n' c' Tryz.underlying30
 clear hc
 go_enter Tryz.func111,Tryz.ntmps111
 go_wp2_with (at_builtin;refine wpList_append_own _ rfl _ _ 30 rfl w.heap.size 80 i0 (.agg #[.bool false,.slice none 0 0]) 2 32 Tryz.underlying30 hi0 hz0 hzs hzb rfl (by omega) _ _ _ rfl (World.ownsRow_made w #[] 0 (Nat.le_refl _) (Nat.zero_le _) (by simp)) ad n c news rfl ?qc1 ?qc2 ?qc3 ?qc4 ?qc5 ?qc6 ?_)
 case qc1=>exact hl
 case qc2=>intro j u hj;exact Lib.cell?_alloc_some _ (A.out j u hj)
 case qc3=>exact h1
 case qc4=>rw[zero_add];unfold maxLen;omega
 case qc5=>rw[zero_add];omega
 case qc6=>simp
 intro v' w1 hown hgrow hnil
 go_wp2
 go_ret
 refine⟨v',rfl,by simpa using hown,?_,?_⟩
 .exact hnil
 .exact((Below.refl _ w).alloc (Nat.le_refl _) _).grown hgrow (by simp) (by intro k hk;simp[Value.ownBlock]at hk;omega)
theorem a5L(n c:Nat)(w:World):Calls Tryz.prog 111 #[.slice none n c] w fun r w'=>r=.returned (.slice none 0 0)/\w=w':=by
 have q22:∀(w:World) (a:Option Addr) (n c n' c':Nat),(binOp .eql 30 (.slice a n c) (.slice none n' c')).run Tryz.prog w=.ok (.bool a.isNone) w:=fun w a n c n' c'=>Lib.run_eql_slice_nil w _ _ a n c n' c' Tryz.underlying30
 go_enter Tryz.func111,Tryz.ntmps111
 go_wp2
 go_ret
 exact⟨rfl,rfl⟩
theorem a6u{w W:World}{l:List Int}{u:Value}(h:HC w (fun b=>b<w.heap.size) (.sl (.int .i64)) l [u])(hb:Below w.heap.size w W)(hl:l.length<=4294967295) :
  Calls Tryz.prog 112 #[u] W fun r w'=>∃v',r=.returned v'/\w'.ownsRow W.heap.size 3 1 v' l.length (a1f l)/\Below W.heap.size W w':=by
 rcases a1g h with⟨h0,rfl⟩|⟨a,cap,rows,rfl,h1,h2,h3,h4,h5⟩
 .subst h0;refine(a5K 0 0 W).mono fun r w' ⟨e1,e2⟩=>⟨_,e1,World.ownsRow_nil _ _ _ _,by rw[<-e2];exact Below.refl _ _⟩
 .have e:=a2w h4;subst e;refine(clone_i a l.length cap (a1f l) W (by rw[a1r];omega) hl (fun j v hj=>?_) (a5i l)).mono fun r w' ⟨v',e1,e2,_,e3⟩=>⟨v',e1,e2,e3⟩
  have:=h3 j v hj;rw[<-this];refine World.cell?_of_block ?_;rw[bM];exact hb.block _ (h5 fun h0=>by rw[h0]at hj;simp at hj)
end Go.Proofs.YtgfmodmeimhhpaaGreatDoor
namespace Go.Proofs
open Go.Shelf
def Tryz.lays212_ren:Go.Shelf.Ren:=⟨fun|212=>115|263=>127|264=>128|n=>n,fun|46=>126|51=>147|146=>148|53=>25|148=>127|n=>n,fun|n=>n⟩
theorem Tryz.lays212:Go.Proofs.Lays.n212 Tryz.prog Tryz.lays212_ren:={
 mixed:=by kernel_rfl
 f212:=Tryz.func115.trans (congrArg some (by kernel_rfl))
 f263:=Tryz.func127.trans (congrArg some (by kernel_rfl))
 f264:=Tryz.func128.trans (congrArg some (by kernel_rfl))
 t46:=Tryz.underlying126
 a46:=Tryz.isAgg126
 z46:=Tryz.sizeOf126
 v46:=Tryz.zeroValue126
 t51:=Tryz.underlying147
 a51:=Tryz.isAgg147
 z51:=Tryz.sizeOf147
 v51:=Tryz.zeroValue147
 t53:=Tryz.underlying25
 a53:=Tryz.isAgg25
 z53:=Tryz.sizeOf25
 v53:=Tryz.zeroValue25
 t146:=Tryz.underlying148
 a146:=Tryz.isAgg148
 z146:=Tryz.sizeOf148
 v146:=Tryz.zeroValue148
 t148:=Tryz.underlying127
 a148:=Tryz.isAgg127
 z148:=Tryz.sizeOf127
 v148:=Tryz.zeroValue127}
open Go.RowKit Go.Lib in
theorem Tryz.bits_Mul(x y:Nat)(hx:x<18446744073709551616)(hy:y<18446744073709551616)(w:World) :
  Calls Tryz.prog 115 #[.int .u64 x,.int .u64 y] w fun e w'=>e=.returned (.tuple #[.int .u64 ((x*y / 18446744073709551616:Nat):Int),.int .u64 ((x*y%18446744073709551616:Nat):Int)])/\w'=w:=Any.bits_Mul Tryz.lays212 x y hx hy w
end Go.Proofs
open List(getElem_set_ne)
namespace Go.Proofs.YtgfmodmeimhhpaaGreatDoor
open Go.RowKit Go.Lib Go.VM
structure OwInv(w0:World)(L:List (Bool×List Int))(us:List Value)(g n c:Nat)(wr:World)(xs:List Value)(kk:Nat):Prop where
 num:n=L.length
 len:xs.length=L.length
 row:wr.ownsRow w0.heap.size 80 2 (.slice (some ⟨g,0,none⟩) n c) n (a1I L xs)
 done:∀i (_:i<L.length) (_:i<xs.length),i<kk->wr.ownsRow w0.heap.size 3 1 xs[i] L[i].2.length (a1f L[i].2)/\∀k,xs[i].ownBlock=some k->g<k
 todo:∀i (_:i<xs.length) (_:i<us.length),kk<=i->xs[i]=us[i]
 apart:∀i j (_:i<xs.length) (_:j<xs.length),i<kk->j<kk->i≠j->∀k,xs[i].ownBlock=some k->xs[j].ownBlock≠some k
 bel:Below w0.heap.size w0 wr
theorem OwInv.step{w0:World}{L:List (Bool×List Int)}{us:List Value}{g n c:Nat}{wr w2:World}{xs:List Value}{kk:Nat}{u:Value}(h:OwInv w0 L us g n c wr xs kk)(hk:kk<L.length)(hb:Below wr.heap.size wr w2)
  (hu:w2.ownsRow wr.heap.size 3 1 u L[kk].2.length (a1f L[kk].2)):OwInv w0 L us g n c (w2.setCell ⟨g,kk*2+1,none⟩ u) (xs.set kk u) (kk+1):=by
 have hgw:g<wr.heap.size:=(World.ownsRow.lt h.row g rfl).2;have hg0:w0.heap.size<=g:=(World.ownsRow.lt h.row g rfl).1;have hgr:wr.grownBy w2 none:=⟨hb.os,hb.tape,hb.output,hb.size,fun k hk _=>hb.block k hk⟩;have hrow:=h.row.kept hgr (.inr (by simp[Value.ownBlock]));obtain⟨s1,s2⟩:=hrow.stored (kk*2+1) u;rw[a3S u h.len]at s1;have hug:∀k,u.ownBlock=some k->wr.heap.size<=k:=fun k hk=>(World.ownsRow.lt hu k hk).1
 have hne:∀x:Value,x.ownBlock≠some g->x.ownBlock=none\/x.ownBlock≠some g:=fun x hx=>.inr hx
 have hnn:∀x:Value,x.ownBlock=none\/x.ownBlock≠none:=fun x=>Classical.em _
 refine⟨h.num,by simp[h.len],s1,fun i hi hi' hik=>?_,fun i hi hi' hik=>?_,fun i j hi hj hik hjk hij k hk'=>?_,?_⟩
 .have hx:i<xs.length:=by simpa using hi'
  by_cases e:kk=i
  .subst e;rw[List.getElem_set_self];refine⟨(hu.kept s2 (hne _ fun q=>?_)).mono h.bel.size,fun k hk'=>?_⟩
   .have:=hug g q;omega
   .have:=hug k hk';omega
  .rw[getElem_set_ne e];obtain⟨q1,q2⟩:=h.done i hi hx (by omega);refine⟨(q1.kept hgr (hnn _)).kept s2 (hne _ fun q=>?_),q2⟩;have:=q2 g q;omega
 .have hx:i<xs.length:=by simpa using hi
  rw[getElem_set_ne (by omega)];exact h.todo i hx hi' (by omega)
 .have hx:i<xs.length:=by simpa using hi
  have hy:j<xs.length:=by simpa using hj
  have hold:∀q (hq:q<xs.length),q<kk->∀b,u.ownBlock=some b->xs[q].ownBlock≠some b:=fun q hq hqk b hub hqb=>by have:=(World.ownsRow.lt (h.done q (by rw[<-h.len];exact hq) hq hqk).1 b hqb).2;have:=hug b hub;omega
  by_cases e1:kk=i
  .subst e1;rw[List.getElem_set_self]at hk';rw[getElem_set_ne hij];exact hold j hy (by omega) k hk'
  .rw[getElem_set_ne e1]at hk';by_cases e2:kk=j
   .subst e2;rw[List.getElem_set_self];exact fun hub=>hold i hx (by omega) k hub hk'
   .rw[getElem_set_ne e2];exact h.apart i j hx hy (by omega) (by omega) hij k hk'
 .refine(h.bel.trans (hb.mono h.bel.size)).trans ⟨s2.os,s2.tape,s2.output,s2.size,fun k hk'=>s2.block k (Nat.lt_of_lt_of_le hk' (Nat.le_trans h.bel.size hb.size)) (fun e=>by cases e;omega)⟩
theorem OwInv.deep{w0:World}{L:List (Bool×List Int)}{us:List Value}{g n c:Nat}{wr:World}{xs:List Value}(h:OwInv w0 L us g n c wr xs n):Deep wr w0.heap.size (.slice (some ⟨g,0,none⟩) n c) L xs:=by have hn:=h.num;refine⟨h.len,by have:=h.row;rw[<-hn];exact this,fun i hi hi'=>a2u (h.done i hi hi' (by omega)).1,fun i j hi hj hij=>h.apart i j hi hj (by have:=h.len;omega) (by have:=h.len;omega) hij,fun i hi k hk e=>?_⟩;have:=(h.done i (by rw[<-h.len];exact hi) hi (by have:=h.len;omega)).2 k hk;have e:some g=some k:=e;cases e;omega
theorem a4J{w:World}{base:Nat}{e:TypeId}{z:Nat}{v:Value}{n:Nat}{xs:List Value}(h:w.ownsRow base e z v n xs):∃o m c,v=.slice o m c:=by rcases a0W h with⟨h,_⟩|⟨g,c,h⟩<;>exact⟨_,_,_,h⟩
def a6v(w:World)(a:Option Addr)(L:List (Bool×List Int))(r:Ending)(w':World):Prop:=∃v' vs,r=.returned v'/\Deep w' w.heap.size v' L vs/\(v'=.slice none 0 0↔a=none)/\Below w.heap.size w w'
set_option maxHeartbeats 4000000 in
set_option maxRecDepth 100000 in
theorem a3V(L:List (Bool×List Int))(a:Option Addr)(n cap:Nat)(w:World)(hv:HV w (fun b=>b<w.heap.size) (.sl tyS) L (.slice a n cap))(hl:L.length<=100000)(hi:∀p∈L,p.2.length<=100000) :
  Calls Tryz.prog 88 #[.slice a n cap] w (a6v w a L):=by
 have e111:∀args w,(callFunc 111 args).run Tryz.prog w=.ok (.enter 111 args) w:=fun args w=>by kernel_rfl
 have e112:∀args w,(callFunc 112 args).run Tryz.prog w=.ok (.enter 112 args) w:=fun args w=>by kernel_rfl
 rcases a1g (a1X hv rfl)with⟨h0,q⟩|⟨ad,cap',rows,q,h1,h2,h3,h4,h5⟩
 .cases q;have h0:L=[]:=h0;subst h0;clear hv hl hi
  go_enter Tryz.func88,Tryz.ntmps88
  go_wp2_with (go_at_fn 111;refine(a5L 0 0 _).mono ?_;rintro r w1 ⟨rfl,rfl⟩)
  go_loopg [4,5,10] 0 (fun _ _ _ s10 wr=>s10=.int .i64 0/\w=wr)
  case atStart=>exact⟨rfl,rfl⟩
  case round=>
   obtain⟨rfl,rfl⟩:=hrel
   go_wp2
   go_ret
   unfold a6v;exact⟨_,[],rfl,Deep.nil _ _,⟨fun _=>rfl,fun _=>rfl⟩,Below.refl _ _⟩
 .cases q;obtain⟨us,k1,rfl,k3⟩:=a4p h4;have u23:∀w,Sem.run Tryz.prog (underlying 30) w=.ok (TypeDesc.slice 80) w:=run_underlying Tryz.underlying30;have hone:∀u∈us,u.oneCell'=true:=fun u hu=>by
   obtain⟨i,hi',rfl⟩:=List.mem_iff_getElem.1 hu;rcases a1g (k3 i (by rw[<-k1];exact hi') hi')with⟨_,e⟩|⟨_,_,_,e,_⟩<;>rw[e]<;>rfl
  have hcl:=clone_s ad L.length cap (a1I L us) w (a5c k1) (by omega) h3 (a5f hone);have hst:∀w1 g c1,w1.ownsRow w.heap.size 80 2 (.slice (some ⟨g,0,none⟩) L.length c1) L.length (a1I L us)->Below w.heap.size w w1->OwInv w L us g L.length c1 w1 us 0:=fun w1 g c1 ho hb=>⟨rfl,k1,ho,fun i _ _ h=>absurd h (Nat.not_lt_zero _),fun i _ _ _=>rfl,fun i j _ _ h=>absurd h (Nat.not_lt_zero _),hb⟩
  have hrd : ∀ wr g c1 xs kk, OwInv w L us g L.length c1 wr xs kk → (hk : kk < L.length) → ∃ (b : Bool) (o : Option Addr) (m c : Nat), L[kk].1 = b ∧ us[kk]'(by rw [k1]; exact hk) = .slice o m c ∧ wr.cell? ⟨g, kk * 2, none⟩ = some (.bool b) ∧ wr.cell? ⟨g, kk * 2 + 1, none⟩ = some (.slice o m c) ∧
      wr.frozen? ⟨g,kk*2+1,none⟩=false/\g<wr.heap.size:=fun wr g c1 xs kk I hk=>by
   have hx:kk<xs.length:=by rw[I.len];exact hk
   have hu:kk<us.length:=by rw[k1];exact hk
   have e1:=I.row.cellAt (kk*2) (by omega);have e2:=I.row.cellAt (kk*2+1) (by omega);rw[a2Z I.len hk]at e1;rw[a2e I.len hx,I.todo kk hx hu (Nat.le_refl _)]at e2;have hsh:∃o m c,us[kk]=Value.slice o m c:=by rcases a1g (k3 kk hk hu)with⟨_,e⟩|⟨_,_,_,e,_⟩<;>exact⟨_,_,_,e⟩
   obtain⟨o,m,c,e⟩:=hsh;exact⟨_,o,m,c,rfl,e,e1,by rw[e2,e],I.row.frozenAt _,(World.ownsRow.lt I.row g rfl).2⟩
  have hcall:∀wr g c1 xs kk (W:World),OwInv w L us g L.length c1 wr xs kk->Below wr.heap.size wr W->(hk:kk<L.length)->Calls Tryz.prog 112 #[us[kk]'(by rw[k1];exact hk)] W fun r w'=>∃v',r=.returned v'/\w'.ownsRow W.heap.size 3 1 v' L[kk].2.length (a1f L[kk].2)/\Below W.heap.size W w':=fun wr g c1 xs kk W I hb hk=>a6u (k3 kk hk (by rw[k1];exact hk)) (I.bel.trans (hb.mono I.bel.size)) (by have:=hi _ (List.getElem_mem hk);omega)
  have HS:Aside _:=hst;have HR:Aside _:=hrd;have HP:Aside _:=hcall;clear hst hrd hcall hv hi h4 h5 h3 hone k3
  go_enter Tryz.func88,Tryz.ntmps88
  go_wp2_with (go_at_fn 111;refine hcl.mono ?_;rintro r w1 ⟨v1,rfl,ho,hne,hb0⟩;obtain⟨g,c1,rfl⟩:∃g c,v1=.slice (some ⟨g,0,none⟩) L.length c:=(by rcases ho.2 with⟨q,_⟩|⟨g,c,cur,q,_⟩;exact absurd q hne;exact⟨g,c,q⟩);have HI:=Lib.hid (And.intro ho hb0);clear ho hb0 hne)
  go_loopg [4,5,10] L.length (fun gg _ _ s10 wr=>∃(kk:Nat) (xs:List Value),s10=.int .i64 kk/\kk<=L.length/\L.length-kk<=gg/\Aside (OwInv w L us g L.length c1 wr xs kk))
  case atStart=>exact⟨0,us,rfl,by omega,by omega,HS.out _ _ _ HI.out.1 HI.out.2⟩
  case round=>
   obtain⟨kk,xs,rfl,hkl,hgg,I⟩:=hrel;by_cases hlt:kk<L.length
   .have hltz:(kk:Int)<(L.length:Int):=by omega
    obtain⟨b,o,m,c,eb,eu,l0,l1,l2,hgr⟩:=HR.out wr g c1 xs kk I.out hlt;have hcl2:=HP.out wr g c1 xs kk (wr.alloc (.cells #[.bool b,.slice o m c] 80)) I.out ((Below.refl _ _).alloc (Nat.le_refl _) _) hlt;rw[eu]at hcl2;have HC:Aside (∀w2,Below (wr.alloc (.cells #[.bool b,.slice o m c] 80)).heap.size (wr.alloc (.cells #[.bool b,.slice o m c] 80)) w2->w2.cell? ⟨g,kk*2+1,none⟩=some (.slice o m c)/\w2.frozen? ⟨g,kk*2+1,none⟩=false):=fun w2 hb=>by
     have hsz:(wr.alloc (.cells #[.bool b,.slice o m c] 80)).heap.size=wr.heap.size+1:=Array.size_push _;exact⟨by rw[hb.cell (p:=⟨g,kk*2+1,none⟩) (by rw[hsz];exact Nat.lt_succ_of_lt hgr),World.cell?_of_block (a:=⟨g,kk*2+1,none⟩) (Go.heap_alloc_old wr _ hgr)];exact l1,
      by rw[hb.frozen (p:=⟨g,kk*2+1,none⟩) (by rw[hsz];exact Nat.lt_succ_of_lt hgr),World.frozen?_of_block (a:=⟨g,kk*2+1,none⟩) (Go.heap_alloc_old wr _ hgr)];exact l2⟩
    have HB:Aside (eb=eb/\Below wr.heap.size wr (wr.alloc (.cells #[.bool b,.slice o m c] 80))):=⟨rfl,(Below.refl _ _).alloc (Nat.le_refl _) _⟩;clear eu l2
    go_wp2_with (go_at_fn 112;refine hcl2.mono ?_;rintro r w2 ⟨v2,rfl,ho,hb⟩;obtain⟨o2,m2,c2,rfl⟩:=a4J ho;obtain⟨p1,p2⟩:=HC.out w2 hb;have K:=Lib.hid (And.intro ho hb);clear ho hb)
    go_roundg (L.length-(kk+1))
    case measure=>omega
    case rel=>refine⟨kk+1,xs.set kk (.slice o2 m2 c2),by go_num,by omega,Nat.le_refl _,(show Aside _ from ?_)⟩;exact I.out.step hlt (HB.out.2.trans (K.out.2.mono HB.out.2.size)) (K.out.1.mono HB.out.2.size)
   .obtain rfl:kk=L.length:=by omega
    have hltz:¬(L.length:Int)<(L.length:Int):=by omega
    go_wp2
    go_ret
    unfold a6v;exact⟨_,xs,rfl,I.out.deep,⟨(fun h=>by cases h),(fun h=>by cases h)⟩,I.out.bel⟩
end Go.Proofs.YtgfmodmeimhhpaaGreatDoor
open Nat(zero_add)
namespace Go.Proofs.YtgfmodmeimhhpaaGreatDoor
open Go.RowKit Go.Lib Go.VM
def a0w(k:Int)(n m:Nat):Array Value:=(List.replicate m (Value.int .i64 k)++List.replicate (n-m) (Value.int .i64 0)).toArray
theorem a1U{k:Int}{n m:Nat}(h:m<=n):(a0w k n m).size=n:=by simp[a0w];omega
theorem a3a{k:Int}{n m q:Nat}(h:m<=n)(hq:q<=n-m):((a0w k n m).toList.take m++List.replicate q (Value.int .i64 k)++(a0w k n m).toList.drop (m+(List.replicate q (Value.int .i64 k)).length)).toArray=a0w k n (m+q):=by unfold a0w;congr 1;simp only[List.toList_toArray,List.length_replicate];rw[List.take_left' (by simp),List.drop_append,List.length_replicate,List.drop_of_length_le (by simp),List.nil_append,List.drop_replicate,List.replicate_append_replicate];congr 2;omega
theorem a4K(k:Int)(n:Nat):madeCells (Value.int .i64 0).cells (n*1)=a0w k n 0:=by apply Array.ext';show(madeCells #[Value.int .i64 0] (n*1)).toList=_;rw[toList_madeCells_one];simp[a0w]
structure RepInv(k:Int)(n:Nat)(w:World)(g:Nat)(wr:World)(m:Nat):Prop where
 row:wr.heap[g]?=some (.cells (a0w k n m) 3 (0,0))
 hm:0<m/\m<=n
 lo:w.heap.size<=g
 bel:Below w.heap.size w wr
set_option maxHeartbeats 4000000 in
set_option maxRecDepth 100000 in
theorem a2f(k:Int)(n b:Nat)(w:World)(hn:0<n)(hn2:n<=100000)(hb:w.heap[b]?=some (.cells #[.int .i64 k] 3 (0,0))) :
  Calls Tryz.prog 90 #[.slice (some ⟨b,0,none⟩) 1 1,.int .i64 n] w fun r w'=>∃v',r=.returned v'/\w'.ownsRow w.heap.size 3 1 v' n (a1f (List.replicate n k))/\Below w.heap.size w w':=by
 have e115:∀args w,(callFunc 115 args).run Tryz.prog w=.ok (.enter 115 args) w:=fun args w=>by kernel_rfl
 have hMul:=fun W=>Tryz.bits_Mul 1 n (by decide) (by omega) W
 have hd0:1*n / 18446744073709551616=0:=by omega
 have hm0:1*n%18446744073709551616=n:=by omega
 have hlo:¬(n:Int)<0:=by omega
 have hbig:¬(n:Int)>9223372036854775807:=by omega
 have hw1:IntKind.u64.wrap (n:Int)=n:=by rw[IntKind.wrap_u64];omega
 have hw2:IntKind.i64.wrap (n:Int)=n:=by rw[IntKind.wrap_i64];omega
 simp only[hd0,hm0]at hMul;obtain⟨i0,hi0,hz0,hzs,hzb⟩:=info_parts a5j;have hcell:∀(W:World) (b:Nat) (xs:Array Value) (t:TypeId),W.heap[b]?=some (.cells xs t (0,0))->∀j,W.cell? ⟨b,j,none⟩=xs[j]?:=fun W b xs t h j=>by simp[World.cell?,h]
 have hbw:b<w.heap.size:=(Array.getElem?_eq_some_iff.1 hb).1;have hmk:∀W:World,(Instr.makeSlice 22 (.int .i64 n) (.int .i64 n)).run Tryz.prog W=.ok (.slice (some ⟨W.heap.size,0,none⟩) n n) (W.alloc (.cells (a0w k n 0) 3)):=fun W=>by have hr:=run_make (P:=Tryz.prog) W 22 3 i0 (.int .i64 0) Tryz.underlying22 hi0 hz0 .i64 .i64 n n (by omega) (Int.le_refl _) (by rw[hzb];omega) (by omega);simp only[Int.toNat_natCast,hzs]at hr;rw[hr];rw[a4K k n]
 have hsz1:(Tryz.prog.info? 3).map (·.size)=some 1:=by rw[hi0];simp[hzs]
 have hcp0:∀ty dc sc,(Builtin.copy_ #[22,22] ty #[.slice (some ⟨w.heap.size,0,none⟩) n dc,.slice (some ⟨b,0,none⟩) 1 sc]).run Tryz.prog (w.alloc (.cells (a0w k n 0) 3))=.ok (goInt 1) ((w.alloc (.cells (a0w k n 0) 3)).setRow w.heap.size (a0w k n 1)):=fun ty dc sc=>by
  have:=a3B (P:=Tryz.prog) (w.alloc (.cells (a0w k n 0) 3)) 22 22 ty 3 1 w.heap.size 0 n dc ⟨b,0,none⟩ 1 sc (a0w k n 0) 3 [.int .i64 k] Tryz.underlying22 hsz1 (heap_alloc_new w _)
   (by simp only[Nat.min_def];split<;>simp<;>omega) (fun j v hj=>by rw[Addr.add_lit,hcell _ b #[.int .i64 k] 3 (by rw[Go.heap_alloc_old w _ hbw];exact hb),zero_add];simpa using hj) (by rw[a1U (by omega)];simp;omega) (fun v hv=>by simp at hv;subst hv;rfl)
  rw[this];have hmin:Nat.min 1 n=1:=by simp only[Nat.min_def];split<;>omega
  rw[hmin];have:=a3a (k:=k) (n:=n) (m:=0) (q:=1) (Nat.zero_le _) (by omega);simp only[List.replicate_one,zero_add]at this;rw[zero_add,this];rfl
 have hcp:∀g (wr:World) m q,RepInv k n w g wr m->Nat.min m (n-m)=q->∀ty dc sc,(Builtin.copy_ #[22,22] ty #[.slice (some ⟨g,m,none⟩) (n-m) dc,.slice (some ⟨g,0,none⟩) m sc]).run Tryz.prog wr.drew=.ok (goInt q) (wr.drew.setRow g (a0w k n (m+q))):=fun g wr m q I hq ty dc sc=>by
  have hq1:q<=m:=by rw[<-hq];exact Nat.min_le_left _ _
  have hq2:q<=n-m:=by rw[<-hq];exact Nat.min_le_right _ _
  have h1:=a3B (P:=Tryz.prog) wr.drew 22 22 ty 3 1 g m (n-m) dc ⟨g,0,none⟩ m sc (a0w k n m) 3 (List.replicate q (.int .i64 k)) Tryz.underlying22 hsz1 I.row
   (by rw[hq];simp) (fun j v hj=>by
    rw[Addr.add_lit,hcell wr.drew g (a0w k n m) 3 I.row,zero_add];rw[List.getElem?_replicate]at hj;split at hj
    .cases hj;have:j<m:=by omega
     simp[a0w,List.getElem?_append,this]
    .cases hj) (by rw[a1U I.hm.2];simp;have:=I.hm;omega) (fun v hv=>by rw[(List.mem_replicate.1 hv).2];rfl)
  rw[a3a I.hm.2 hq2,hq]at h1;exact h1
 have hstep:∀g (wr:World) m q,RepInv k n w g wr m->m<n->Nat.min m (n-m)=q->0<q/\q<=n-m/\RepInv k n w g (wr.drew.setRow g (a0w k n (m+q))) (m+q):=fun g wr m q I hlt hq=>by
  have hq1:q<=m:=by rw[<-hq];exact Nat.min_le_left _ _
  have hq2:q<=n-m:=by rw[<-hq];exact Nat.min_le_right _ _
  have hm:=I.hm;have hq0:0<q:=by rw[<-hq];simp only[Nat.min_def];split<;>omega
  have hs:=a2F wr.drew g (a0w k n (m+q));exact⟨hq0,hq2,setRow_heap _ _ _ _ 3 (0,0) I.row,by omega,I.lo,(show Below w.heap.size w wr.drew from⟨I.bel.os,I.bel.tape,I.bel.output,I.bel.size,I.bel.block⟩).grown hs I.bel.size (fun j hj=>by cases hj;exact I.lo)⟩
 have hst:RepInv k n w w.heap.size ((w.alloc (.cells (a0w k n 0) 3)).setRow w.heap.size (a0w k n 1)) 1:=by have hs:=a2F (w.alloc (.cells (a0w k n 0) 3)) w.heap.size (a0w k n 1);exact⟨setRow_heap _ _ _ _ 3 (0,0) (heap_alloc_new w _),by omega,Nat.le_refl _,((Below.refl _ w).alloc (Nat.le_refl _) _).grown hs (by show _<=(w.heap.push _).size;simp) (fun j hj=>by cases hj;exact Nat.le_refl _)⟩
 have hend:∀g (wr:World),RepInv k n w g wr n->wr.ownsRow w.heap.size 3 1 (.slice (some ⟨g,0,none⟩) n n) n (a1f (List.replicate n k)):=fun g wr I=>by refine⟨by simp[a1f],.inr ⟨g,n,a0w k n n,rfl,I.lo,I.row,Nat.le_refl _,by unfold maxLen;omega,by rw[a1U (Nat.le_refl _)];simp,?_⟩⟩;simp[a0w,a1f]
 have HS:Aside _:=hst;have HC:Aside _:=hcp;have HT:Aside _:=hstep;have HE:Aside _:=hend;clear hst hcp hstep hend hcell hd0 hm0
 go_enter Tryz.func90,Tryz.ntmps90
 go_wp2_with (go_at_fn 115;refine(hMul _).mono ?_;rintro e w' ⟨rfl,hw⟩;rw[hw])
 go_loopg [8] n (fun gg s8 wr=>∃m:Nat,s8=.int .i64 m/\n-m<=gg/\Aside (RepInv k n w w.heap.size wr m))
 case atStart=>exact⟨1,rfl,by omega,HS.out⟩
 case round=>
  obtain⟨m,rfl,hgg,I⟩:=hrel;have hmn:m<=n:=I.out.hm.2;by_cases hlt:m<n
  .have hltz:(m:Int)<(n:Int):=by omega
   obtain⟨q,hq⟩:∃q,Nat.min m (n-m)=q:=⟨_,rfl⟩;obtain⟨hq0,hq2,hN⟩:=HT.out w.heap.size wr m q I.out hlt hq;have hcp:=HC.out w.heap.size wr m q I.out hq;have N:Aside _:=hN;have hb1:(m:Int)<=(n:Int):=by omega
   have hb2:(0:Int)<=(m:Int):=by omega
   have hnm:¬(n=m):=by omega
   have hwr:IntKind.i64.wrap ((m:Int)+(q:Int))=((m+q:Nat):Int):=by rw[IntKind.wrap_i64];omega
   have mixed:Tryz.prog.follows Departure.mixedOrders=true:=by kernel_rfl
   clear hN hq
   go_wp2
   go_region_law_o (refine a3o rfl _ _ 22 22 rfl _ _ (by simp[Act.eval,Act.put]) (by simp[Act.eval,Act.put]) (hcp _ _ _) ?_)
   go_wp2
   go_roundg (n-(m+q))
   case measure=>omega
   case rel=>exact⟨m+q,by go_num,Nat.le_refl _,N.out⟩
  .obtain rfl:m=n:=by omega
   have hltz:¬(m:Int)<(m:Int):=by omega
   go_wp2
   go_ret
   exact⟨_,rfl,HE.out _ _ I.out,I.out.bel⟩
end Go.Proofs.YtgfmodmeimhhpaaGreatDoor
namespace Go.VM
open Go.RowKit
theorem a0Q{P:Program}{ops:Array Oper}{o:Oper}{a:Act}{w:World}{K:Act->World->Prop}{Q:Exit->Act->World->Prop}{E:Prop}{aJE:Value->World->Prop}(hgd:o.guard=none)(s x:Operand)(t u:TypeId)
  (ho:o.op=.call {callee:=.builtin .append,args:=#[s,x],argTypes:=#[t,u]}) (v y:Value) (hs:a.eval s=v) (hx:a.eval x=y)
  (hr:∃v' w',(Builtin.append_ #[t,u] o.type #[v,y]).run P w=.ok v' w'/\aJE v' w') (h:∀v' w',aJE v' w'->K (a.put o.dst v') w') :
  if Region.wanted o (yielded ops a.tmps)=true then Oper.wp P o a w K Q else E:=by
 have hw:Region.wanted o (yielded ops a.tmps)=true:=by simp[Region.wanted,hgd]
 rw[if_pos hw];obtain⟨v',w',hr,hp⟩:=hr;unfold Oper.wp execOp;simp only[ho,resolve,invoke,builtin,Sem.run_bind,Sem.run_pure,Result.andThen_ok,List.map_toArray,List.map_cons,List.map_nil,hs,hx,hr];exact h v' w' hp
theorem a1v{P:Program}{ops:Array Oper}{rest:List Oper}{o:Oper}{a:Act}{w:World}{Q:Exit->Act->World->Prop}{aJE:Value->World->Prop}(hgd:o.guard=none)(s x:Operand)(t u:TypeId)
  (ho:o.op=.call {callee:=.builtin .append,args:=#[s,x],argTypes:=#[t,u]}) (v y:Value) (hs:a.eval s=v) (hx:a.eval x=y)
  (hr:∃v' w',(Builtin.append_ #[t,u] o.type #[v,y]).run P w=.ok v' w'/\aJE v' w') (h:∀v' w',aJE v' w'->wpList P ops Q rest (a.put o.dst v') w'):wpList P ops Q (o::rest) a w:=
 wpList_plain hgd fun _ hK=>by obtain⟨v',w',hr,hp⟩:=hr;unfold Oper.wp execOp;simp only[ho,resolve,invoke,builtin,Sem.run_bind,Sem.run_pure,Result.andThen_ok,List.map_toArray,List.map_cons,List.map_nil,hs,hx,hr];exact hK _ _ (h v' w' hp)
theorem a3F{w w':World}(hb:Below w.heap.size w w')(row:Option Nat):w.grownBy w' row:=⟨hb.os,hb.tape,hb.output,hb.size,fun k hk _=>hb.block k hk⟩
theorem Deep.ins0{w w':World}{base:Nat}{v v':Value}{L:List (Bool×List Int)}{vs:List Value}(h:Deep w base v L vs)(hw:w'.ownsRow base 80 2 v' (L.length+1) ([.bool false,.slice none 0 0]++a1I L vs))(hg:w.grownBy w' v.ownBlock)(hb:v'.ownBlock=v.ownBlock\/∃k,v'.ownBlock=some k/\w.heap.size<=k) :
  Deep w' base v' ((false,[])::L) (.slice none 0 0::vs):=by
 refine⟨by simp[h.len],hw,fun i hi hi'=>?_,fun i j hi hj hij k hk=>?_,fun i hi k hk=>?_⟩;cases i with
 |zero=>exact a2u (e:=3) (World.ownsRow_nil _ _ _ _)|succ i=>
  have hx:i<vs.length:=by simpa using hi'
  refine(h.ins i (by simpa using hi) hx).kept hg ?_;by_cases h0:vs[i].ownBlock=none;exact .inl h0;obtain⟨k,hk⟩:=Option.ne_none_iff_exists'.1 h0;exact .inr fun e=>h.out i hx k hk (by rw[<-e];exact hk)
 cases i with|zero=>cases hk|succ i=>cases j with
  |zero=>intro q;cases q|succ j=>exact h.apart i j (by simpa using hi) (by simpa using hj) (fun e=>hij (by rw[e])) k hk
 cases i with|zero=>cases hk|succ i=>
  have hx:i<vs.length:=by simpa using hi
  rcases hb with hb|⟨g,hb,hge⟩;rw[hb];exact h.out i hx k hk;rw[hb];intro e;cases e;have:=((h.ins i (by rw[<-h.len];exact hx) hx).lt _ hk).2;omega
end Go.VM
namespace Go.Proofs.YtgfmodmeimhhpaaGreatDoor.Z
open Go.VM
set_option maxRecDepth 10000
theorem num_n(N:Nat)(a:Int):n84 (N+1) a=some (num a):=by rw[e84];refine a0K rfl (a0K rfl ?_);congr 1;unfold num;by_cases h1:1<=a<;>by_cases h2:a<=4294967295<;>simp[h1,h2]
theorem run_allS{F:Nat->Bool}:∀(m i:Nat),a4X (fun i (_:Unit)=>if F i=true then some ()else none) m i ()=if(List.range' i m).all F=true then some ()else none
 |0,i=>rfl|m+1,i=>by
  rw[a4X,List.range'_succ,List.all_cons];cases h:F i with
  |false=>rfl|true=>exact run_allS m (i+1)
theorem getD_lt{T:Type}(z:T){l:List T}{i:Nat}(h:i<l.length):l.getD i z=l[i]:=by rw[List.getD,List.getElem?_eq_getElem h];rfl
theorem nIdx_gD{T:Type}{ws:List T}{i:Nat}(z:T)(h:i<ws.length):aEU ws (i:Int)=some (ws.getD i z):=by rw[aJo h,getD_lt z h]
theorem a7n{p:List Seg}{i:Nat}(h:i<p.length):tot (p.take (i+1))=tot (p.take i)+(p.getD i zS).2.length:=by unfold tot;rw[List.take_succ_eq_append_getElem h,List.map_append,List.sum_append,getD_lt zS h];simp
theorem tot_le{p:List Seg}(hs:∀s∈p,s.2.length<=100000):tot p<=p.length*100000:=by
 unfold tot
 induction p with|nil=>simp|cons s p ih=>
  have h1:=hs s (by simp);have h2:=ih fun s h=>hs s (List.mem_cons_of_mem _ h)
  simp only[List.map_cons,List.sum_cons,List.length_cons];omega
theorem runT{p:List Seg}:∀(m i:Nat),i+m=p.length->a4X (fun i (t:Nat)=>if a1T p i=true then some (t+(p.getD i zS).2.length)else none) m i (tot (p.take i))=if(List.range' i m).all (a1T p)=true then some (tot p)else none
 |0,i,h=>by rw[a4X,List.take_of_length_le (by omega)];rfl|m+1,i,h=>by
  rw[a4X,List.range'_succ,List.all_cons];cases hq:a1T p i with
  |false=>rfl|true=>rw[Bool.true_and];have:=runT (p:=p) m (i+1) (by omega);rw[a7n (by omega)]at this;exact this
theorem valid_of{B:(List Seg×(Int×(List Seg×(Int×Int))))->Option ((List Seg×(Int×(List Seg×(Int×Int)))) ⊕ Bool)}{p:List Seg}{M:Nat}(hM:p.length<M)(hp:p.length<=1000)(hs:∀s∈p,s.2.length<=100000)
  (hB:∀(i t:Nat),i<p.length->t<=200000000->B (p,(t:Int),p,aJO p,(i:Int))=if a1T p i=true then some (.inl (p,((t+(p.getD i zS).2.length:Nat):Int),p,aJO p,((i+1:Nat):Int)))else some (.inr false))
  (hE:∀t:Nat,B (p,(t:Int),p,aJO p,(p.length:Int))=some (.inr (decide (t<=64)))):eG M B (p,(0:Int),p,aJO p,(0:Int))=some (pvd p):=by
 have hl:∀i,(p.getD i zS).2.length<=100000:=fun i=>by
  rw[List.getD];cases hh:p[i]? with
  |none=>simp|some s=>exact hs s (List.mem_of_getElem? hh)
 refine a3P (fun i (t:Nat)=>if a1T p i=true then some (t+(p.getD i zS).2.length)else none) (fun i t=>t<=i*100000) (fun i t=>(p,(t:Int),p,aJO p,(i:Int))) p.length false (fun t=>decide (t<=64)) 0 rfl (Nat.zero_le _) (fun i hi t ht=>?_) (fun t _=>hE t) hM ?_;have k:=hB i t hi (by omega);cases h:a1T p i with
 |false=>rw[h]at k;exact⟨fun b hb=>(by cases hb),fun _=>k⟩|true=>rw[h]at k;refine⟨fun b hb=>?_,fun hb=>(by cases hb)⟩;have hb:=Option.some.inj hb;subst hb;exact⟨by have:=hl i;show t+_<=(i+1)*100000;omega,k⟩
 have:=runT (p:=p) p.length 0 (by omega);rw[show tot (p.take 0)=0 from rfl]at this;rw[this];unfold pvd;cases(List.range' 0 p.length).all (a1T p)<;>rfl
theorem valid_p(N:Nat)(hN:100001<N){p:List Seg}(hp:p.length<=1000)(hs:∀s∈p,s.2.length<=100000):n83 (N+2) p=some (pvd p):=by
 rw[e83];refine jB (valid_of (by omega) hp hs (fun i t hi ht=>?_) fun t=>?_);have hx:=nIdx_gD zS hi;have hd:decide ((i:Int)<aJO p)=true:=decide_eq_true (by unfold aJO;omega);have nx:IntKind.i64.wrap ((i:Int)+1)=((i+1:Nat):Int):=wv _ (by omega) (by omega) (by omega);have hl:(p.getD i zS).2.length<=100000:=by rw[getD_lt zS hi];exact hs _ (List.getElem_mem hi)
 have hseg:a1T p i=(!(p.getD i zS).2.isEmpty&&(decide (i=0)||(p.getD i zS).1||(p.getD (i-1) zS).1)&&a1b (p.getD i zS)):=rfl;rw[hseg];have hprev:0<i->aEU p (IntKind.i64.wrap ((i:Int)-1))=some (p.getD (i-1) zS):=fun h0=>by rw[wv ((i-1:Nat):Int) (show(i:Int)-1=((i-1:Nat):Int) by omega) (by omega) (by omega)];exact nIdx_gD zS (by omega)
 generalize hsg:p.getD i zS=s at *;generalize hpr:p.getD (i-1) zS=r at *;refine a0K (v:=true) hd (a3n rfl (jB (a0T hx ?_)));have he:(aJO s.2==(0:Int))=s.2.isEmpty:=by
  unfold aJO;cases s.2 with
  |nil=>rfl|cons a l=>simp;omega
 refine a0K (v:=decide (0<i)) (show decide ((i:Int)>0)=decide (0<i)from decide_eq_decide.2 (by omega)) (a0K (v:=decide (0<i)&&!s.1) (by cases decide (0<i)<;>rfl) (a0K rfl ?_));refine a0T (v:=if(decide (0<i)&&!s.1&&!s.2.isEmpty)=true then r else zS) ?_ ?_;rw[he];cases hc:(decide (0<i)&&!s.1&&!s.2.isEmpty)with
 |false=>rfl|true=>simp only[Bool.and_eq_true,decide_eq_true_eq]at hc;exact hprev hc.1.1
 refine a0K (v:=decide (0<i)&&!s.1&&!(if(decide (0<i)&&!s.1&&!s.2.isEmpty)=true then r else zS).1) (by cases decide (0<i)&&!s.1<;>rfl) ?_;refine a0K (v:=!(!s.2.isEmpty&&(decide (i=0)||s.1||r.1))) ?_ ?_;have hif:∀c:Bool,(if c=true then r else zS).1=(c&&r.1):=fun c=>by cases c<;>rfl
 rw[he,hif];cases s.2.isEmpty with
 |true=>rfl|false=>
  have h00:decide (i=0)=!decide (0<i):=by by_cases h:i=0;simp[h];simp[h,Nat.pos_of_ne_zero h]
  rw[h00];cases decide (0<i)<;>cases s.1<;>cases r.1<;>rfl
 cases hb:(!s.2.isEmpty&&(decide (i=0)||s.1||r.1))with
 |false=>exact a3n rfl (a0Y rfl)|true=>
  refine a4G rfl (jB ?_);rw[Bool.true_and];refine Eq.trans (a3P (R:=((List Seg×(Int×(List Seg×(Int×Int)))) ⊕ Bool)) (r:=if a1b s=true then Sum.inl (p,((t+s.2.length:Nat):Int),p,aJO p,((i+1:Nat):Int))else Sum.inr false) (fun k (_:Unit)=>if a1t s k=true then some ()else none) (fun _ _=>True) (fun k _=>(p,(t:Int),s,p,aJO p,(i:Int),s.2,aJO s.2,(k:Int))) s.2.length (.inr false) (fun _=>.inl (p,((t+s.2.length:Nat):Int),p,aJO p,((i+1:Nat):Int))) () rfl trivial (fun k hk _ _=>?_) (fun _ _=>?_) ?_ ?_) (by cases a1b s<;>rfl);have hy:aEU s.2 (k:Int)=some (s.2.getD k 0):=nIdx_gD 0 hk;have nk:IntKind.i64.wrap ((k:Int)+1)=((k+1:Nat):Int):=wv _ (by omega) (by omega) (by omega);have hyp:0<k->aEU s.2 (IntKind.i64.wrap ((k:Int)-1))=some (s.2.getD (k-1) 0):=fun h0=>by rw[wv ((k-1:Nat):Int) (show(k:Int)-1=((k-1:Nat):Int) by omega) (by omega) (by omega)];exact nIdx_gD 0 (by omega)
  have body:∀(R:Option ((List Seg×(Int×(Seg×(List Seg×(Int×(Int×(List Int×(Int×Int)))))))) ⊕ ((List Seg×(Int×(List Seg×(Int×Int)))) ⊕ Bool))),(R=if a1t s k=true then some (.inl (p,(t:Int),s,p,aJO p,(i:Int),s.2,aJO s.2,((k+1:Nat):Int)))else some (.inr (.inr false)))->(∀b,(if a1t s k=true then some ()else none)=some b->True/\R=some (.inl (p,(t:Int),s,p,aJO p,(i:Int),s.2,aJO s.2,((k+1:Nat):Int))))/\((if a1t s k=true then some ()else none)=(none:Option Unit)->R=some (.inr (.inr false))):=fun R hR=>by
   cases h:a1t s k with|false=>rw[h]at hR;exact⟨fun b hb=>(by cases hb),fun _=>hR⟩|true=>rw[h]at hR;exact⟨fun b _=>⟨trivial,hR⟩,fun hb=>(by cases hb)⟩
  refine body _ ?_;refine a0K (v:=true) (decide_eq_true (show(k:Int)<aJO s.2 by unfold aJO;omega)) (a3n rfl (a0T hy (a0T (num_n N _) ?_)));refine a0K (v:=decide (0<k)) (show decide ((k:Int)>0)=decide (0<k)from decide_eq_decide.2 (by omega)) (a0K (v:=s.1&&decide (0<k)) (by cases s.1<;>rfl) (a0K rfl ?_));have hno:a1t s k=(num (s.2.getD k 0)&&(!(s.1&&decide (0<k))||decide (s.2.getD (k-1) 0<s.2.getD k 0))):=by
   unfold a1t;congr 1;have h00:decide (k=0)=!decide (0<k):=by by_cases h:k=0;simp[h];simp[h,Nat.pos_of_ne_zero h]
   rw[h00];cases s.1<;>cases decide (0<k)<;>rfl
  rw[hno];cases hn:num (s.2.getD k 0)with
  |false=>exact a0T (v:=(0:Int)) (a4G (by cases s.1<;>cases decide (0<k)<;>rfl) rfl) (a0K rfl (a0K (v:=true) rfl (a3n rfl (a0Y (a0Y rfl)))))|true=>
   cases hc:(s.1&&decide (0<k))with
   |false=>exact a0T (v:=(0:Int)) (a4G rfl rfl) (a0K (v:=false) rfl (a0K (v:=false) rfl (a4G rfl (a0K nk rfl))))|true=>
    have h0:0<k:=by rw[Bool.and_eq_true,decide_eq_true_eq]at hc;exact hc.2
    refine a0T (a3n rfl (hyp h0)) (a0K (v:=!decide (s.2.getD (k-1) 0<s.2.getD k 0)) ?_ ?_);show decide (s.2.getD (k-1) 0>=s.2.getD k 0)=_;by_cases q:s.2.getD (k-1) 0<s.2.getD k 0;rw[decide_eq_true q,decide_eq_false (by omega)];rfl;rw[decide_eq_false q,decide_eq_true (by omega)];rfl;cases decide (s.2.getD (k-1) 0<s.2.getD k 0)with
    |false=>exact a0K (v:=true) rfl (a3n rfl (a0Y (a0Y rfl)))|true=>exact a0K (v:=false) rfl (a4G rfl (a0K nk rfl))
  exact a0K (v:=false) (decide_eq_false (show ¬(s.2.length:Int)<aJO s.2 by unfold aJO;omega)) (a4G rfl (a0Y (a0K (v:=((t+s.2.length:Nat):Int)) (wv _ (show(t:Int)+aJO s.2=_ by unfold aJO;omega) (by omega) (by omega)) (a0K nx rfl))));omega;rw[run_allS];unfold a1b;cases(List.range' 0 s.2.length).all (a1t s)<;>rfl
 refine a0K (v:=false) (decide_eq_false (show ¬(p.length:Int)<aJO p by unfold aJO;omega)) (a4G rfl (a0Y ?_));show some (decide ((t:Int)<=64))=_;congr 1;exact decide_eq_decide.2 (by omega)
def flat(p:List Seg):List Int:=p.flatMap fun s=>s.2
theorem flat_len(p:List Seg):(flat p).length=tot p:=by unfold flat tot;rw[List.length_flatMap]
theorem a0Z{p:List Seg}{i:Nat}(h:i<p.length):flat (p.take (i+1))=flat (p.take i)++p[i].2:=by unfold flat;rw[List.take_succ_eq_append_getElem h,List.flatMap_append];simp
theorem flat_n(N:Nat){p:List Seg}(hN:p.length<N)(hp:p.length<=1000)(hs:∀s∈p,s.2.length<=100000):n72 (N+1) p=some (flat p):=by
 rw[e72];refine jB (a5F (fun i=>((flat (p.take i),p,aJO p,(i:Int)):(List Int×(List Seg×(Int×Int))))) p.length rfl (fun i hi=>?_) ?_ hN)
 · have l1 : (flat (p.take i)).length ≤ 100000000 := by
     rw[flat_len];have:=tot_le (p:=p.take i) fun s h=>hs s (List.mem_of_mem_take h)
     rw[List.length_take]at this;omega
   have l2:=hs p[i] (List.getElem_mem hi);refine a0K (v:=true) (decide_eq_true (show(i:Int)<aJO p by unfold aJO;omega)) (a3n rfl (a0T (aJo hi) (a0T (aJm (l:=flat (p.take i)) (m:=p[i].2) (by omega) (by omega)) (a0K (v:=((i+1:Nat):Int)) (wv _ (show(i:Int)+1=((i+1:Nat):Int) by omega) (by omega) (by omega)) ?_))));rw[a0Z hi];rfl
 rw[List.take_length];exact a0K (v:=false) (decide_eq_false (show ¬(p.length:Int)<aJO p by unfold aJO;omega)) (a4G rfl (a0Y rfl))
end Go.Proofs.YtgfmodmeimhhpaaGreatDoor.Z
open List(length_cons)
open Nat(le_trans)
namespace Go.Proofs.YtgfmodmeimhhpaaGreatDoor
open Go.RowKit Go.Lib Go.VM
structure CallsOk(w:World):Prop where
 valid:∀(L:List Seg) (v:Value) (W:World),Below w.heap.size w W->Mid L->HV W (fun b=>b<W.heap.size) (.sl tyS) L v->Calls Tryz.prog 83 #[v] W fun e W'=>e=.returned (.bool (pvd L))/\Below W.heap.size W W'
 numb:∀(a:Int) (W:World),Below w.heap.size w W->Calls Tryz.prog 84 #[.int .i64 a] W fun e W'=>e=.returned (.bool (num a))/\Below W.heap.size W W'
 flat:∀(L:List Seg) (v:Value) (W:World),Below w.heap.size w W->Mid L->HV W (fun b=>b<W.heap.size) (.sl tyS) L v->Calls Tryz.prog 72 #[v] W fun e W'=>(∃o c,e=.returned (.slice o (tot L) c))/\Below W.heap.size W W'
def a3b(w:World)(a:Option Addr)(L:List Seg)(n:Int)(r:Ending)(w':World):Prop:=
 ∃v' vs,r=.returned (.tuple #[v',.int .i64 0])/\Deep w' w.heap.size v' L vs/\(v'=.slice none 0 0↔a=none/\n=0)/\Below w.heap.size w w'
theorem a2x{w W:World}{L:List Seg}{v:Value}(hv:HV w (fun b=>b<w.heap.size) (.sl tyS) L v)(hb:Below w.heap.size w W):HV W (fun b=>b<W.heap.size) (.sl tyS) L v:=
 ⟨a2p (fun b h=>Nat.lt_of_lt_of_le h hb.size) (fun a rows hr hq=>by
  by_cases h0:rows=[]
  .subst h0;intro j u hu;simp at hu
  .exact hr.keep fun j _=>World.cell?_of_block (by rw[bM];exact hb.block _ (hq h0))) hv.1,hv.2⟩
set_option maxHeartbeats 4000000 in
set_option maxRecDepth 100000 in
theorem a6w(L:List Seg)(asn:Int)(a:Option Addr)(m cap:Nat)(w:World)(hC:CallsOk w)(hm:Mid L)(hv:HV w (fun b=>b<w.heap.size) (.sl tyS) L (.slice a m cap))(hp:pvd L=true)(hn:num asn=true)(ht:tot L<=64) :
  Calls Tryz.prog 49 #[.slice a m cap,.int .i64 asn,.int .i64 0] w (a3b w a L 0):=by
 have e83:∀args w,(callFunc 83 args).run Tryz.prog w=.ok (.enter 83 args) w:=fun args w=>by kernel_rfl
 have e84:∀args w,(callFunc 84 args).run Tryz.prog w=.ok (.enter 84 args) w:=fun args w=>by kernel_rfl
 have e72:∀args w,(callFunc 72 args).run Tryz.prog w=.ok (.enter 72 args) w:=fun args w=>by kernel_rfl
 have e88:∀args w,(callFunc 88 args).run Tryz.prog w=.ok (.enter 88 args) w:=fun args w=>by kernel_rfl
 have h83:=hC.valid L _ w (Below.refl _ _) hm hv;have h84:=fun W hb=>hC.numb asn W hb
 have h72:=fun W (hb:Below w.heap.size w W)=>hC.flat L _ W hb hm (a2x hv hb)
 have h88:=fun W (hb:Below w.heap.size w W)=>a3V L a m cap W (a2x hv hb) (by have:=hm.1;omega) hm.2
 rw[hp]at h83;rw[hn]at h84;have hw64:IntKind.i64.wrap (64-((tot L:Nat):Int))=64-((tot L:Nat):Int):=by rw[IntKind.wrap_i64];omega
 have hc:¬((0:Int)>64-((tot L:Nat):Int)):=by omega
 have H40:Aside _:=h84;have H14:Aside _:=h72;have H42:Aside _:=h88;clear hv h84 h72 h88
 go_enter Tryz.func49,Tryz.ntmps49
 go_wp2_with (first
  |(go_at_fn 83;refine h83.mono ?_;rintro r w1 ⟨rfl,hb⟩;have H1:=Lib.hid hb;clear hb)
  |(go_at_fn 84;refine(H40.out _ H1.out).mono ?_;rintro r w2 ⟨rfl,hb⟩;have H2:=Lib.hid (H1.out.trans (hb.mono H1.out.size));clear hb)
  |(go_at_fn 72;refine(H14.out _ H2.out).mono ?_;rintro r w3 ⟨⟨o,c,rfl⟩,hb⟩;have H3:=Lib.hid (H2.out.trans (hb.mono H2.out.size));clear hb)
  |(go_at_fn 88;refine(H42.out _ H3.out).mono ?_;rintro r w4 ⟨v',vs,rfl,hd,hz,hb⟩;have H4:=Lib.hid (And.intro hd (And.intro hz hb));clear hd hz hb))
 go_ret2
 unfold a3b;exact⟨_,vs,rfl,H4.out.1.mono H3.out.size,⟨fun h=>⟨H4.out.2.1.1 h,rfl⟩,fun h=>H4.out.2.1.2 h.1⟩,H3.out.trans (H4.out.2.2.mono H3.out.size)⟩
theorem a4q{w5 w7:World}{base g n c:Nat}{L:List Seg}{vs:List Value}{s:Seg}{u:Value}{l:List Int}(h:Deep w5 base (.slice (some ⟨g,0,none⟩) n c) (s::L) vs)(hb:Below w5.heap.size w5 w7)(hu:a1J w7 w5.heap.size 1 u l.length (a1f l))(hbs:base<=w5.heap.size) :
  Deep (w7.setCell ⟨g,1,none⟩ u) base (.slice (some ⟨g,0,none⟩) n c) ((s.1,l)::L) (vs.set 0 u)/\w7.grownBy (w7.setCell ⟨g,1,none⟩ u) (some g):=by
 have:=h.setIn (i:=0) (u:=u) (l:=l) (w':=w7) (by simp) (a3F hb _) (hu.mono hbs) (fun k hk=>.inr (hu.lt k hk).1);simpa using this
theorem app_G(W:World)(base:Nat)(v:Value)(xs:List Int)(hown:a1J W base 1 v xs.length (a1f xs))(u:Value)(l:List Int)(hu:HC W (fun b=>b<W.heap.size) (.sl (.int .i64)) l [u])(hbase:base<=W.heap.size)(hb:xs.length+l.length<=1000000)(ty:TypeId) :
  ∃v' w',(Builtin.append_ #[22,22] ty #[v,u]).run Tryz.prog W=.ok v' w'/\a1J w' base 1 v' (xs++l).length (a1f (xs++l))/\W.grownBy w' v.ownBlock/\(v'.ownBlock=v.ownBlock\/v'.ownBlock=some W.heap.size):=by
 obtain⟨i0,hi0,hz0,hzs,hzb⟩:=info_parts a5j;rcases a1g hu with⟨rfl,rfl⟩|⟨a,cap,rows,rfl,h1,h2,h3,h4,h5⟩
 · have : (Builtin.append_ #[22, 22] ty #[v, .slice none 0 0]).run Tryz.prog W = .ok v W := by
     rcases hown.shape with⟨rfl,_⟩|⟨g,c,rfl⟩
     .simp[Builtin.append_,run_underlying Tryz.underlying22,sizeOf,typeInfo,hi0,Builtin.lenOf,Builtin.firstCells]
     .have hc:=(a1J.row hown).2.1;simp[Builtin.append_,run_underlying Tryz.underlying22,sizeOf,typeInfo,hi0,Builtin.lenOf,Builtin.firstCells,hc,storeCells]
   exact⟨v,W,this,by rw[List.append_nil];exact hown,a3F (Below.refl _ _) _,.inl rfl⟩
 .have e:=a2w h4;subst e;obtain⟨v',w',q1,q2,q3,_,q5⟩:=a4m (P:=Tryz.prog) W base 22 ty 3 i0 (.int .i64 0) 1 8 Tryz.underlying22 hi0 hz0 hzs hzb rfl (by decide) v xs.length (a1f xs) hown a l.length cap (a1f l) (by rw[a1r];omega) h3 (a5i l) (by unfold maxLen;omega) (by omega) hbase;refine⟨v',w',q1,?_,q3,q5⟩;rw[List.length_append];have:a1f (xs++l)=a1f xs++a1f l:=List.map_append;rw[this];exact q2
set_option maxHeartbeats 8000000 in
set_option maxRecDepth 100000 in
theorem a7o(s:Seg)(L:List Seg)(asn:Int)(k:Nat)(a:Option Addr)(m cap:Nat)(w:World)(hC:CallsOk w)(hm:Mid (s::L))(hv:HV w (fun b=>b<w.heap.size) (.sl tyS) (s::L) (.slice a m cap))(hp:pvd (s::L)=true)(hn:num asn=true)(hk:0<k)(hc:tot (s::L)+k<=64)(hs:s.1=false) :
  Calls Tryz.prog 49 #[.slice a m cap,.int .i64 asn,.int .i64 k] w (a3b w a ((false,List.replicate k asn++s.2)::L) k):=by
 have e83:∀args w,(callFunc 83 args).run Tryz.prog w=.ok (.enter 83 args) w:=fun args w=>by kernel_rfl
 have e84:∀args w,(callFunc 84 args).run Tryz.prog w=.ok (.enter 84 args) w:=fun args w=>by kernel_rfl
 have e72:∀args w,(callFunc 72 args).run Tryz.prog w=.ok (.enter 72 args) w:=fun args w=>by kernel_rfl
 have e88:∀args w,(callFunc 88 args).run Tryz.prog w=.ok (.enter 88 args) w:=fun args w=>by kernel_rfl
 have e90:∀args w,(callFunc 90 args).run Tryz.prog w=.ok (.enter 90 args) w:=fun args w=>by kernel_rfl
 have h83:=hC.valid _ _ w (Below.refl _ _) hm hv;have h84:=fun W hb=>hC.numb asn W hb
 have h72:=fun W (hb:Below w.heap.size w W)=>hC.flat _ _ W hb hm (a2x hv hb)
 have h88:=fun W (hb:Below w.heap.size w W)=>a3V (s::L) a m cap W (a2x hv hb) (by have:=hm.1;omega) hm.2
 rw[hp]at h83;rw[hn]at h84;have hw64:IntKind.i64.wrap (64-((tot (s::L):Nat):Int))=64-((tot (s::L):Nat):Int):=by rw[IntKind.wrap_i64];omega
 have hc2:¬(((k:Nat):Int)>64-((tot (s::L):Nat):Int)):=by omega
 have hk0:¬(((k:Nat):Int)<0):=by omega
 have hk1:(((k:Nat):Int)==0)=false:=beq_eq_false_iff_ne.2 (by omega);have hl0:((((s::L).length:Nat):Int)==0)=false:=beq_eq_false_iff_ne.2 (by simp only[length_cons];omega);have hll:(0:Int)<(((s::L).length:Nat):Int):=by simp only[length_cons];omega
 have hR:∀W:World,Calls Tryz.prog 90 #[.slice (some ⟨W.heap.size,0,none⟩) 1 1,.int .i64 k] (W.alloc (.cells #[.int .i64 asn] 3)) fun r w'=>∃v',r=.returned v'/\w'.ownsRow (W.alloc (.cells #[.int .i64 asn] 3)).heap.size 3 1 v' k (a1f (List.replicate k asn))/\Below (W.alloc (.cells #[.int .i64 asn] 3)).heap.size (W.alloc (.cells #[.int .i64 asn] 3)) w':=
  fun W=>a2f asn k _ _ hk (by omega) (heap_alloc_new W _)
 have hst:∀(w4:World) base g c vs,Deep w4 base (.slice (some ⟨g,0,none⟩) (s::L).length c) (s::L) vs->∃o m1 c1,vs.head?=some (.slice o m1 c1)/\w4.cell? ⟨g,0,none⟩=some (.bool false)/\w4.cell? ⟨g,1,none⟩=some (.slice o m1 c1)/\w4.frozen? ⟨g,1,none⟩=false/\g<w4.heap.size/\HC w4 (fun b=>b<w4.heap.size) (.sl (.int .i64)) s.2 [.slice o m1 c1]:=fun w4 base g c vs D=>by
  have hx:0<vs.length:=by rw[D.len];simp
  have e0:=D.row.cellAt 0 (by simp only[length_cons];omega);have e1:=D.row.cellAt 1 (by simp only[length_cons];omega);have g0:=a2Z (L:=s::L) (vs:=vs) (i:=0) D.len (by simp);have g1:=a2e (L:=s::L) (vs:=vs) (i:=0) D.len hx;simp only[Nat.zero_mul,Nat.zero_add]at g0 g1;rw[g0]at e0;rw[g1]at e1;have hi:=D.ins 0 (by simp) hx;obtain⟨o,m1,c1,e⟩:=hi.shape3;rw[e]at e1;have:=a6t hi;rw[e]at this;exact⟨o,m1,c1,by rw[List.head?_eq_getElem?,List.getElem?_eq_getElem hx,e],by rw[e0];show some (Value.bool s.1)=_;rw[hs],e1,D.row.frozenAt _,(World.ownsRow.lt D.row g rfl).2,this⟩
 have hap : ∀ (w4 W6 : World) (v6 u : Value) ty, Below w4.heap.size w4 W6 → W6.ownsRow (w4.alloc (.cells #[.int .i64 asn] 3)).heap.size 3 1 v6 k (a1f (List.replicate k asn)) → HC w4 (fun b => b < w4.heap.size) (.sl (.int .i64)) s.2 [u] → (w4.alloc (.cells #[.int .i64 asn] 3)).heap.size ≤ W6.heap.size →
     ∃v' w',(Builtin.append_ #[22,22] ty #[v6,u]).run Tryz.prog W6=.ok v' w'/\(a1J w' w4.heap.size 1 v' (List.replicate k asn++s.2).length (a1f (List.replicate k asn++s.2))/\Below w4.heap.size w4 w'):=fun w4 W6 v6 u ty hb ho hu hsz=>by
  have hs1:w4.heap.size<=(w4.alloc (.cells #[.int .i64 asn] 3)).heap.size:=by show _<=(w4.heap.push _).size;simp
  have hu6:HC W6 (fun b=>b<W6.heap.size) (.sl (.int .i64)) s.2 [u]:=a2p (fun b h=>Nat.lt_of_lt_of_le h hb.size) (fun a rows hr hq=>by
   by_cases h0:rows=[]
   .subst h0;intro j u hu;simp at hu
   .exact hr.keep fun j _=>World.cell?_of_block (by rw[bM];exact hb.block _ (hq h0))) hu
  have hlen:s.2.length<=100000:=hm.2 s (by simp);obtain⟨v',w',q1,q2,q3,_⟩:=app_G W6 w4.heap.size v6 (List.replicate k asn) (by rw[List.length_replicate];exact(a2u ho).mono hs1) u s.2 hu6 hb.size (by rw[List.length_replicate];omega) ty;exact⟨v',w',q1,q2,hb.grown q3 hb.size (fun j hj=>le_trans hs1 (World.ownsRow.lt ho j hj).1)⟩
 have H40:Aside _:=h84;have H14:Aside _:=h72;have H42:Aside _:=h88;have HR:Aside _:=hR;have HS:Aside _:=hst;have HA:Aside _:=hap;clear hv h84 h72 h88 hR hst hap
 go_enter Tryz.func49,Tryz.ntmps49
 go_wp2_with (first
  |(go_at_fn 83;refine h83.mono ?_;rintro r w1 ⟨rfl,hb⟩;have H1:=Lib.hid hb;clear hb)
  |(go_at_fn 84;refine(H40.out _ H1.out).mono ?_;rintro r w2 ⟨rfl,hb⟩;have H2:=Lib.hid (H1.out.trans (hb.mono H1.out.size));clear hb)
  |(go_at_fn 72;refine(H14.out _ H2.out).mono ?_;rintro r w3 ⟨⟨o,c,rfl⟩,hb⟩;have H3:=Lib.hid (H2.out.trans (hb.mono H2.out.size));clear hb)
  |(go_at_fn 88;refine(H42.out _ H3.out).mono ?_;rintro r w4 ⟨v',vs,rfl,hd,hz,hb⟩;obtain⟨g,c4,rfl⟩:∃g c,v'=.slice (some ⟨g,0,none⟩) (s::L).length c:=(by rcases a0W hd.row with⟨_,q⟩|⟨g,c,q⟩;exact absurd q (by simp);exact⟨g,c,by rcases hd.row.2 with⟨q1,_⟩|⟨_,_,_,q1,_⟩;(rw[q1]at q;cases q);(rw[q1]at q ⊢;cases q;rfl)⟩);obtain⟨o1,m1,c1,hh,l0,l1,l2,hgw,hhc⟩:=HS.out _ _ _ _ _ hd;have H4:=Lib.hid (And.intro hd (And.intro hb (And.intro hh hhc)));clear hd hz hb hh hhc))
 have mixed:Tryz.prog.follows Departure.mixedOrders=true:=by kernel_rfl
 have hla:(w4.alloc (.cells #[.int .i64 asn] 3)).cell? ⟨g,1,none⟩=some (.slice o1 m1 c1):=by rw[World.cell?_of_block (w:=w4) (a:=⟨g,1,none⟩) (Go.heap_alloc_old w4 _ hgw)];exact l1
 have HB:Aside (∀w6,Below (w4.alloc (.cells #[.int .i64 asn] 3)).heap.size (w4.alloc (.cells #[.int .i64 asn] 3)) w6->w6.cell? ⟨g,1,none⟩=some (.slice o1 m1 c1)/\Below w4.heap.size w4 w6):=fun w6 hb=>by have hsz:(w4.alloc (.cells #[.int .i64 asn] 3)).heap.size=w4.heap.size+1:=Array.size_push _;have h0:Below w4.heap.size w4 (w4.alloc (.cells #[.int .i64 asn] 3)):=(Below.refl _ w4).alloc (Nat.le_refl _) _;exact⟨by rw[hb.cell (p:=⟨g,1,none⟩) (by rw[hsz];exact Nat.lt_succ_of_lt hgw),hla],h0.trans (hb.mono h0.size)⟩
 have HF:Aside (∀w7,Below w4.heap.size w4 w7->w7.cell? ⟨g,1,none⟩=some (.slice o1 m1 c1)/\w7.frozen? ⟨g,1,none⟩=false):=fun w7 hb=>⟨by rw[hb.cell (p:=⟨g,1,none⟩) hgw];exact l1,by rw[hb.frozen (p:=⟨g,1,none⟩) hgw];exact l2⟩
 clear l2;have HK:Aside (0<k/\k<=100000):=⟨hk,by omega⟩;have HKN:Aside (¬((k:Nat):Int)=0):=(by omega:¬((k:Nat):Int)=0);have HN:Aside ((w4.alloc (.cells #[.int .i64 asn] 3)).drew.heap[w4.heap.size]?=some (.cells #[.int .i64 asn] 3 (0,0))):=heap_alloc_new w4 _
 go_region_law_o (first
     |(go_simp;go_at_fn 90;refine(a2f asn k _ _ HK.out.1 HK.out.2 HN.out).mono ?_;rintro r w6 ⟨v6,rfl,ho,hb⟩;obtain⟨p1,hb6⟩:=HB.out w6 ⟨hb.os,hb.tape,hb.output,hb.size,hb.block⟩;have H6:=Lib.hid (And.intro ho (And.intro (show(w4.alloc (.cells #[.int .i64 asn] 3)).heap.size<=w6.heap.size from hb.size) hb6));clear ho hb hb6)
     |(refine a0Q (by rfl) _ _ 22 22 (by rfl) _ _ (by rfl) (by rfl) (HA.out w4 _ _ _ _ H6.out.2.2 H6.out.1 H4.out.2.2.2 H6.out.2.1) ?_;rintro v7 w7 ⟨ho7,hb7⟩;obtain⟨o7,m7,c7,rfl⟩:=ho7.shape3;obtain⟨q1,q2⟩:=HF.out w7 hb7;have H7:=Lib.hid (And.intro ho7 hb7);clear ho7 hb7))
 all_goals
  go_wp2
  go_ret2
  unfold a3b;obtain⟨f1,f2⟩:=a4q H4.out.1 H7.out.2 H7.out.1 (le_trans H4.out.2.1.size (Nat.le_refl _));rw[hs]at f1;have hb4:Below w.heap.size w w4:=H3.out.trans (H4.out.2.1.mono H3.out.size);refine⟨_,_,rfl,f1.mono H3.out.size,⟨(fun h=>by cases h),fun h=>absurd h.2 HKN.out⟩,(hb4.trans (H7.out.2.mono hb4.size)).grown f2 (le_trans hb4.size H7.out.2.size) (fun j hj=>?_)⟩;cases hj;exact le_trans H3.out.size (World.ownsRow.lt H4.out.1.row g rfl).1
end Go.Proofs.YtgfmodmeimhhpaaGreatDoor
open List(mem_cons)
namespace Go.Proofs.YtgfmodmeimhhpaaGreatDoor
open Go.RowKit Go.Lib Go.VM
def midB(p:List Seg):Bool:=decide (p.length<=1000)&&p.all fun s=>decide (s.2.length<=100000)
theorem a5k{p:List Seg}:midB p=true↔Mid p:=by simp[midB,Mid]
def a7p:V->Bool
 |.nils=>true|_=>false
def a3G(vs:List V)(r:List Seg×Int):List V:=[if(r.1.isEmpty&&(decide (r.2≠0)||a7p (vs.headD .undef)))=true then .nils else a2I r.1,.int .i64 r.2]
theorem a7q{v:V}{n:Int}(hv:v=.nils\/∃L,v=a2I L):∀u∈[v,V.int .i64 n],aN u=false/\u.flat=true/\∀xs,u≠.tup xs:=fun u hu=>by
 simp only[mem_cons,List.not_mem_nil,or_false]at hu;rcases hu with rfl|rfl;rcases hv with rfl|⟨L,rfl⟩<;>exact⟨rfl,rfl,fun _ h=>by cases h⟩
 exact⟨rfl,rfl,fun _ h=>by cases h⟩
theorem nilOr{b:Bool}{L:List Seg}:(if b=true then V.nils else a2I L)=.nils\/∃M,(if b=true then V.nils else a2I L)=a2I M:=by cases b;exact .inr ⟨L,rfl⟩;exact .inl rfl
theorem a6x{b:Bool}{L:List Seg}{n:Int}(h:b=true->L=[]):iQ [.sl tyS,.int .i64] (L,n) [if b=true then V.nils else a2I L,.int .i64 n]/\∀c∈([if b=true then V.nils else a2I L,.int .i64 n]:List V).flatMap V.cells,c.bare0:=by
 cases b with
 |true=>
  have h0:=h rfl;exact⟨⟨_,_,rfl,⟨.inl ⟨rfl,h0⟩,rfl⟩,_,_,rfl,⟨rfl,rfl⟩,rfl⟩,fun c hc=>by simp[V.cells]at hc;rcases hc with rfl|rfl<;>trivial⟩
 |false=>exact⟨⟨_,_,rfl,⟨a3D L,rfl⟩,_,_,rfl,⟨rfl,rfl⟩,rfl⟩,fun c hc=>by simp[V.cells,a2I]at hc;rcases hc with rfl|rfl<;>trivial⟩
theorem slTy{t:Ty}:∀p∈[PK.d (.sl t)],∃u,p=.d u/\(u.agg=true\/u.size=1):=fun p hp=>by simp only[mem_cons,List.not_mem_nil,or_false]at hp;exact⟨_,hp,.inr rfl⟩
theorem hvI{W:World}{Q:Nat->Prop}(a:Int):HV W Q (.int .i64) a (.int .i64 a):=⟨rfl,rfl⟩
theorem callsOk(w:World):CallsOk w where
 valid L v W hb hm hv:=by
  have hty:wZ ⟨[.d (.sl tyS)],[(.bool,[])],none⟩ [] (call Z.FT 200004 83) (nfN Z.TN 200004 83):=by have h:=Z.typed 200004 83;unfold aF7 at h;rw[Z.sigOk 83]at h;exact h
  have hx:Z.n83 200004 L=some (pvd L):=by exact Z.valid_p 200002 (by decide) hm.1 hm.2
  refine(a1o (Z.tableOk) (f:=83) (ps:=[.d (.sl tyS)]) (rs:=[(.bool,[])]) (vf:=Z.vf83) rfl hty slTy (by decide) (fun _ _=>trivial) hx ⟨_,_,rfl,hv,rfl⟩).mono fun e W' ⟨rcs,e1,e2,e3⟩=>⟨?_,e2⟩
  obtain⟨c1,cs1,rfl,h1,rfl⟩:=e3;have h1:[c1]=[.bool (pvd L)]:=a1X h1 rfl;cases h1;rw[e1];rfl
 numb a W hb:=by
  have hty:wZ ⟨[.d (.int .i64)],[(.bool,[])],none⟩ [] (call Z.FT 200004 84) (nfN Z.TN 200004 84):=by have h:=Z.typed 200004 84;unfold aF7 at h;rw[Z.sigOk 84]at h;exact h
  have hx:Z.n84 200004 a=some (num a):=by exact Z.num_n _ a
  refine(a1o (Z.tableOk) (f:=84) (ps:=[.d (.int .i64)]) (rs:=[(.bool,[])]) (vf:=Z.vf84) rfl hty (fun p hp=>by simp only[mem_cons,List.not_mem_nil,or_false]at hp;exact⟨_,hp,.inr rfl⟩) (by decide) (fun _ _=>trivial) (Q:=fun _=>True) hx ⟨_,_,rfl,hvI a,rfl⟩).mono fun e W' ⟨rcs,e1,e2,e3⟩=>⟨?_,e2⟩
  obtain⟨c1,cs1,rfl,h1,rfl⟩:=e3;have h1:[c1]=[.bool (num a)]:=a1X h1 rfl;cases h1;rw[e1];rfl
 flat L v W hb hm hv:=by
  have hty:wZ ⟨[.d (.sl tyS)],[(.sl (.int .i64),[(0,true)])],none⟩ [] (call Z.FT 200004 72) (nfN Z.TN 200004 72):=by have h:=Z.typed 200004 72;unfold aF7 at h;rw[Z.sigOk 72]at h;exact h
  have hx:Z.n72 200004 L=some (Z.flat L):=by exact Z.flat_n 200003 (by have:=hm.1;omega) hm.1 hm.2
  refine(a1o (Z.tableOk) (f:=72) (ps:=[.d (.sl tyS)]) (rs:=[(.sl (.int .i64),[(0,true)])]) (vf:=Z.vf72) rfl hty slTy (by decide) (fun _ _=>trivial) hx ⟨_,_,rfl,hv,rfl⟩).mono fun e W' ⟨rcs,e1,e2,e3⟩=>⟨?_,e2⟩
  obtain⟨c1,cs1,rfl,h1,rfl⟩:=e3;rw[e1];rcases a1g (a1X h1 rfl)with⟨h0,rfl⟩|⟨a,cap,rows,rfl,_⟩;have h0:Z.flat L=[]:=h0;have:=Z.flat_len L;rw[h0]at this;rw[<-this];exact⟨none,0,rfl⟩;have:=Z.flat_len L;refine⟨some a,cap,?_⟩;rw[<-this];rfl
theorem pvd_ne{p:List Seg}(h:pvd p=true):∀s∈p,0<s.2.length:=by
 unfold pvd at h;rw[Bool.and_eq_true,List.all_eq_true]at h;intro s hs;obtain⟨i,hi,e⟩:=List.getElem_of_mem hs;have h1:=h.1 i (by simp[List.mem_range'];omega);unfold a1T at h1;rw[Bool.and_eq_true,Bool.and_eq_true,Z.getD_lt zS hi,e]at h1;have h2:=h1.1.1;cases hq:s.2 with
 |nil=>rw[hq]at h2;cases h2|cons a l=>simp
theorem preP_ne{p:List Seg}(hp:∀s∈p,0<s.2.length)(a:Int){k:Nat}(hk:0<k):a3U p a k≠[]/\∀s∈a3U p a k,0<s.2.length:=by unfold a3U;split;exact⟨by simp,fun s hs=>by rw[List.mem_singleton.1 hs];simpa using hk⟩;rename_i s r;split;refine⟨by simp,fun q hq=>?_⟩;rcases mem_cons.1 hq with rfl|hq;simpa using hk;exact hp q hq;refine⟨by simp,fun q hq=>?_⟩;rcases mem_cons.1 hq with rfl|hq;simp;omega;exact hp q (List.mem_cons_of_mem _ hq)
theorem a7r{w:World}{Q:Nat->Prop}{t:Ty}{l:List t.den}{c:Value}(h:HV w Q (.sl t) l c):∃a n cap,c=.slice a n cap:=by rcases a1g (a1X h rfl)with⟨_,h2⟩|⟨ad,cap',rows,h2,_⟩<;>exact⟨_,_,_,h2⟩
end Go.Proofs.YtgfmodmeimhhpaaGreatDoor
namespace Go.VM
theorem a4r{t:Ty}{x:(Ty.sl t).den}{v:V}(h:bP (.sl t) x [v]):bP (.sl t) x [v.mapLab1 fun _=>Lab.none]/\(v.mapLab1 fun _=>Lab.none).bare0:=by rcases h with⟨e,h0⟩|⟨lb,rs,e,h⟩;cases e;exact⟨.inl ⟨rfl,h0⟩,trivial⟩;cases e;exact⟨.inr ⟨_,rs,rfl,h⟩,rfl⟩
theorem a4s{t:Ty}{x y:(Ty.sl t).den}{v:V}{ws:List V}(h:bP (.sl t) x [v])(h0:x=[]->y=[])(hr:aL (bP t) y ws)(hb:∀c∈ws,c.bare0):bP (.sl t) y [a5I t.size v (List.length y) ws]/\(a5I t.size v (List.length y) ws).bare0:=by rcases h with⟨e,e0⟩|⟨lb,rs,e,h⟩;cases e;exact⟨.inl ⟨rfl,h0 e0⟩,trivial⟩;cases e;exact⟨.inr ⟨_,ws,rfl,hr,hb⟩,rfl⟩
end Go.VM
namespace Go.Proofs.YtgfmodmeimhhpaaGreatDoor
open Go.RowKit Go.Lib Go.VM
theorem a6y:∀l:List (Int×Int),aL (bP a4H) l (cmW l)
 |[]=>rfl|c::l=>⟨[.int .i64 c.1,.int .i64 c.2],_,rfl,⟨[.int .i64 c.1],[.int .i64 c.2],rfl,rfl,rfl⟩,a6y l⟩
theorem a6z:∀l:List (Int×Int×Int),aL (bP a4I) l (lgW l)
 |[]=>rfl|c::l=>⟨[.int .i64 c.1,.int .i64 c.2.1,.int .i64 c.2.2],_,rfl,⟨[.int .i64 c.1],[.int .i64 c.2.1,.int .i64 c.2.2],rfl,rfl,[.int .i64 c.2.1],[.int .i64 c.2.2],rfl,rfl,rfl⟩,a6z l⟩
theorem a5l:∀l:List (Int×Int),∀c∈cmW l,c.bare0
 |[],_,h=>by cases h|c::l,u,h=>by
  rcases List.mem_append.1 (show u∈[V.int .i64 c.1,.int .i64 c.2]++cmW l from h)with h|h;simp at h;rcases h with rfl|rfl<;>trivial
  exact a5l l u h
theorem a5m:∀l:List (Int×Int×Int),∀c∈lgW l,c.bare0
 |[],_,h=>by cases h|c::l,u,h=>by
  rcases List.mem_append.1 (show u∈[V.int .i64 c.1,.int .i64 c.2.1,.int .i64 c.2.2]++lgW l from h)with h|h;simp at h;rcases h with rfl|rfl|rfl<;>trivial
  exact a5m l u h
theorem hStrip:∀x r,a1O x=some r->∀vs,iQ [.int .i64,a0t] x vs->(∀u∈vs.flatMap V.cells,u.bare0)->iQ [a0t] r (a1q vs r)/\∀c∈(a1q vs r).flatMap V.cells,c.bare0:=by
 rintro⟨own,a⟩ r hg vs ⟨v,vs',rfl,h1,v1,vs2,rfl,h2,h3⟩ hb;have h3:vs2=[]:=h3;subst h3;have h2:gP a0t a v1:=h2;unfold a1O at hg;split at hg
 case isFalse=>cases hg
 rename_i hsm;cases hg;have hsm:SmA a:=a2X.1 hsm;obtain⟨us,rfl⟩:∃us,v1=.agg us:=by have:=h2.2;cases v1<;>first|exact⟨_,rfl⟩|cases this
 obtain⟨ws,k1,k2,_,_⟩:=a6k hsm h2 (fun u hu=>hb u (by simp;exact .inr hu));rw[a2t k1];clear k1;obtain⟨p,cc,l,o,rfl,hp,hc,hl,ho⟩:=a1m k2;have e0:∀{α:Type} {l m:List α} {f:α->Bool},m=l.filter f->l=[]->m=[]:=fun{α l m f} h e=>by subst h;subst e;rfl
 obtain⟨q1,b1⟩:=a4r hp;obtain⟨q2,b2⟩:=a4s (t:=a4H) (y:=a0o (a0H own a)) hc (e0 rfl) (a6y _) (a5l _);obtain⟨q3,b3⟩:=a4s (t:=a4I) (y:=a0f (a0H own a)) hl (e0 rfl) (a6z _) (a5m _);obtain⟨q4,b4⟩:=a4r ho;refine⟨⟨_,_,rfl,⟨?_,rfl⟩,rfl⟩,fun c hcc=>?_⟩;exact⟨[.int .i64 a.1],_,rfl,rfl,[_],_,rfl,q1,[.bool a.2.2.1.1,.int .u64 a.2.2.1.2.1,.int .u64 a.2.2.1.2.2],_,rfl,⟨[.bool a.2.2.1.1],_,rfl,rfl,[.int .u64 a.2.2.1.2.1],[.int .u64 a.2.2.1.2.2],rfl,rfl,rfl⟩,[.int .i64 a.2.2.2.1],_,rfl,rfl,[.int .i64 a.2.2.2.2.1],_,rfl,rfl,[.int .i64 a.2.2.2.2.2.1],_,rfl,rfl,[_],_,rfl,q2,[_],[_],rfl,q3,q4⟩
 · have hcc : c = .int .i64 a.1 ∨ c = p.mapLab1 (fun _ => Lab.none) ∨ c = .bool a.2.2.1.1 ∨ c = .int .u64 a.2.2.1.2.1 ∨ c = .int .u64 a.2.2.1.2.2 ∨ c = .int .i64 a.2.2.2.1 ∨ c = .int .i64 a.2.2.2.2.1 ∨ c = .int .i64 a.2.2.2.2.2.1 ∨ c = a5I 2 cc (a0o (a0H own a)).length (cmW (a0o (a0H own a))) ∨ c = a5I 3 l (a0f (a0H own a)).length (lgW (a0f (a0H own a))) ∨ c = o.mapLab1 (fun _ => Lab.none) := by
     have:c∈[V.int .i64 a.1,p.mapLab1 (fun _=>Lab.none),.bool a.2.2.1.1,.int .u64 a.2.2.1.2.1,.int .u64 a.2.2.1.2.2,.int .i64 a.2.2.2.1,.int .i64 a.2.2.2.2.1,.int .i64 a.2.2.2.2.2.1,a5I 2 cc (a0o (a0H own a)).length (cmW (a0o (a0H own a))),a5I 3 l (a0f (a0H own a)).length (lgW (a0f (a0H own a))),o.mapLab1 (fun _=>Lab.none)]:=hcc;simpa only[List.mem_cons,List.not_mem_nil,or_false]using this
   rcases hcc with rfl|rfl|rfl|rfl|rfl|rfl|rfl|rfl|rfl|rfl|rfl;trivial;exact b1;trivial;trivial;trivial;trivial;trivial;trivial;exact b2;exact b3;exact b4
end Go.Proofs.YtgfmodmeimhhpaaGreatDoor
namespace Go.Proofs.YtgfmodmeimhhpaaGreatDoor
open Go.ChangeShapes Go.WideShapes Go.ChangeAt Go.WideElems Go.RowKit
open Go.VM
set_option maxRecDepth 10000
def a6A:List (Int×Int):=[(1,64),(2,64),(3,64),(4,128),(5,64),(8,192),(32,192),(35,192)]
def a5n(t:Int):Int:=(a6A.lookup t).getD 0
def MapW(w:World):Prop:=∃bm es clock,w.cell? ⟨0,0,none⟩=some (.map (some bm))/\w.heap[bm]?=some (.map es clock)/\
 ∀w':World,w'.heap[bm]?=some (.map es clock)->∀t:Int,(Lit.int .i64 t).wf=true->(Instr.lookup 146 (.map (some bm)) (.int .i64 t) false).run Tryz.prog w'=.ok (.int .i64 (a5n t)) w'
theorem a6B{w w':World}{x:Value}(h:w.cell? ⟨0,0,none⟩=some x)(hw:∀b,b<w.heap.size->w'.heap[b]?=w.heap[b]?):w'.cell? ⟨0,0,none⟩=some x:=by
 have h0:0<w.heap.size:=by
  unfold World.cell? at h;split at h
  .rename_i hh;exact(Array.getElem?_eq_some_iff.1 hh).1
  .cases h
 rw[<-h];exact World.cell?_of_block (hw 0 h0)
theorem a5M{w:World}(h:MapW w):∀w':World,(∀b,b<w.heap.size->w'.heap[b]?=w.heap[b]?)->MapW w':=by obtain⟨bm,es,clock,h1,h2,h3⟩:=h;intro w' hw;exact⟨bm,es,clock,a6B h1 hw,(hw bm (Array.getElem?_eq_some_iff.1 h2).1).trans h2,h3⟩
theorem a3c(t:Int):(DataW.map (H:=Unit) (a6A.map fun p=>(.int .i64 p.1,.lit (.int .i64 p.2)))).atKey (.int .i64 t) (.lit (.int .i64 0))=.lit (.int .i64 (a5n t)):=by
 unfold a5n;simp only[DataW.atKey];generalize a6A=l
 induction l with|nil=>rfl|cons p r ih=>
  rw[List.map_cons,List.find?_cons,List.lookup_cons];by_cases h:p.1=t
  .rw[show((Lit.int .i64 p.1).sameKey (.int .i64 t))=true by simp[Lit.sameKey,h],show(t==p.1)=true by simp[h]];rfl
  .rw[show((Lit.int .i64 p.1).sameKey (.int .i64 t))=false by simp[Lit.sameKey,h],show(t==p.1)=false by simp[Ne.symm h]];exact ih
theorem a4t{W:World}(h:laidMetH Tryz.prog [("exchangepoint/attribute.flags",Rows.laid_exchangepoint_attribute_flags)] W):MapW W:=by
 rw[MakeChecks.laidMetH_plain _ _ _ (by kernel_rfl)]at h;obtain⟨ps,⟨g0,t0,cs0,f0,p0,q0,hg0,ht0,hv0,hd0,_⟩,_⟩:=h;obtain rfl:=Option.some.inj ((show Tryz.prog.globalNamed "exchangepoint/attribute.flags" = some 0 by kernel_rfl).symm.trans hg0);obtain rfl:=Option.some.inj ((show(Tryz.prog.globals[0]?).map (·.type)=some 146 by kernel_rfl).symm.trans ht0);rcases open_map Tryz.underlying146 hd0 with⟨_,hx⟩|⟨bm,es,clock,m,rfl,hcs,hb,_,F,hx⟩
 .simp[Rows.laid_exchangepoint_attribute_flags]at hx
 simp only[Prod.mk.injEq]at hx;have hcell:W.cell? ⟨0,0,none⟩=some (.map (some bm)):=by have:=World.var?_cell hg0 hv0 0;rw[Array.eq_one_of_toList hcs]at this;simpa using this
 refine⟨bm,es,clock,hcell,hb,fun w' hb' t ht=>?_⟩;have zero:(zeroValue 3).run Tryz.prog w'=.ok (.int .i64 0) w':=by kernel_rfl
 rcases Go.Maps.fit_look false (Go.Maps.int_keyed Tryz.underlying3) Tryz.underlying146 zero hb' F (Go.Maps.keyOf_int_mk Tryz.underlying3 ht)with⟨hrun,_,hat⟩|⟨e0,y,_,_,hrun,hRv,hat,_⟩
 .have h1:=hat (.lit (.int .i64 0));rw[<-hx.1]at h1;have h2:=(a3c t).symm.trans h1;rw[DataW.lit.injEq,Lit.int.injEq]at h2;rw[h2.2];exact hrun
 .obtain⟨r,e1,e2,_⟩:=elemAt_int Tryz.underlying3 hRv;have h1:=hat (.lit (.int .i64 0));rw[<-hx.1]at h1;have h2:=(a3c t).symm.trans h1;rw[e2,DataW.lit.injEq,Lit.int.injEq]at h2;rw[e1]at hrun;rw[h2.2];exact hrun
def OmM(w:World):Prop:=Om Tryz.prog false false none w/\MapW w
theorem a6C{W:World}(h:OmM W):∀w:World,(∀b,b<W.heap.size->w.heap[b]?=W.heap[b]?)->OmM w:=fun w hw=>⟨aJN h.1 w hw,a5M h.2 w hw⟩
def unkD(t:Int):Bool:=(a5n t==0)&&(t != 14&&t != 15)
def a4u(t:Int):Option Bool:=if(Lit.int .i64 t).wf=true then some (unkD t)else none
def a3d(_:List V)(b:Bool):List V:=[.bool b]
theorem a4v(t:Int)(ht:(Lit.int .i64 t).wf=true)(w:World)(h:MapW w):Calls Tryz.prog 110 #[.int .i64 t] w fun e w'=>e=.returned (.bool (unkD t))/\Below w.heap.size w w':=by
 obtain⟨bm,es,clock,h1,h2,h3⟩:=h;have hrun:=h3 w h2 t ht;clear h3
 go_enter Tryz.func110,Tryz.ntmps110
 go_wp2
 .go_ret
  rename_i h4 h5;subst h5;exact⟨by simp[unkD],Below.refl _ _⟩
 .go_ret
  rename_i h4 h5;exact⟨by simp[unkD,h4],Below.refl _ _⟩
 .go_ret
  rename_i h4;exact⟨by simp[unkD,h4],Below.refl _ _⟩
theorem a7s:PrimOk OmM Tryz.prog 110 [] (pH [.int .i64] a4u a3d):=by
 obtain⟨c,hb⟩:∃c,Tryz.f110.body=some c:=⟨_,rfl⟩;refine pH_ok Tryz.func110 hb (by kernel_rfl) (fun vs x r _ _ v hv=>?_) fun x r hx vs ht w A B cs hΩ hr=>?_
 .rw[a3d,List.mem_singleton]at hv;subst hv;exact⟨rfl,rfl,fun xs h=>by cases h⟩
 .unfold a4u at hx;split at hx
  .rename_i hw;cases hx;obtain⟨c,cs',rfl,h1,h2⟩:=a2R ht hr;cases h2;have h3:=a1X h1 rfl;have h3:[c]=[Value.int .i64 x]:=h3;cases h3;refine(a4v x hw w (hΩ w fun _ _=>rfl).2).mono fun e w' ⟨h3,h4⟩=>⟨[.bool (unkD x)],h3,h4,?_⟩
   exact .cons _ _ _ _ (.bool _) .nil
  .cases hx
theorem hUnkn:∀x r,a4u x=some r->∀vs,iQ [.int .i64] x vs->iQ [.bool] r (a3d vs r)/\∀c∈(a3d vs r).flatMap V.cells,c.bare0:=fun x r _ vs _=>
 ⟨⟨_,_,rfl,⟨rfl,rfl⟩,rfl⟩,fun c hc=>by
  have:c=.bool r:=by simpa[a3d,V.cells]using hc
  subst this;trivial⟩
end Go.Proofs.YtgfmodmeimhhpaaGreatDoor
open Nat(le_trans)
open Bool(and_eq_true)
namespace Go.Proofs.YtgfmodmeimhhpaaGreatDoor
open Go.RowKit Go.Lib Go.VM
set_option maxRecDepth 10000
theorem a5N{w4:World}{base:Nat}{v:Value}{vs:List Value}(h:Deep w4 base v [] vs)(hbs:base<=w4.heap.size) :
  Calls Tryz.prog 89 #[v,.int .i64 0,.slice (some ⟨w4.heap.size,0,none⟩) 1 1] (w4.alloc (.cells #[.bool false,.slice none 0 0] 80)) fun r w'=>∃g c vs',r=.returned (.slice (some ⟨g,0,none⟩) (([]:List Seg).length+1) c)/\Deep w' base (.slice (some ⟨g,0,none⟩) ((false,([]:List Int))::([]:List Seg)).length c) ((false,[])::[]) vs'/\vs'.head?=some (.slice none 0 0)/\Below base w4 w':=by
 have ha:w4.grownBy (w4.alloc (.cells #[.bool false,.slice none 0 0] 80)) none:=World.grownBy_alloc w4 _ none;have hD:=h.kept ha (fun k hk=>by cases hk);have hsz:(w4.alloc (.cells #[.bool false,.slice none 0 0] 80)).heap.size=w4.heap.size+1:=Array.size_push _;obtain⟨a,c,hs⟩:∃a c,v=.slice a 0 c:=by
  rcases a0W h.row with⟨q,_⟩|⟨g,c,q⟩
  .exact⟨none,0,q⟩
  .exact⟨_,c,q⟩
 have key:=ins_end base v 0 c w4.heap.size a (a1I [] vs) [.bool false,.slice none 0 0] _ hs hD.row (by omega) (by omega) (heap_alloc_new w4 _) rfl (fun v hv=>by simp at hv;rcases hv with rfl|rfl<;>rfl);rw[<-hs]at key;refine key.mono fun r w' ⟨v',e1,e2,e3,e4⟩=>?_
 have hv0:a1I [] vs=[]:=by cases vs<;>rfl
 rw[hv0,List.nil_append]at e2;have e2:w'.ownsRow base 80 2 v' (([]:List Seg).length+1) ([.bool false,.slice none 0 0]++a1I [] vs):=by rw[hv0];exact e2
 have hd:=hD.ins0 e2 e3 (e4.imp id fun q=>⟨_,q,by omega⟩);rcases a0W hd.row with⟨_,q⟩|⟨g,c,q⟩
 .simp at q
 .refine⟨g,c,_,by rw[e1,q];rfl,by rw[q]at hd;exact hd,rfl,?_⟩;have h0:Below base w4 (w4.alloc (.cells #[.bool false,.slice none 0 0] 80)):=(Below.refl _ w4).alloc hbs _;exact h0.grown e3 (by omega) (fun j hj=>(World.ownsRow.lt h.row j hj).1)
set_option maxHeartbeats 8000000 in
set_option maxRecDepth 100000 in
theorem a6D(asn:Int)(k:Nat)(a:Option Addr)(m cap:Nat)(w:World)(hC:CallsOk w)(hm:Mid ([]:List Seg))(hv:HV w (fun b=>b<w.heap.size) (.sl tyS) ([]:List Seg) (.slice a m cap))(hp:pvd ([]:List Seg)=true)(hn:num asn=true)(hk:0<k)(hc:k<=64) :
  Calls Tryz.prog 49 #[.slice a m cap,.int .i64 asn,.int .i64 k] w (a3b w a ((false,List.replicate k asn++[])::([]:List Seg)) k):=by
 have e83:∀args w,(callFunc 83 args).run Tryz.prog w=.ok (.enter 83 args) w:=fun args w=>by kernel_rfl
 have e84:∀args w,(callFunc 84 args).run Tryz.prog w=.ok (.enter 84 args) w:=fun args w=>by kernel_rfl
 have e72:∀args w,(callFunc 72 args).run Tryz.prog w=.ok (.enter 72 args) w:=fun args w=>by kernel_rfl
 have e88:∀args w,(callFunc 88 args).run Tryz.prog w=.ok (.enter 88 args) w:=fun args w=>by kernel_rfl
 have e89:∀args w,(callFunc 89 args).run Tryz.prog w=.ok (.enter 89 args) w:=fun args w=>by kernel_rfl
 have e90:∀args w,(callFunc 90 args).run Tryz.prog w=.ok (.enter 90 args) w:=fun args w=>by kernel_rfl
 have h83:=hC.valid _ _ w (Below.refl _ _) hm hv;have h84:=fun W hb=>hC.numb asn W hb
 have h72:=fun W (hb:Below w.heap.size w W)=>hC.flat _ _ W hb hm (a2x hv hb)
 have h88:=fun W (hb:Below w.heap.size w W)=>a3V ([]:List Seg) a m cap W (a2x hv hb) (by have:=hm.1;omega) hm.2
 rw[hp]at h83;rw[hn]at h84;have ht0:tot ([]:List Seg)=0:=rfl;have hw64:IntKind.i64.wrap (64-((tot ([]:List Seg):Nat):Int))=64-((tot ([]:List Seg):Nat):Int):=by rw[IntKind.wrap_i64];omega
 have hc2:¬(((k:Nat):Int)>64-((tot ([]:List Seg):Nat):Int)):=by omega
 have hk0:¬(((k:Nat):Int)<0):=by omega
 have hk1:(((k:Nat):Int)==0)=false:=beq_eq_false_iff_ne.2 (by omega);have hR:∀W:World,Calls Tryz.prog 90 #[.slice (some ⟨W.heap.size,0,none⟩) 1 1,.int .i64 k] (W.alloc (.cells #[.int .i64 asn] 3)) fun r w'=>∃v',r=.returned v'/\w'.ownsRow (W.alloc (.cells #[.int .i64 asn] 3)).heap.size 3 1 v' k (a1f (List.replicate k asn))/\Below (W.alloc (.cells #[.int .i64 asn] 3)).heap.size (W.alloc (.cells #[.int .i64 asn] 3)) w':=
  fun W=>a2f asn k _ _ hk (by omega) (heap_alloc_new W _)
 have hst:∀(w4:World) base g c vs,vs.head?=some (.slice none 0 0)->Deep w4 base (.slice (some ⟨g,0,none⟩) ((false,([]:List Int))::([]:List Seg)).length c) ((false,[])::([]:List Seg)) vs->w4.cell? ⟨g,1,none⟩=some (.slice none 0 0)/\w4.frozen? ⟨g,1,none⟩=false/\g<w4.heap.size:=fun w4 base g c vs hh D=>by
  have hx:0<vs.length:=by rw[D.len];simp
  have e1:=D.row.cellAt 1 (by simp only[List.length_cons];omega);have g1:=a2e (L:=(false,[])::([]:List Seg)) (vs:=vs) (i:=0) D.len hx;simp only[Nat.zero_mul,Nat.zero_add]at g1;rw[g1]at e1;rw[List.head?_eq_getElem?,List.getElem?_eq_getElem hx]at hh;rw[hh]at e1;exact⟨e1,D.row.frozenAt _,(World.ownsRow.lt D.row g rfl).2⟩
 have hI:∀(w4:World) base v vs,Deep w4 base v ([]:List Seg) vs->base<=w4.heap.size->_:=fun w4 base v vs D hb=>a5N D hb
 have hap : ∀ (w4 W6 : World) (v6 u : Value) ty, Below w4.heap.size w4 W6 → W6.ownsRow (w4.alloc (.cells #[.int .i64 asn] 3)).heap.size 3 1 v6 k (a1f (List.replicate k asn)) → u = .slice none 0 0 → (w4.alloc (.cells #[.int .i64 asn] 3)).heap.size ≤ W6.heap.size →
     ∃v' w',(Builtin.append_ #[22,22] ty #[v6,u]).run Tryz.prog W6=.ok v' w'/\(a1J w' w4.heap.size 1 v' (List.replicate k asn++[]).length (a1f (List.replicate k asn++[]))/\Below w4.heap.size w4 w'):=fun w4 W6 v6 u ty hb ho hu hsz=>by
  have hs1:w4.heap.size<=(w4.alloc (.cells #[.int .i64 asn] 3)).heap.size:=by show _<=(w4.heap.push _).size;simp
  have hu6:HC W6 (fun b=>b<W6.heap.size) (.sl (.int .i64)) [] [u]:=.inl ⟨rfl,by rw[hu]⟩;obtain⟨v',w',q1,q2,q3,_⟩:=app_G W6 w4.heap.size v6 (List.replicate k asn) (by rw[List.length_replicate];exact(a2u ho).mono hs1) u [] hu6 hb.size (by rw[List.length_replicate];simp;omega) ty;exact⟨v',w',q1,q2,hb.grown q3 hb.size (fun j hj=>le_trans hs1 (World.ownsRow.lt ho j hj).1)⟩
 have H40:Aside _:=h84;have H14:Aside _:=h72;have H42:Aside _:=h88;have HR:Aside _:=hR;have HS:Aside _:=hst;have HI:Aside _:=hI;have HA:Aside _:=hap;clear hv h84 h72 h88 hR hst hI hap
 go_enter Tryz.func49,Tryz.ntmps49
 go_wp2_with (first
  |(go_at_fn 83;refine h83.mono ?_;rintro r w1 ⟨rfl,hb⟩;have H1:=Lib.hid hb;clear hb)
  |(go_at_fn 84;refine(H40.out _ H1.out).mono ?_;rintro r w2 ⟨rfl,hb⟩;have H2:=Lib.hid (H1.out.trans (hb.mono H1.out.size));clear hb)
  |(go_at_fn 72;refine(H14.out _ H2.out).mono ?_;rintro r w3 ⟨⟨o,c,rfl⟩,hb⟩;have H3:=Lib.hid (H2.out.trans (hb.mono H2.out.size));clear hb)
  |(go_at_fn 88;refine(H42.out _ H3.out).mono ?_;rintro r w4 ⟨v',vs,rfl,hd,hz,hb⟩;obtain⟨o4,c4,rfl⟩:∃o c,v'=.slice o 0 c:=(by rcases hd.row.2 with⟨q,_⟩|⟨g,c,_,q,_⟩;exact⟨none,0,q⟩;exact⟨_,_,q⟩);have H4:=Lib.hid (And.intro hd (H3.out.trans (hb.mono H3.out.size)));have H4s:=Lib.hid hb.size;clear hd hz hb)
  |(go_at_fn 89;refine(HI.out _ _ _ _ H4.out.1 H4s.out).mono ?_;rintro r w5 ⟨g,c5,vs5,rfl,hd,hh,hb⟩;obtain⟨l1,l2,hgw⟩:=HS.out _ _ _ _ _ hh hd;have H5:=Lib.hid (And.intro hd hb);clear hd hh hb))
 have mixed:Tryz.prog.follows Departure.mixedOrders=true:=by kernel_rfl
 have hla:(w5.alloc (.cells #[.int .i64 asn] 3)).cell? ⟨g,1,none⟩=some (.slice none 0 0):=by rw[World.cell?_of_block (w:=w5) (a:=⟨g,1,none⟩) (Go.heap_alloc_old w5 _ hgw)];exact l1
 have HB:Aside (∀w6,Below (w5.alloc (.cells #[.int .i64 asn] 3)).heap.size (w5.alloc (.cells #[.int .i64 asn] 3)) w6->w6.cell? ⟨g,1,none⟩=some (.slice none 0 0)/\Below w5.heap.size w5 w6):=fun w6 hb=>by have hsz:(w5.alloc (.cells #[.int .i64 asn] 3)).heap.size=w5.heap.size+1:=Array.size_push _;have h0:Below w5.heap.size w5 (w5.alloc (.cells #[.int .i64 asn] 3)):=(Below.refl _ w5).alloc (Nat.le_refl _) _;exact⟨by rw[hb.cell (p:=⟨g,1,none⟩) (by rw[hsz];exact Nat.lt_succ_of_lt hgw),hla],h0.trans (hb.mono h0.size)⟩
 have HF:Aside (∀w7,Below w5.heap.size w5 w7->w7.cell? ⟨g,1,none⟩=some (.slice none 0 0)/\w7.frozen? ⟨g,1,none⟩=false):=fun w7 hb=>⟨by rw[hb.cell (p:=⟨g,1,none⟩) hgw];exact l1,by rw[hb.frozen (p:=⟨g,1,none⟩) hgw];exact l2⟩
 clear l2;have HK:Aside (0<k/\k<=100000):=⟨hk,by omega⟩;have HKN:Aside (¬((k:Nat):Int)=0):=(by omega:¬((k:Nat):Int)=0);have HN:Aside ((w5.alloc (.cells #[.int .i64 asn] 3)).drew.heap[w5.heap.size]?=some (.cells #[.int .i64 asn] 3 (0,0))):=heap_alloc_new w5 _
 go_region_law_o (first
     |(go_simp;go_at_fn 90;refine(a2f asn k _ _ HK.out.1 HK.out.2 HN.out).mono ?_;rintro r w6 ⟨v6,rfl,ho,hb⟩;obtain⟨p1,hb6⟩:=HB.out w6 ⟨hb.os,hb.tape,hb.output,hb.size,hb.block⟩;have H6:=Lib.hid (And.intro ho (And.intro (show(w5.alloc (.cells #[.int .i64 asn] 3)).heap.size<=w6.heap.size from hb.size) hb6));clear ho hb hb6)
     |(refine a0Q (by rfl) _ _ 22 22 (by rfl) _ _ (by rfl) (by rfl) (HA.out w5 _ _ _ _ H6.out.2.2 H6.out.1 rfl H6.out.2.1) ?_;rintro v7 w7 ⟨ho7,hb7⟩;obtain⟨o7,m7,c7,rfl⟩:=ho7.shape3;obtain⟨q1,q2⟩:=HF.out w7 hb7;have H7:=Lib.hid (And.intro ho7 hb7);clear ho7 hb7))
 all_goals
  go_wp2
  go_ret2
  unfold a3b;have hb35:Below w.heap.size w w5:=H4.out.2.trans (H5.out.2.mono H3.out.size);obtain⟨f1,f2⟩:=a4q H5.out.1 H7.out.2 H7.out.1 (le_trans H4s.out (le_trans (Nat.le_refl _) H5.out.2.size));refine⟨_,_,rfl,f1.mono H3.out.size,⟨(fun h=>by cases h),fun h=>absurd h.2 HKN.out⟩,(hb35.trans (H7.out.2.mono hb35.size)).grown f2 (le_trans hb35.size H7.out.2.size) (fun j hj=>?_)⟩;cases hj;exact le_trans H3.out.size (World.ownsRow.lt H5.out.1.row g rfl).1
def a7t(x:List Seg×Int×Int):Bool:=midB x.1&&(pvd x.1&&(num x.2.1&&(decide (0<=x.2.2)&&(decide (x.2.2<=64-((tot x.1:Nat):Int))&&(match x.1 with|[]=>true|s::_=>!s.1)))))
def a3e(x:List Seg×Int×Int):Option (List Seg×Int):=if a7t x=true then some (a0M x.1 x.2.1 x.2.2)else none
theorem a5O(L:List Seg)(asn n:Int)(a:Option Addr)(m cap:Nat)(w:World)(hC:CallsOk w)(hm:Mid L)(pv:pvd L=true)(pn:num asn=true)(n0:¬n<0)(hle:n<=64-((tot L:Nat):Int))(hseq:∀s M,L=s::M->s.1=false)(hv:HV w (fun b=>b<w.heap.size) (.sl tyS) L (.slice a m cap)) :
  Calls Tryz.prog 49 #[.slice a m cap,.int .i64 asn,.int .i64 n] w fun r w'=>∃v' vs,r=.returned (.tuple #[v',.int .i64 (a0M L asn n).2])/\Deep w' w.heap.size v' (a0M L asn n).1 vs/\(v'=.slice none 0 0↔(a0M L asn n).2≠0\/(a=none/\n=0))/\((a0M L asn n).2≠0->(a0M L asn n).1=[])/\(∀s∈(a0M L asn n).1,0<s.2.length)/\Below w.heap.size w w':=by
 unfold a0M;rw[if_neg (show ¬(!pvd L||!num asn||decide (n<0))=true from fun h=>by rw[pv,pn,decide_eq_false n0]at h;cases h)];have ne:=pvd_ne pv;have t64:tot L<=64:=by have:=pv;unfold pvd at this;rw[and_eq_true]at this;exact of_decide_eq_true this.2
 have h2:¬n>64-((tot L:Nat):Int):=by omega
 rw[if_neg h2];by_cases h3:n=0
 .subst h3;rw[if_pos rfl];exact(a6w L asn a m cap w hC hm hv pv pn t64).mono fun r w' ⟨v',vs,e1,e2,e3,e4⟩=>⟨v',vs,e1,e2,⟨fun h=>.inr (e3.1 h),fun h=>e3.2 (h.resolve_left fun q=>q rfl)⟩,fun q=>absurd rfl q,ne,e4⟩
 rw[if_neg h3];obtain⟨k,rfl⟩:=Int.eq_ofNat_of_zero_le (show 0<=n by omega);have hk:0<k:=by omega
 have hfin:∀{r:Ending} {w':World},a3b w a (a3U L asn k) k r w'->∃v' vs,r=.returned (.tuple #[v',.int .i64 0])/\Deep w' w.heap.size v' (a3U L asn k) vs/\(v'=.slice none 0 0↔(0:Int)≠0\/(a=none/\((k:Nat):Int)=0))/\((0:Int)≠0->a3U L asn k=[])/\(∀s∈a3U L asn k,0<s.2.length)/\Below w.heap.size w w':=fun{r w'} ⟨v',vs,e1,e2,e3,e4⟩=>⟨v',vs,e1,e2,⟨fun h=>.inr (e3.1 h),fun h=>e3.2 (h.resolve_left fun q=>q rfl)⟩,fun q=>absurd rfl q,(preP_ne ne asn hk).2,e4⟩
 cases L with|nil=>exact(a6D asn k a m cap w hC hm hv pv pn hk (by omega)).mono fun r w' h=>hfin (by rw[List.append_nil]at h;exact h)|cons s L=>
  have hs:s.1=false:=hseq s L rfl;refine(a7o s L asn k a m cap w hC hm hv pv pn hk (by omega) hs).mono fun r w' h=>hfin ?_
  have hpre:a3U (s::L) asn k=(false,List.replicate k asn++s.2)::L:=if_neg (by rw[hs];simp);rw[hpre];exact h
theorem a6E{Ω:World->Prop}:PrimOk Ω Tryz.prog 49 [] (pH [.sl tyS,.int .i64,.int .i64] a3e a3G):=by
 obtain⟨c,hb⟩:∃c,Tryz.f49.body=some c:=⟨_,rfl⟩;refine pH_ok Tryz.func49 hb (by kernel_rfl) (fun vs x r _ _=>a7q nilOr) fun x r hx vs ht w A B cs hΩ hr=>?_
 obtain⟨L,asn,n⟩:=x;unfold a3e at hx;split at hx
 .rename_i hl;cases hx;unfold a7t at hl;simp only[and_eq_true,decide_eq_true_eq]at hl;obtain⟨hl,pv,pn,n0,hle,hq⟩:=hl;have hseq:∀s M,L=s::M->s.1=false:=fun s M e=>by
   subst e;simpa using hq
  have hm:=a5k.1 hl;obtain⟨s,_,rfl,h1,ca,_,rfl,h2,cf,_,rfl,h3,rfl⟩:=a2R ht hr;have h2:[ca]=[.int .i64 asn]:=a1X h2 rfl;have h3:[cf]=[.int .i64 n]:=a1X h3 rfl;cases h2;cases h3;obtain⟨a,m,cap,rfl⟩:=a7r h1;obtain⟨v0,vs0,e0,k1,_⟩:=ht;subst e0;have hnil:(a7p v0=true↔a=none):=by
   cases hr with|cons _ _ _ _ r1 r2=>
   rcases eX k1 with⟨rfl,q⟩|⟨lb,rs,rfl,_⟩
   .have e:=r1.nils_inv;cases e;exact⟨fun _=>rfl,fun _=>rfl⟩
   .obtain⟨ad,cap',xs,e,_⟩:=r1.sl_inv;cases e;exact⟨(fun h=>by cases h),(fun h=>by cases h)⟩
  refine(a5O L asn n a m cap w (callsOk w) hm pv pn (by omega) hle hseq h1).mono fun e w' ⟨v',vs',e1,e2,e3,e4,e5,e6⟩=>⟨[v',.int .i64 (a0M L asn n).2],e1,e6,?_⟩
  unfold a3G;have hiff:(((a0M L asn n).1.isEmpty&&(decide ((a0M L asn n).2≠0)||a7p ((v0::vs0).headD .undef)))=true)↔v'=.slice none 0 0:=by
   rw[e3,and_eq_true,Bool.or_eq_true,decide_eq_true_eq];show _/\(_\/a7p v0=true)↔_;rw[hnil];constructor
   .rintro⟨q1,q2|q2⟩
    .exact .inl q2
    .by_cases h0:(a0M L asn n).2=0
     .refine .inr ⟨q2,?_⟩;have hv0:v'=.slice none 0 0:=by
       have:L=[]:=by
        rcases a1g (a1X h1 rfl)with⟨q,_⟩|⟨_,_,_,q,_⟩
        .exact q
        .cases q;cases q2
       subst this;have hq:(a0M [] asn n).1=[]:=by simpa using q1
       unfold a0M at hq h0;split at h0
       .cases h0
       .split at h0
        .cases h0
        .rename_i g1 g2;rw[if_neg g1,if_neg g2]at hq;split at hq
         .rename_i g3;exact e3.2 (.inr ⟨q2,g3⟩)
         .cases hq
      rcases e3.1 hv0 with q|q
      .exact absurd h0 q
      .exact q.2
     .exact .inl h0
   .rintro(q|⟨q1,q2⟩)
    .exact⟨by rw[e4 q];rfl,.inl q⟩
    .refine⟨?_,.inr q1⟩;have hv0:=e3.2 (.inr ⟨q1,q2⟩);rw[hv0]at e2;rcases e2.row.2 with⟨_,q⟩|⟨_,_,_,q,_⟩
     .rw[List.length_eq_zero_iff.1 q];rfl
     .cases q
  by_cases h0:v'=.slice none 0 0
  .rw[if_pos (hiff.2 h0),h0];exact .cons _ _ _ _ .nils (.cons _ _ _ _ (.int _ _) .nil)
  .rw[if_neg (fun q=>h0 (hiff.1 q))];refine .cons _ _ _ _ (e2.rel (Nat.le_refl _) (fun i hi hi' h=>?_) h0) (.cons _ _ _ _ (.int _ _) .nil);have:=e5 _ (List.getElem_mem hi);rw[h]at this;simp at this
 .cases hx
theorem hPrepD:∀x r,a3e x=some r->∀vs,iQ [.sl tyS,.int .i64,.int .i64] x vs->iQ [.sl tyS,.int .i64] r (a3G vs r)/\∀c∈(a3G vs r).flatMap V.cells,c.bare0:=fun x r _ vs _=>a6x fun h=>by rw[and_eq_true]at h;simpa using h.1
end Go.Proofs.YtgfmodmeimhhpaaGreatDoor
