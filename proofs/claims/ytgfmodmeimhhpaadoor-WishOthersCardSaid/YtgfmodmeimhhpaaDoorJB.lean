/- Walked by hand: what the walks of slices.IndexFunc and slices.DeleteFunc share. -/
import Derived.Test.YtgfmodmeimhhpaaDoorH3
import Derived.Test.YtgfmodmeimhhpaaDoorChecked
import Derived.Laws.CopyRow
import Derived.Laws.IdiomCopy
import Derived.Laws.AppendOwn
import Derived.Laws.NewBlocks
import Derived.Deep.LoopGhost
import Derived.Shelf.SlicesQ.Load
import Derived.Lib.SlBy
import Derived.Shelf.RegionOpenPlain
import Derived.WalkKit
import Derived.Lib.Walk
import Derived.Lib.SliceRun
import Derived.Lib.Hide
import Derived.Lib.OwnBridge
import Derived.Maps.AppendAt
namespace Go.VM
theorem frozen_fz{w:World}{g i:Nat}{cur:Array Value}{t:TypeId}{fr:Nat×Nat}(hg:w.heap[g]?=some (.cells cur t fr))(hf:Fz fr cur.size)(hi:i<cur.size):w.frozen? ⟨g,i,none⟩=false:=by obtain⟨lo,hi'⟩:=fr;simp only[World.frozen?,hg,Bool.and_eq_false_iff,decide_eq_false_iff_not];unfold Fz at hf;simp only at hf;omega
theorem run_clear_fz{P:Program}(w:World)(t e ty:TypeId)(zv:Value)(z g o n c:Nat)(cur:Array Value)(tt:TypeId)(fr:Nat×Nat)(ht:P.underlying t=some (.slice e))(hv:∀w,(zeroValue e).run P w=.ok zv w)(hz:(Builtin.zeroCells zv.cells n).size=n*z)(h1:∀v∈(Builtin.zeroCells zv.cells n).toList,v.oneCell'=true)
  (hg:w.heap[g]?=some (.cells cur tt fr)) (hf:Fz fr cur.size) (hfit:o+n*z<=cur.size) :
  (Builtin.clear_ #[t] ty #[.slice (some ⟨g,o,none⟩) n c]).run P w=.ok (.tuple #[]) (w.setRow g (cur.toList.take o++(Builtin.zeroCells zv.cells n).toList++cur.toList.drop (o+n*z)).toArray):=by
 have hst:=run_storeCells_fz P g o tt fr (Builtin.zeroCells zv.cells n).toList 0 cur w hg hf (by simpa[hz]using hfit) h1;cases n with
 |zero=>
  have h0:(Builtin.zeroCells zv.cells 0).toList=[]:=by rw[<-List.length_eq_zero_iff,Array.length_toList,hz,Nat.zero_mul]
  rw[h0]at hst ⊢;simp only[List.length_nil,Nat.add_zero,List.append_nil,Nat.zero_mul,List.take_append_drop,Array.toArray_toList]at hst ⊢;rw[setRow_self w g cur tt fr hg];simp[Builtin.clear_,run_underlying ht]
 |succ m=>simp only[Nat.add_zero,Array.length_toList,hz]at hst;simp[Builtin.clear_,run_underlying ht,hv,hst]
end Go.VM
namespace Go.Proofs.YtgfmodmeimhhpaaDoor
open Go.RowKit Go.Lib Go.VM
def PredG(f:Nat)(lb:Array Value)(p:List Value->Bool)(ok:World->Prop)(el:List Value->Prop):Prop:=
 ∀(W:World) (x:List Value),ok W->el x->Calls Tryd.prog f (#[.agg x.toArray]++lb) W fun r w'=>r=.returned (.bool (p x))/\Below W.heap.size W w'
theorem flat_len(z:Nat)(xs:List (List Value))(h:∀x∈xs,x.length=z):xs.flatten.length=xs.length*z:=by
 induction xs with|nil=>simp|cons x r ih=>rw[List.flatten_cons,List.length_append,ih fun y hy=>h y (by simp[hy]),h x (by simp),List.length_cons,Nat.add_mul];omega
theorem idx_cases(p:List Value->Bool):∀(l:List (List Value)) (i:Nat),(Lib.idxByFrom (fun _ y=>p y) ([]:List Value) l i=-1/\∀x∈l,p x=false)\/∃k,k<l.length/\Lib.idxByFrom (fun _ y=>p y) ([]:List Value) l i=((i+k:Nat):Int)/\p l[k]! = true/\∀x∈l.take k,p x=false
 |[],_=>.inl ⟨rfl,fun x hx=>by cases hx⟩|y::r,i=>by
  cases h:p y with|true=>exact .inr ⟨0,by simp,by simp[Lib.idxByFrom,h],by simpa using h,fun x hx=>by simp at hx⟩|false=>rcases idx_cases p r (i+1)with⟨e,ha⟩|⟨k,hk,e,ht,ha⟩;exact .inl ⟨by simp[Lib.idxByFrom,h,e],fun x hx=>by rcases List.mem_cons.1 hx with rfl|hx;exact h;exact ha x hx⟩;refine .inr ⟨k+1,by simpa using hk,?_,by simpa using ht,fun x hx=>?_⟩;simp only[Lib.idxByFrom,h];rw[show(if false=true then(i:Int)else Lib.idxByFrom (fun _ y=>p y) ([]:List Value) r (i+1))=Lib.idxByFrom (fun _ y=>p y) ([]:List Value) r (i+1)from rfl,e];congr 1;omega;rw[List.take_succ_cons]at hx;rcases List.mem_cons.1 hx with rfl|hx;exact h;exact ha x hx
theorem grownBy_refl(w:World)(r:Option Nat):w.grownBy w r:=⟨rfl,rfl,rfl,Nat.le_refl _,fun _ _ _=>rfl⟩
theorem grownBy_trans{a b c:World}{r:Option Nat}(h:a.grownBy b r)(k:b.grownBy c r):a.grownBy c r:=⟨k.os.trans h.os,k.tape.trans h.tape,k.output.trans h.output,Nat.le_trans h.size k.size,fun i hi hr=>(k.block i (Nat.lt_of_lt_of_le hi h.size) hr).trans (h.block i hi hr)⟩
theorem grownBy_below{a b:World}{r:Option Nat}(h:Below a.heap.size a b):a.grownBy b r:=⟨h.os,h.tape,h.output,h.size,fun i hi _=>h.block i hi⟩
theorem take_keep{p:List Value->Bool}{xs:List (List Value)}{j:Nat}{x:List Value}(hj:j<xs.length)(hx:xs[j]! = x)(hp:p x=false):((xs.take (j+1)).filter fun x=>!p x)=((xs.take j).filter fun x=>!p x)++[x]:=by rw[List.take_succ_eq_append_getElem hj,List.filter_append];rw[getElem!_pos xs j hj]at hx;rw[hx];simp[hp]
theorem take_skip{p:List Value->Bool}{xs:List (List Value)}{j:Nat}{x:List Value}(hj:j<xs.length)(hx:xs[j]! = x)(hp:p x=true):((xs.take (j+1)).filter fun x=>!p x)=((xs.take j).filter fun x=>!p x):=by rw[List.take_succ_eq_append_getElem hj,List.filter_append];rw[getElem!_pos xs j hj]at hx;rw[hx];simp[hp]
theorem setCell_row(w:World)(g i:Nat)(dk:Array Value)(e:TypeId)(fr:Nat×Nat)(v:Value)(h:w.heap[g]?=some (.cells dk e fr)):(w.setCell ⟨g,i,none⟩ v).heap[g]?=some (.cells (dk.setIfInBounds i v) e fr)/\w.grownBy (w.setCell ⟨g,i,none⟩ v) (some g):=by rw[setCell_eq_setRow w g i dk e fr v h];refine⟨setRow_heap w g dk _ e fr h,rfl,rfl,rfl,?_,fun k hk hne=>?_⟩;show _<=(w.heap.modify g _).size;rw[Array.size_modify];exact Nat.le_refl _;show(w.heap.modify g _)[k]?=_;rw[Array.getElem?_modify,if_neg (fun h=>hne (by rw[h]))]
end Go.Proofs.YtgfmodmeimhhpaaDoor
open List(getElem_mem flatten_cons)
namespace Go.Proofs.YtgfmodmeimhhpaaDoor
namespace HC2
open Go.RowKit Go.Lib Go.VM
set_option maxHeartbeats 4000000 in
set_option maxRecDepth 100000 in
theorem idx_fn(f:Nat)(lb:Array Value)(p:List Value->Bool)(ok:World->Prop)(el:List Value->Prop)(eg:∀args w,(callFunc f args).run Tryd.prog w=.ok (.enter f args) w)(hp:PredG f lb p ok el)
  (g n c:Nat) (xs:List (List Value)) (w:World) (hob:∀W,Below w.heap.size w W->ok W) (hlen:xs.length=n) (hel:∀x∈xs,el x/\x.length=2) (hg:g<w.heap.size) (hn:n<=4294967295)
  (hc:∀j,j<xs.length->∀k v,(xs[j]!)[k]?=some v->w.cell? ⟨g,j*2+k,none⟩=some v) :
  Calls Tryd.prog 82 #[.slice (some ⟨g,0,none⟩) n c,.func (.func f) #[] lb] w fun r w'=>r=.returned (.int .i64 (Lib.idxBy (fun _ y=>p y) xs []))/\Below w.heap.size w w':=by
 have u22:∀w,Sem.run Tryd.prog (underlying 44) w=.ok (TypeDesc.slice 55) w:=run_underlying Tryd.underlying44;have hxl:∀j,j<xs.length->el xs[j]! /\ xs[j]!.length=2:=fun j hj=>by rw[getElem!_pos xs j hj];exact hel _ (getElem_mem _)
 have hrow:∀(W:World),Below w.heap.size w W->∀j,j<xs.length->∃a0 a1,xs[j]! = [a0,a1]/\W.cell? ⟨g,j*2,none⟩=some a0/\W.cell? ⟨g,j*2+1,none⟩=some a1:=fun W hW j hj=>by
  have h2:=(hxl j hj).2;have h3:=hc j hj
  match xs[j]!,h2,h3 with
  |[a0,a1],_,h3=>exact⟨a0,a1,rfl,by rw[hW.cell (p:=⟨g,j*2,none⟩) hg];exact h3 0 a0 rfl,by rw[hW.cell (p:=⟨g,j*2+1,none⟩) hg];exact h3 1 a1 rfl⟩
 have hcall':∀(W:World),Below w.heap.size w W->∀j,j<xs.length->Calls Tryd.prog f (#[.agg (xs[j]!).toArray]++lb) W fun r w'=>r=.returned (.bool (p xs[j]!))/\Below W.heap.size W w':=fun W hW j hj=>hp W _ (hob W hW) (hxl j hj).1
 subst hlen;clear hc hp hob hel hxl
 go_enter Tryd.func82,Tryd.ntmps82
 go_wp2
 go_loopg [5,8] xs.length (fun gg _ s8 wr=>∃kk:Nat,kk<=xs.length/\xs.length-kk<=gg/\s8=.int .i64 kk/\Aside (Below w.heap.size w wr)/\Aside (∀j,j<kk->p xs[j]! = false))
 case atStart=>exact⟨0,Nat.zero_le _,by omega,rfl,Below.refl _ w,fun j hj=>absurd hj (Nat.not_lt_zero _)⟩
 case round=>
  obtain⟨kk,hkk,hgg,rfl,BW,A⟩:=hrel;by_cases hlt:kk<xs.length
  .have hltz:(kk:Int)<(xs.length:Int):=by omega
   obtain⟨a0,a1,hy,l0,l1⟩:=hrow wr BW.out kk (by omega);have hcall:=hcall' wr BW.out kk (by omega);clear hrow hcall';rw[hy]at hcall;have B:Aside (xs[kk]! = [a0,a1]):=hy;clear hy;cases hq:p [a0,a1]with
   |true=>
    rw[hq]at hcall
    go_wp2_with (go_at_fn f;refine hcall.mono ?_;rintro e w' ⟨rfl,hb'⟩)
    go_ret
    refine⟨?_,BW.out.trans (hb'.mono BW.out.size)⟩;have:=Lib.idxBy_hit (fun _ y=>p y) xs xs.length kk [] hlt (Nat.le_refl _) (by show p xs[kk]! = true;rw[B.out];exact hq) A.out;rw[List.take_length]at this;rw[this];rfl
   |false=>
    rw[hq]at hcall
    go_wp2_with (go_at_fn f;refine hcall.mono ?_;rintro e w' ⟨rfl,hb'⟩)
    go_roundg (xs.length-(kk+1))
    case measure=>omega
    case rel=>
     refine⟨kk+1,by omega,by omega,by go_num,BW.out.trans (hb'.mono BW.out.size),(show Aside _ from fun j hj=>?_)⟩;by_cases e:j=kk
     .subst e;rw[B.out];exact hq
     .exact A.out j (by omega)
  .have hltz:¬(kk:Int)<(xs.length:Int):=by omega
   have:kk=xs.length:=by omega
   subst this
   go_wp2
   go_ret
   refine⟨?_,BW.out⟩;have:=Lib.idxBy_miss (fun _ y=>p y) xs xs.length [] A.out;rw[List.take_length]at this;rw[this];rfl
theorem flat_take:∀(xs:List (List Value)) (j:Nat),(∀x∈xs,x.length=2)->xs.flatten.take (j*2)=(xs.take j).flatten
 |[],j,_=>by simp|x::r,0,_=>by simp|x::r,j+1,h=>by have hx:=h x (by simp);rw[flatten_cons,List.take_succ_cons,flatten_cons,<-flat_take r j fun y hy=>h y (by simp[hy]),show(j+1)*2=x.length+j*2 by omega,List.take_append,List.take_of_length_le (by omega),Nat.add_sub_cancel_left]
theorem flat_get(xs:List (List Value))(h:∀x∈xs,x.length=2)(j k:Nat)(hj:j<xs.length)(hk:k<2):xs.flatten[j*2+k]?=(xs[j])[k]?:=by
 induction xs generalizing j with|nil=>simp at hj|cons x r ih=>
  have hx:=h x (by simp);rw[flatten_cons];cases j with
  |zero=>rw[List.getElem?_append_left (by omega)];simp|succ j=>rw[List.getElem?_append_right (by omega),show(j+1)*2+k-x.length=j*2+k by omega,ih (fun y hy=>h y (by simp[hy])) j (by simpa using hj)];simp
structure DelInv(p:List Value->Bool)(xs:List (List Value))(cur:Array Value)(g:Nat)(e:TypeId)(fr:Nat×Nat)(w wr:World)(i j:Nat):Prop where
 gr:w.grownBy wr (some g)
 row:∃dk:Array Value,wr.heap[g]?=some (.cells dk e fr)/\dk.size=cur.size/\dk.toList.take (i*2)=((xs.take j).filter fun x=>!p x).flatten/\∀k,j*2<=k->dk[k]?=cur[k]?
 ij:i=((xs.take j).filter fun x=>!p x).length/\i<j
theorem DelInv.skip{p:List Value->Bool}{xs:List (List Value)}{cur:Array Value}{g:Nat}{e:TypeId}{fr:Nat×Nat}{w wr w1:World}{i j:Nat}{x:List Value}(h:DelInv p xs cur g e fr w wr i j)(hj:j<xs.length)(hx:xs[j]! = x)(hp:p x=true)
  (hgr:wr.grownBy w1 (some g)) (hg:w1.heap[g]?=wr.heap[g]?):DelInv p xs cur g e fr w w1 i (j+1):=by
 obtain⟨gr,⟨dk,d1,d2,d3,d4⟩,d5,d6⟩:=h;exact⟨grownBy_trans gr hgr,⟨dk,by rw[hg];exact d1,d2,by rw[take_skip hj hx hp];exact d3,fun k hk=>d4 k (by omega)⟩,by rw[take_skip hj hx hp];exact d5,by omega⟩
theorem DelInv.keep{p:List Value->Bool}{xs:List (List Value)}{cur:Array Value}{g:Nat}{e:TypeId}{fr:Nat×Nat}{w wr w1:World}{i j:Nat}{a0 a1:Value}(h:DelInv p xs cur g e fr w wr i j)(hj:j<xs.length)(hx:xs[j]! = [a0,a1])(hp:p [a0,a1]=false)
  (hgr:wr.grownBy w1 (some g)) (hg:w1.heap[g]?=wr.heap[g]?) (hcs:xs.length*2<=cur.size):DelInv p xs cur g e fr w ((w1.setCell ⟨g,i*2,none⟩ a0).setCell ⟨g,i*2+1,none⟩ a1) (i+1) (j+1):=by
 obtain⟨gr,⟨dk,d1,d2,d3,d4⟩,d5,d6⟩:=h;have r0:w1.heap[g]?=some (.cells dk e fr):=by rw[hg];exact d1
 obtain⟨r1,q1⟩:=setCell_row _ g (i*2) _ e fr a0 r0;obtain⟨r2,q2⟩:=setCell_row _ g (i*2+1) _ e fr a1 r1;refine⟨grownBy_trans gr (grownBy_trans hgr (grownBy_trans q1 q2)),⟨_,r2,by simp[d2],?_,fun k hk=>?_⟩,?_,by omega⟩
 .rw[take_keep hj hx hp,List.flatten_append,<-d3];have hlt:i*2+1<dk.toList.length:=by rw[Array.length_toList];omega
  simp only[Array.toList_setIfInBounds,flatten_cons,List.flatten_nil,List.append_nil];apply List.ext_getElem?;intro k;simp only[List.getElem?_take,List.getElem?_set,List.length_set,List.getElem?_append,List.length_take];have hmin:min (i*2) dk.toList.length=i*2:=Nat.min_eq_left (by omega);rw[hmin];by_cases h1:k<i*2
  .rw[if_pos (by omega),if_neg (by omega),if_neg (by omega),if_pos h1,if_pos h1]
  .by_cases h2:k=i*2
   .subst h2;rw[if_pos (by omega),if_neg (by omega),if_pos rfl,if_pos (by omega),if_neg h1,Nat.sub_self];rfl
   .by_cases h3:k=i*2+1
    .subst h3;rw[if_pos (by omega),if_pos rfl,if_pos (by omega),if_neg h1,show i*2+1-i*2=1 by omega];rfl
    .rw[if_neg (by omega),if_neg h1,List.getElem?_eq_none (by simp;omega)]
 .have hk0:i*2≠k:=by omega
  have hk1:i*2+1≠k:=by omega
  simp only[Array.getElem?_setIfInBounds,hk0,hk1,if_false];exact d4 k (by omega)
 .rw[take_keep hj hx hp,List.length_append,<-d5];rfl
set_option maxHeartbeats 4000000 in
set_option maxRecDepth 100000 in
theorem del_fn(f:Nat)(lb:Array Value)(p:List Value->Bool)(ok:World->Prop)(el:List Value->Prop)(eg:∀args w,(callFunc f args).run Tryd.prog w=.ok (.enter f args) w)(hp:PredG f lb p ok el)
  (g n c:Nat) (cur:Array Value) (e:TypeId) (fr:Nat×Nat) (xs:List (List Value)) (w:World) (hob:∀W,w.grownBy W (some g)->ok W) (hlen:xs.length=n) (hel:∀x∈xs,el x/\x.length=2/\∀v∈x,∃y:Int,v=.int .i64 y) (hn:n<=4294967295)
  (hg:w.heap[g]?=some (.cells cur e fr)) (hfz:Fz fr cur.size) (hcs:cur.size=c*2) (hnc:n<=c) (hx:cur.toList.take (n*2)=xs.flatten) :
  Calls Tryd.prog 53 #[.slice (some ⟨g,0,none⟩) n c,.func (.func f) #[] lb] w fun r w'=>r=.returned (.slice (some ⟨g,0,none⟩) (xs.filter fun x=>!p x).length c)/\w.grownBy w' (some g)/\
   ∃cur':Array Value,w'.heap[g]?=some (.cells cur' e fr)/\cur'.size=c*2/\cur'.toList.take ((xs.filter fun x=>!p x).length*2)=(xs.filter fun x=>!p x).flatten:=by
 have u22:∀w,Sem.run Tryd.prog (underlying 44) w=.ok (TypeDesc.slice 55) w:=run_underlying Tryd.underlying44;have e99:∀args w,(callFunc 82 args).run Tryd.prog w=.ok (.enter 82 args) w:=fun args w=>by kernel_rfl
 have hl2:∀x∈xs,x.length=2:=fun x hx=>(hel x hx).2.1
 have hxl:∀j,j<xs.length->el xs[j]! /\ xs[j]!.length=2:=fun j hj=>by rw[getElem!_pos xs j hj];exact⟨(hel _ (getElem_mem _)).1,hl2 _ (getElem_mem _)⟩
 have hgw:g<w.heap.size:=(Array.getElem?_eq_some_iff.1 hg).1;have hcell:∀j,j<xs.length->∀k v,(xs[j]!)[k]?=some v->w.cell? ⟨g,j*2+k,none⟩=some v:=fun j hj k v hk=>by
  have hk2:k<2:=by have:=(List.getElem?_eq_some_iff.1 hk).1;rw[(hxl j hj).2]at this;exact this
  have h1:=flat_get xs hl2 j k hj hk2;rw[<-hx,List.getElem?_take,if_pos (by omega)]at h1;rw[getElem!_pos xs j hj]at hk;simp only[World.cell?,hg];simpa[hk]using h1
 have hIF:=idx_fn f lb p ok el eg hp g n c xs w (fun W hW=>hob W (grownBy_below hW)) hlen (fun x hx=>⟨(hel x hx).1,hl2 x hx⟩) hgw hn hcell;rcases idx_cases p xs 0 with⟨e1,hall⟩|⟨k0,hk0,e1,ht,hall⟩
 .have e2:Lib.idxBy (fun _ y=>p y) xs []=-1:=e1;rw[e2]at hIF;have hfil:(xs.filter fun x=>!p x)=xs:=List.filter_eq_self.2 fun x hx=>by rw[hall x hx];rfl
  rw[hfil,hlen];have X:=Lib.hid (And.intro hg (And.intro hcs hx));clear hg hcs hx hcell hob hp hl2 hel hxl e1 e2 hall hfil hlen hfz
  go_enter Tryd.func53,Tryd.ntmps53
  go_wp2_with (go_at_fn 82;refine hIF.mono ?_;rintro r w' ⟨rfl,hb'⟩)
  go_ret
  exact⟨rfl,grownBy_below hb',cur,by rw[hb'.block g hgw];exact X.out.1,X.out.2.1,X.out.2.2⟩
 .have e2:Lib.idxBy (fun _ y=>p y) xs []=(k0:Int):=by unfold Lib.idxBy;rw[e1];simp
  rw[e2]at hIF;subst hlen;have hk0f:((xs.take (k0+1)).filter fun x=>!p x)=xs.take k0:=by rw[List.take_succ_eq_append_getElem hk0,List.filter_append,List.filter_eq_self.2 fun x hx=>by rw[hall x hx];rfl];rw[getElem!_pos xs k0 hk0]at ht;simp[ht]
  have hst:∀wr:World,Below w.heap.size w wr->DelInv p xs cur g e fr w wr k0 (k0+1):=fun wr hb=>by refine⟨grownBy_below hb,⟨cur,by rw[hb.block g hgw];exact hg,rfl,?_,fun k _=>rfl⟩,by rw[hk0f];simp;omega⟩;rw[hk0f,<-flat_take xs k0 hl2,<-hx,List.take_take];congr 1;omega
  have hrd:∀(wr:World) (i j:Nat),DelInv p xs cur g e fr w wr i j->j<xs.length->∃(a0 a1:Int) (o0 o1:Value),xs[j]! = [.int .i64 a0,.int .i64 a1]/\wr.cell? ⟨g,j*2,none⟩=some (.int .i64 a0)/\wr.cell? ⟨g,j*2+1,none⟩=some (.int .i64 a1)/\wr.cell? ⟨g,i*2,none⟩=some o0/\wr.cell? ⟨g,i*2+1,none⟩=some o1/\wr.frozen? ⟨g,i*2,none⟩=false/\wr.frozen? ⟨g,i*2+1,none⟩=false/\g<wr.heap.size:=fun wr i j hI hj=>by
   obtain⟨gr,⟨dk,d1,d2,d3,d4⟩,d5,d6⟩:=hI;have hjs:j*2+1<dk.size:=by rw[d2,hcs];omega
   have hc0:∀k v,(xs[j]!)[k]?=some v->dk[j*2+k]?=some v:=fun k v hk=>by have h1:=hcell j hj k v hk;rw[d4 _ (by omega)];simpa[World.cell?,hg]using h1
   have hone:∀v∈xs[j]!,∃y:Int,v=.int .i64 y:=by rw[getElem!_pos xs j hj];exact(hel _ (getElem_mem _)).2.2
   have h2:=(hxl j hj).2
   match hxj:xs[j]!,h2,hc0,hone with
   |[a0,a1],_,hc0,hone=>
    obtain⟨a0,rfl⟩:=hone a0 (by simp);obtain⟨a1,rfl⟩:=hone a1 (by simp);refine⟨a0,a1,dk[i*2]'(by omega),dk[i*2+1]'(by omega),rfl,?_,?_,?_,?_,frozen_fz d1 (by rw[d2];exact hfz) (by omega),frozen_fz d1 (by rw[d2];exact hfz) (by omega),(Array.getElem?_eq_some_iff.1 d1).1⟩
    .simp only[World.cell?,d1];exact hc0 0 _ rfl
    .simp only[World.cell?,d1];exact hc0 1 _ rfl
    .simp only[World.cell?,d1];exact Array.getElem?_eq_getElem _
    .simp only[World.cell?,d1];exact Array.getElem?_eq_getElem _
  have hpc:∀(wr W:World) (i j:Nat),DelInv p xs cur g e fr w wr i j->wr.grownBy W (some g)->j<xs.length->Calls Tryd.prog f (#[.agg (xs[j]!).toArray]++lb) W fun r w'=>r=.returned (.bool (p xs[j]!))/\Below W.heap.size W w':=fun wr W i j hI hW hj=>hp W _ (hob W (grownBy_trans hI.gr hW)) (hxl j hj).1
  have HD:Aside (cur.size=c*2/\xs.length<=c/\Fz fr cur.size):=⟨hcs,hnc,hfz⟩;have HL:Aside (xs.length*2<=cur.size):=by show _<=_;omega
  have HS:Aside _:=hst;have HR:Aside _:=hrd;have HP:Aside _:=hpc;have HX:Aside _:=hxl;clear hst hrd hpc hx hxl hcell hob hp hel hl2 e1 e2 hall ht hk0f hg hcs hfz
  go_enter Tryd.func53,Tryd.ntmps53
  go_wp2_with (go_at_fn 82;refine hIF.mono ?_;rintro r w' ⟨rfl,hb0⟩)
  go_loopg [5,6,7] xs.length (fun gg s5 s6 _ wr=>∃(i j:Nat),s5=.int .i64 i/\s6=.int .i64 j/\j<=xs.length/\xs.length-j<=gg/\Aside (DelInv p xs cur g e fr w wr i j))
  case atStart=>exact⟨k0,k0+1,rfl,by go_num,by omega,by omega,HS.out _ hb0⟩
  case round=>
   obtain⟨i,j,rfl,rfl,hjd,hgg,I⟩:=hrel;by_cases hlt:j<xs.length
   .have hltz:(j:Int)<(xs.length:Int):=by omega
    have hij:i<j:=I.out.ij.2;obtain⟨a0,a1,o0,o1,hy,l0,l1,l2,l3,l4,l5,hgr⟩:=HR.out wr i j I.out hlt;have hgrW:wr.grownBy (wr.alloc (.cells #[.int .i64 a0,.int .i64 a1] 55)) (some g):=grownBy_below ((Below.refl _ _).alloc (Nat.le_refl _) _);have hcall:=HP.out wr _ i j I.out hgrW hlt;rw[hy]at hcall;have B:Aside (xs[j]! = [.int .i64 a0,.int .i64 a1]):=hy;have hcl:∀w1,Below (wr.alloc (.cells #[.int .i64 a0,.int .i64 a1] 55)).heap.size (wr.alloc (.cells #[.int .i64 a0,.int .i64 a1] 55)) w1->w1.cell? ⟨wr.heap.size,0,none⟩=some (.int .i64 a0)/\w1.cell? ⟨wr.heap.size,1,none⟩=some (.int .i64 a1)/\w1.cell? ⟨g,i*2,none⟩=some o0/\w1.cell? ⟨g,i*2+1,none⟩=some o1/\w1.frozen? ⟨g,i*2,none⟩=false/\w1.frozen? ⟨g,i*2+1,none⟩=false:=fun w1 hb=>by
     have hsz:(wr.alloc (.cells #[.int .i64 a0,.int .i64 a1] 55)).heap.size=wr.heap.size+1:=Array.size_push _;have hc:∀o,(wr.alloc (.cells #[.int .i64 a0,.int .i64 a1] 55)).cell? ⟨g,o,none⟩=wr.cell? ⟨g,o,none⟩:=fun o=>World.cell?_of_block (Go.heap_alloc_old wr _ hgr)
     have hf:∀o,(wr.alloc (.cells #[.int .i64 a0,.int .i64 a1] 55)).frozen? ⟨g,o,none⟩=wr.frozen? ⟨g,o,none⟩:=fun o=>World.frozen?_of_block (Go.heap_alloc_old wr _ hgr)
     have hn0:=World.cell?_alloc_at (w:=wr) #[.int .i64 a0,.int .i64 a1] 55 wr.heap.size 0 rfl;have hn1:=World.cell?_alloc_at (w:=wr) #[.int .i64 a0,.int .i64 a1] 55 wr.heap.size 1 rfl;exact⟨by rw[hb.cell (p:=⟨wr.heap.size,0,none⟩) (by rw[hsz];exact Nat.lt_succ_self _),hn0];rfl,by rw[hb.cell (p:=⟨wr.heap.size,1,none⟩) (by rw[hsz];exact Nat.lt_succ_self _),hn1];rfl,by rw[hb.cell (p:=⟨g,i*2,none⟩) (by rw[hsz];exact Nat.lt_succ_of_lt hgr),hc];exact l2,by rw[hb.cell (p:=⟨g,i*2+1,none⟩) (by rw[hsz];exact Nat.lt_succ_of_lt hgr),hc];exact l3,by rw[hb.frozen (p:=⟨g,i*2,none⟩) (by rw[hsz];exact Nat.lt_succ_of_lt hgr),hf];exact l4,by rw[hb.frozen (p:=⟨g,i*2+1,none⟩) (by rw[hsz];exact Nat.lt_succ_of_lt hgr),hf];exact l5⟩
    have HC:Aside _:=hcl;have HG:Aside _:=hgrW;have HN:Aside (g<(wr.alloc (.cells #[.int .i64 a0,.int .i64 a1] 55)).heap.size/\(wr.alloc (.cells #[.int .i64 a0,.int .i64 a1] 55)).heap[g]?=wr.heap[g]?):=⟨Nat.lt_of_lt_of_le hgr (Nat.le_of_lt (by show _<(wr.heap.push _).size;rw[Array.size_push];exact Nat.lt_succ_self _)),Go.heap_alloc_old wr _ hgr⟩;clear hy hcl l2 l3 l4 l5 hgrW;cases hq:p [.int .i64 a0,.int .i64 a1]with
    |false=>
     rw[hq]at hcall
     go_wp2_with (go_at_fn f;refine hcall.mono ?_;rintro r w1 ⟨rfl,hb1⟩;obtain⟨m0,m1,m2,m3,m4,m5⟩:=HC.out w1 hb1)
     go_roundg (xs.length-(j+1))
     case measure=>omega
     case rel=>refine⟨i+1,j+1,by go_num,by go_num,by omega,Nat.le_refl _,(show Aside _ from ?_)⟩;exact I.out.keep hlt B.out hq (grownBy_trans HG.out (grownBy_below hb1)) (by rw[hb1.block g HN.out.1];exact HN.out.2) HL.out
    |true=>
     rw[hq]at hcall
     go_wp2_with (go_at_fn f;refine hcall.mono ?_;rintro r w1 ⟨rfl,hb1⟩;obtain⟨m0,m1,m2,m3,m4,m5⟩:=HC.out w1 hb1)
     go_roundg (xs.length-(j+1))
     case measure=>omega
     case rel=>exact⟨i,j+1,rfl,by go_num,by omega,Nat.le_refl _,(show Aside _ from I.out.skip hlt B.out hq (grownBy_trans HG.out (grownBy_below hb1)) (by rw[hb1.block g HN.out.1];exact HN.out.2))⟩
   .obtain rfl:j=xs.length:=by omega
    have hltz:¬(xs.length:Int)<(xs.length:Int):=by omega
    obtain⟨gr,⟨dk,d1,d2,d3,d4⟩,d5,d6⟩:=I.out;rw[List.take_length]at d3 d5;have hdc:dk.size=c*2:=by rw[d2];exact HD.out.1
    have hnc:=HD.out.2.1;have hci:¬(c=i):=by omega
    have hin:i<=xs.length:=by omega
    obtain⟨dk',hdk'⟩:∃dk':Array Value,dk'=(dk.toList.take (i*2)++(Builtin.zeroCells (Value.agg #[.int .i64 0,.int .i64 0]).cells (xs.length-i)).toList++dk.toList.drop (i*2+(xs.length-i)*2)).toArray:=⟨_,rfl⟩;have hzs:(Builtin.zeroCells (Value.agg #[.int .i64 0,.int .i64 0]).cells (xs.length-i)).size=(xs.length-i)*2:=by simp[Builtin.zeroCells,Value.cells]
    have hcl:∀ty,(Builtin.clear_ #[44] ty #[.slice (some ⟨g,i*2,none⟩) (xs.length-i) (c-i)]).run Tryd.prog wr=.ok (.tuple #[]) (wr.setRow g dk'):=fun ty=>by
     have:=run_clear_fz (P:=Tryd.prog) wr 44 55 ty (.agg #[.int .i64 0,.int .i64 0]) 2 g (i*2) (xs.length-i) (c-i) dk e fr Tryd.underlying44 (fun w=>by kernel_rfl) hzs (fun v hv=>by
      have:∀v∈(Builtin.zeroCells (Value.agg #[.int .i64 0,.int .i64 0]).cells (xs.length-i)).toList,v=.int .i64 0:=by
       intro v hv;simp only[Builtin.zeroCells,Value.cells,Array.toList_map,List.mem_map]at hv;obtain⟨k,_,rfl⟩:=hv;have hk:k%2=0\/k%2=1:=by omega
       show(#[Value.int .i64 0,Value.int .i64 0])[k%2]! = _;rcases hk with hk|hk<;>rw[hk]<;>rfl
      rw[this v hv];rfl) d1 (by rw[d2];exact HD.out.2.2) (by omega)
     rw[this,<-hdk']
    have hd's:dk'.size=c*2:=by rw[hdk'];simp[hzs];omega
    have hd't:dk'.toList.take (i*2)=dk.toList.take (i*2):=by rw[hdk'];simp only[List.append_assoc];rw[List.take_append_of_le_length (by rw[List.length_take,Array.length_toList];omega),List.take_take,Nat.min_self]
    have X:Aside (w.grownBy (wr.setRow g dk') (some g)/\(wr.setRow g dk').heap[g]?=some (.cells dk' e fr)/\dk'.size=c*2/\i=(xs.filter fun x=>!p x).length/\dk'.toList.take (i*2)=(xs.filter fun x=>!p x).flatten):=by
     refine⟨grownBy_trans gr ⟨rfl,rfl,rfl,?_,fun k hk hne=>?_⟩,setRow_heap wr g dk dk' e fr d1,hd's,d5,by rw[hd't];exact d3⟩
     .show _<=(wr.heap.modify g _).size;rw[Array.size_modify];exact Nat.le_refl _
     .show(wr.heap.modify g _)[k]?=_;rw[Array.getElem?_modify,if_neg (fun h=>hne (by rw[h]))]
    clear d1 d2 d3 d4 d5 hdc hdk' hzs hd's hd't gr
    go_wp2
    go_ret
    obtain⟨x1,x2,x3,x4,x5⟩:=X.out;exact⟨by rw[<-x4];rfl,x1,dk',x2,x3,by rw[<-x4];exact x5⟩
end HC2
end Go.Proofs.YtgfmodmeimhhpaaDoor
open List(getElem_mem flatten_cons)
open Nat(lt_succ_of_lt)
namespace Go.Proofs.YtgfmodmeimhhpaaDoor
namespace HC3
open Go.RowKit Go.Lib Go.VM
set_option maxHeartbeats 4000000 in
set_option maxRecDepth 100000 in
theorem idx_fn(f:Nat)(lb:Array Value)(p:List Value->Bool)(ok:World->Prop)(el:List Value->Prop)(eg:∀args w,(callFunc f args).run Tryd.prog w=.ok (.enter f args) w)(hp:PredG f lb p ok el)
  (g n c:Nat) (xs:List (List Value)) (w:World) (hob:∀W,Below w.heap.size w W->ok W) (hlen:xs.length=n) (hel:∀x∈xs,el x/\x.length=3) (hg:g<w.heap.size) (hn:n<=4294967295)
  (hc:∀j,j<xs.length->∀k v,(xs[j]!)[k]?=some v->w.cell? ⟨g,j*3+k,none⟩=some v) :
  Calls Tryd.prog 83 #[.slice (some ⟨g,0,none⟩) n c,.func (.func f) #[] lb] w fun r w'=>r=.returned (.int .i64 (Lib.idxBy (fun _ y=>p y) xs []))/\Below w.heap.size w w':=by
 have u22:∀w,Sem.run Tryd.prog (underlying 45) w=.ok (TypeDesc.slice 57) w:=run_underlying Tryd.underlying45;have hxl:∀j,j<xs.length->el xs[j]! /\ xs[j]!.length=3:=fun j hj=>by rw[getElem!_pos xs j hj];exact hel _ (getElem_mem _)
 have hrow:∀(W:World),Below w.heap.size w W->∀j,j<xs.length->∃a0 a1 a2,xs[j]! = [a0,a1,a2]/\W.cell? ⟨g,j*3,none⟩=some a0/\W.cell? ⟨g,j*3+1,none⟩=some a1/\W.cell? ⟨g,j*3+2,none⟩=some a2:=fun W hW j hj=>by
  have h2:=(hxl j hj).2;have h3:=hc j hj
  match xs[j]!,h2,h3 with
  |[a0,a1,a2],_,h3=>exact⟨a0,a1,a2,rfl,by rw[hW.cell (p:=⟨g,j*3,none⟩) hg];exact h3 0 a0 rfl,by rw[hW.cell (p:=⟨g,j*3+1,none⟩) hg];exact h3 1 a1 rfl,by rw[hW.cell (p:=⟨g,j*3+2,none⟩) hg];exact h3 2 a2 rfl⟩
 have hcall':∀(W:World),Below w.heap.size w W->∀j,j<xs.length->Calls Tryd.prog f (#[.agg (xs[j]!).toArray]++lb) W fun r w'=>r=.returned (.bool (p xs[j]!))/\Below W.heap.size W w':=fun W hW j hj=>hp W _ (hob W hW) (hxl j hj).1
 subst hlen;clear hc hp hob hel hxl
 go_enter Tryd.func83,Tryd.ntmps83
 go_wp2
 go_loopg [5,8] xs.length (fun gg _ s8 wr=>∃kk:Nat,kk<=xs.length/\xs.length-kk<=gg/\s8=.int .i64 kk/\Aside (Below w.heap.size w wr)/\Aside (∀j,j<kk->p xs[j]! = false))
 case atStart=>exact⟨0,Nat.zero_le _,by omega,rfl,Below.refl _ w,fun j hj=>absurd hj (Nat.not_lt_zero _)⟩
 case round=>
  obtain⟨kk,hkk,hgg,rfl,BW,A⟩:=hrel;by_cases hlt:kk<xs.length
  .have hltz:(kk:Int)<(xs.length:Int):=by omega
   obtain⟨a0,a1,a2,hy,l0,l1,l2⟩:=hrow wr BW.out kk (by omega);have hcall:=hcall' wr BW.out kk (by omega);clear hrow hcall';rw[hy]at hcall;have B:Aside (xs[kk]! = [a0,a1,a2]):=hy;clear hy;cases hq:p [a0,a1,a2]with
   |true=>
    rw[hq]at hcall
    go_wp2_with (go_at_fn f;refine hcall.mono ?_;rintro e w' ⟨rfl,hb'⟩)
    go_ret
    refine⟨?_,BW.out.trans (hb'.mono BW.out.size)⟩;have:=Lib.idxBy_hit (fun _ y=>p y) xs xs.length kk [] hlt (Nat.le_refl _) (by show p xs[kk]! = true;rw[B.out];exact hq) A.out;rw[List.take_length]at this;rw[this];rfl
   |false=>
    rw[hq]at hcall
    go_wp2_with (go_at_fn f;refine hcall.mono ?_;rintro e w' ⟨rfl,hb'⟩)
    go_roundg (xs.length-(kk+1))
    case measure=>omega
    case rel=>
     refine⟨kk+1,by omega,by omega,by go_num,BW.out.trans (hb'.mono BW.out.size),(show Aside _ from fun j hj=>?_)⟩;by_cases e:j=kk
     .subst e;rw[B.out];exact hq
     .exact A.out j (by omega)
  .have hltz:¬(kk:Int)<(xs.length:Int):=by omega
   have:kk=xs.length:=by omega
   subst this
   go_wp2
   go_ret
   refine⟨?_,BW.out⟩;have:=Lib.idxBy_miss (fun _ y=>p y) xs xs.length [] A.out;rw[List.take_length]at this;rw[this];rfl
theorem flat_take:∀(xs:List (List Value)) (j:Nat),(∀x∈xs,x.length=3)->xs.flatten.take (j*3)=(xs.take j).flatten
 |[],j,_=>by simp|x::r,0,_=>by simp|x::r,j+1,h=>by have hx:=h x (by simp);rw[flatten_cons,List.take_succ_cons,flatten_cons,<-flat_take r j fun y hy=>h y (by simp[hy]),show(j+1)*3=x.length+j*3 by omega,List.take_append,List.take_of_length_le (by omega),Nat.add_sub_cancel_left]
theorem flat_get(xs:List (List Value))(h:∀x∈xs,x.length=3)(j k:Nat)(hj:j<xs.length)(hk:k<3):xs.flatten[j*3+k]?=(xs[j])[k]?:=by
 induction xs generalizing j with|nil=>simp at hj|cons x r ih=>
  have hx:=h x (by simp);rw[flatten_cons];cases j with
  |zero=>rw[List.getElem?_append_left (by omega)];simp|succ j=>rw[List.getElem?_append_right (by omega),show(j+1)*3+k-x.length=j*3+k by omega,ih (fun y hy=>h y (by simp[hy])) j (by simpa using hj)];simp
structure DelInv(p:List Value->Bool)(xs:List (List Value))(cur:Array Value)(g:Nat)(e:TypeId)(fr:Nat×Nat)(w wr:World)(i j:Nat):Prop where
 gr:w.grownBy wr (some g)
 row:∃dk:Array Value,wr.heap[g]?=some (.cells dk e fr)/\dk.size=cur.size/\dk.toList.take (i*3)=((xs.take j).filter fun x=>!p x).flatten/\∀k,j*3<=k->dk[k]?=cur[k]?
 ij:i=((xs.take j).filter fun x=>!p x).length/\i<j
theorem DelInv.skip{p:List Value->Bool}{xs:List (List Value)}{cur:Array Value}{g:Nat}{e:TypeId}{fr:Nat×Nat}{w wr w1:World}{i j:Nat}{x:List Value}(h:DelInv p xs cur g e fr w wr i j)(hj:j<xs.length)(hx:xs[j]! = x)(hp:p x=true)
  (hgr:wr.grownBy w1 (some g)) (hg:w1.heap[g]?=wr.heap[g]?):DelInv p xs cur g e fr w w1 i (j+1):=by
 obtain⟨gr,⟨dk,d1,d2,d3,d4⟩,d5,d6⟩:=h;exact⟨grownBy_trans gr hgr,⟨dk,by rw[hg];exact d1,d2,by rw[take_skip hj hx hp];exact d3,fun k hk=>d4 k (by omega)⟩,by rw[take_skip hj hx hp];exact d5,by omega⟩
theorem DelInv.keep{p:List Value->Bool}{xs:List (List Value)}{cur:Array Value}{g:Nat}{e:TypeId}{fr:Nat×Nat}{w wr w1:World}{i j:Nat}{a0 a1 a2:Value}(h:DelInv p xs cur g e fr w wr i j)(hj:j<xs.length)(hx:xs[j]! = [a0,a1,a2])(hp:p [a0,a1,a2]=false)
  (hgr:wr.grownBy w1 (some g)) (hg:w1.heap[g]?=wr.heap[g]?) (hcs:xs.length*3<=cur.size):DelInv p xs cur g e fr w (((w1.setCell ⟨g,i*3,none⟩ a0).setCell ⟨g,i*3+1,none⟩ a1).setCell ⟨g,i*3+2,none⟩ a2) (i+1) (j+1):=by
 obtain⟨gr,⟨dk,d1,d2,d3,d4⟩,d5,d6⟩:=h;have r0:w1.heap[g]?=some (.cells dk e fr):=by rw[hg];exact d1
 obtain⟨r1,q1⟩:=setCell_row _ g (i*3) _ e fr a0 r0;obtain⟨r2,q2⟩:=setCell_row _ g (i*3+1) _ e fr a1 r1;obtain⟨r3,q3⟩:=setCell_row _ g (i*3+2) _ e fr a2 r2;refine⟨grownBy_trans gr (grownBy_trans hgr (grownBy_trans q1 (grownBy_trans q2 q3))),⟨_,r3,by simp[d2],?_,fun k hk=>?_⟩,?_,by omega⟩
 .rw[take_keep hj hx hp,List.flatten_append,<-d3];have hlt:i*3+2<dk.toList.length:=by rw[Array.length_toList];omega
  simp only[Array.toList_setIfInBounds,flatten_cons,List.flatten_nil,List.append_nil];apply List.ext_getElem?;intro k;simp only[List.getElem?_take,List.getElem?_set,List.length_set,List.getElem?_append,List.length_take];have hmin:min (i*3) dk.toList.length=i*3:=Nat.min_eq_left (by omega);rw[hmin];by_cases h1:k<i*3
  .rw[if_pos (by omega),if_neg (by omega),if_neg (by omega),if_neg (by omega),if_pos h1,if_pos h1]
  .by_cases h2:k=i*3
   .subst h2;rw[if_pos (by omega),if_neg (by omega),if_neg (by omega),if_pos rfl,if_pos (by omega),if_neg h1,Nat.sub_self];rfl
   .by_cases h3:k=i*3+1
    .subst h3;rw[if_pos (by omega),if_neg (by omega),if_pos rfl,if_pos (by omega),if_neg h1,show i*3+1-i*3=1 by omega];rfl
    .by_cases h4:k=i*3+2
     .subst h4;rw[if_pos (by omega),if_pos rfl,if_pos (by omega),if_neg h1,show i*3+2-i*3=2 by omega];rfl
     .rw[if_neg (by omega),if_neg h1,List.getElem?_eq_none (by simp;omega)]
 .have hk0:i*3≠k:=by omega
  have hk1:i*3+1≠k:=by omega
  have hk2:i*3+2≠k:=by omega
  simp only[Array.getElem?_setIfInBounds,hk0,hk1,hk2,if_false];exact d4 k (by omega)
 .rw[take_keep hj hx hp,List.length_append,<-d5];rfl
set_option maxHeartbeats 4000000 in
set_option maxRecDepth 100000 in
theorem del_fn(f:Nat)(lb:Array Value)(p:List Value->Bool)(ok:World->Prop)(el:List Value->Prop)(eg:∀args w,(callFunc f args).run Tryd.prog w=.ok (.enter f args) w)(hp:PredG f lb p ok el)
  (g n c:Nat) (cur:Array Value) (e:TypeId) (fr:Nat×Nat) (xs:List (List Value)) (w:World) (hob:∀W,w.grownBy W (some g)->ok W) (hlen:xs.length=n) (hel:∀x∈xs,el x/\x.length=3/\∀v∈x,∃y:Int,v=.int .i64 y) (hn:n<=4294967295)
  (hg:w.heap[g]?=some (.cells cur e fr)) (hfz:Fz fr cur.size) (hcs:cur.size=c*3) (hnc:n<=c) (hx:cur.toList.take (n*3)=xs.flatten) :
  Calls Tryd.prog 55 #[.slice (some ⟨g,0,none⟩) n c,.func (.func f) #[] lb] w fun r w'=>r=.returned (.slice (some ⟨g,0,none⟩) (xs.filter fun x=>!p x).length c)/\w.grownBy w' (some g)/\
   ∃cur':Array Value,w'.heap[g]?=some (.cells cur' e fr)/\cur'.size=c*3/\cur'.toList.take ((xs.filter fun x=>!p x).length*3)=(xs.filter fun x=>!p x).flatten:=by
 have u22:∀w,Sem.run Tryd.prog (underlying 45) w=.ok (TypeDesc.slice 57) w:=run_underlying Tryd.underlying45;have e99:∀args w,(callFunc 83 args).run Tryd.prog w=.ok (.enter 83 args) w:=fun args w=>by kernel_rfl
 have hl2:∀x∈xs,x.length=3:=fun x hx=>(hel x hx).2.1
 have hxl:∀j,j<xs.length->el xs[j]! /\ xs[j]!.length=3:=fun j hj=>by rw[getElem!_pos xs j hj];exact⟨(hel _ (getElem_mem _)).1,hl2 _ (getElem_mem _)⟩
 have hgw:g<w.heap.size:=(Array.getElem?_eq_some_iff.1 hg).1;have hcell:∀j,j<xs.length->∀k v,(xs[j]!)[k]?=some v->w.cell? ⟨g,j*3+k,none⟩=some v:=fun j hj k v hk=>by
  have hk2:k<3:=by have:=(List.getElem?_eq_some_iff.1 hk).1;rw[(hxl j hj).2]at this;exact this
  have h1:=flat_get xs hl2 j k hj hk2;rw[<-hx,List.getElem?_take,if_pos (by omega)]at h1;rw[getElem!_pos xs j hj]at hk;simp only[World.cell?,hg];simpa[hk]using h1
 have hIF:=idx_fn f lb p ok el eg hp g n c xs w (fun W hW=>hob W (grownBy_below hW)) hlen (fun x hx=>⟨(hel x hx).1,hl2 x hx⟩) hgw hn hcell;rcases idx_cases p xs 0 with⟨e1,hall⟩|⟨k0,hk0,e1,ht,hall⟩
 .have e2:Lib.idxBy (fun _ y=>p y) xs []=-1:=e1;rw[e2]at hIF;have hfil:(xs.filter fun x=>!p x)=xs:=List.filter_eq_self.2 fun x hx=>by rw[hall x hx];rfl
  rw[hfil,hlen];have X:=Lib.hid (And.intro hg (And.intro hcs hx));clear hg hcs hx hcell hob hp hl2 hel hxl e1 e2 hall hfil hlen hfz
  go_enter Tryd.func55,Tryd.ntmps55
  go_wp2_with (go_at_fn 83;refine hIF.mono ?_;rintro r w' ⟨rfl,hb'⟩)
  go_ret
  exact⟨rfl,grownBy_below hb',cur,by rw[hb'.block g hgw];exact X.out.1,X.out.2.1,X.out.2.2⟩
 .have e2:Lib.idxBy (fun _ y=>p y) xs []=(k0:Int):=by unfold Lib.idxBy;rw[e1];simp
  rw[e2]at hIF;subst hlen;have hk0f:((xs.take (k0+1)).filter fun x=>!p x)=xs.take k0:=by rw[List.take_succ_eq_append_getElem hk0,List.filter_append,List.filter_eq_self.2 fun x hx=>by rw[hall x hx];rfl];rw[getElem!_pos xs k0 hk0]at ht;simp[ht]
  have hst:∀wr:World,Below w.heap.size w wr->DelInv p xs cur g e fr w wr k0 (k0+1):=fun wr hb=>by refine⟨grownBy_below hb,⟨cur,by rw[hb.block g hgw];exact hg,rfl,?_,fun k _=>rfl⟩,by rw[hk0f];simp;omega⟩;rw[hk0f,<-flat_take xs k0 hl2,<-hx,List.take_take];congr 1;omega
  have hrd:∀(wr:World) (i j:Nat),DelInv p xs cur g e fr w wr i j->j<xs.length->∃(a0 a1 a2:Int) (o0 o1 o2:Value),xs[j]! = [.int .i64 a0,.int .i64 a1,.int .i64 a2]/\wr.cell? ⟨g,j*3,none⟩=some (.int .i64 a0)/\wr.cell? ⟨g,j*3+1,none⟩=some (.int .i64 a1)/\wr.cell? ⟨g,j*3+2,none⟩=some (.int .i64 a2)/\wr.cell? ⟨g,i*3,none⟩=some o0/\wr.cell? ⟨g,i*3+1,none⟩=some o1/\wr.cell? ⟨g,i*3+2,none⟩=some o2/\wr.frozen? ⟨g,i*3,none⟩=false/\wr.frozen? ⟨g,i*3+1,none⟩=false/\wr.frozen? ⟨g,i*3+2,none⟩=false/\g<wr.heap.size:=fun wr i j hI hj=>by
   obtain⟨gr,⟨dk,d1,d2,d3,d4⟩,d5,d6⟩:=hI;have hjs:j*3+2<dk.size:=by rw[d2,hcs];omega
   have hc0:∀k v,(xs[j]!)[k]?=some v->dk[j*3+k]?=some v:=fun k v hk=>by have h1:=hcell j hj k v hk;rw[d4 _ (by omega)];simpa[World.cell?,hg]using h1
   have hone:∀v∈xs[j]!,∃y:Int,v=.int .i64 y:=by rw[getElem!_pos xs j hj];exact(hel _ (getElem_mem _)).2.2
   have h2:=(hxl j hj).2
   match hxj:xs[j]!,h2,hc0,hone with
   |[a0,a1,a2],_,hc0,hone=>
    obtain⟨a0,rfl⟩:=hone a0 (by simp);obtain⟨a1,rfl⟩:=hone a1 (by simp);obtain⟨a2,rfl⟩:=hone a2 (by simp);refine⟨a0,a1,a2,dk[i*3]'(by omega),dk[i*3+1]'(by omega),dk[i*3+2]'(by omega),rfl,?_,?_,?_,?_,?_,?_,frozen_fz d1 (by rw[d2];exact hfz) (by omega),frozen_fz d1 (by rw[d2];exact hfz) (by omega),frozen_fz d1 (by rw[d2];exact hfz) (by omega),(Array.getElem?_eq_some_iff.1 d1).1⟩
    .simp only[World.cell?,d1];exact hc0 0 _ rfl
    .simp only[World.cell?,d1];exact hc0 1 _ rfl
    .simp only[World.cell?,d1];exact hc0 2 _ rfl
    .simp only[World.cell?,d1];exact Array.getElem?_eq_getElem _
    .simp only[World.cell?,d1];exact Array.getElem?_eq_getElem _
    .simp only[World.cell?,d1];exact Array.getElem?_eq_getElem _
  have hpc:∀(wr W:World) (i j:Nat),DelInv p xs cur g e fr w wr i j->wr.grownBy W (some g)->j<xs.length->Calls Tryd.prog f (#[.agg (xs[j]!).toArray]++lb) W fun r w'=>r=.returned (.bool (p xs[j]!))/\Below W.heap.size W w':=fun wr W i j hI hW hj=>hp W _ (hob W (grownBy_trans hI.gr hW)) (hxl j hj).1
  have HD:Aside (cur.size=c*3/\xs.length<=c/\Fz fr cur.size):=⟨hcs,hnc,hfz⟩;have HL:Aside (xs.length*3<=cur.size):=by show _<=_;omega
  have HS:Aside _:=hst;have HR:Aside _:=hrd;have HP:Aside _:=hpc;have HX:Aside _:=hxl;clear hst hrd hpc hx hxl hcell hob hp hel hl2 e1 e2 hall ht hk0f hg hcs hfz
  go_enter Tryd.func55,Tryd.ntmps55
  go_wp2_with (go_at_fn 83;refine hIF.mono ?_;rintro r w' ⟨rfl,hb0⟩)
  go_loopg [5,6,7] xs.length (fun gg s5 s6 _ wr=>∃(i j:Nat),s5=.int .i64 i/\s6=.int .i64 j/\j<=xs.length/\xs.length-j<=gg/\Aside (DelInv p xs cur g e fr w wr i j))
  case atStart=>exact⟨k0,k0+1,rfl,by go_num,by omega,by omega,HS.out _ hb0⟩
  case round=>
   obtain⟨i,j,rfl,rfl,hjd,hgg,I⟩:=hrel;by_cases hlt:j<xs.length
   .have hltz:(j:Int)<(xs.length:Int):=by omega
    have hij:i<j:=I.out.ij.2;obtain⟨a0,a1,a2,o0,o1,o2,hy,l0,l1,l2,l3,l4,l5,l6,l7,l8,hgr⟩:=HR.out wr i j I.out hlt;have hgrW:wr.grownBy (wr.alloc (.cells #[.int .i64 a0,.int .i64 a1,.int .i64 a2] 57)) (some g):=grownBy_below ((Below.refl _ _).alloc (Nat.le_refl _) _);have hcall:=HP.out wr _ i j I.out hgrW hlt;rw[hy]at hcall;have B:Aside (xs[j]! = [.int .i64 a0,.int .i64 a1,.int .i64 a2]):=hy;have hcl:∀w1,Below (wr.alloc (.cells #[.int .i64 a0,.int .i64 a1,.int .i64 a2] 57)).heap.size (wr.alloc (.cells #[.int .i64 a0,.int .i64 a1,.int .i64 a2] 57)) w1->w1.cell? ⟨wr.heap.size,0,none⟩=some (.int .i64 a0)/\w1.cell? ⟨wr.heap.size,1,none⟩=some (.int .i64 a1)/\w1.cell? ⟨wr.heap.size,2,none⟩=some (.int .i64 a2)/\w1.cell? ⟨g,i*3,none⟩=some o0/\w1.cell? ⟨g,i*3+1,none⟩=some o1/\w1.cell? ⟨g,i*3+2,none⟩=some o2/\w1.frozen? ⟨g,i*3,none⟩=false/\w1.frozen? ⟨g,i*3+1,none⟩=false/\w1.frozen? ⟨g,i*3+2,none⟩=false:=fun w1 hb=>by
     have hsz:(wr.alloc (.cells #[.int .i64 a0,.int .i64 a1,.int .i64 a2] 57)).heap.size=wr.heap.size+1:=Array.size_push _;have hc:∀o,(wr.alloc (.cells #[.int .i64 a0,.int .i64 a1,.int .i64 a2] 57)).cell? ⟨g,o,none⟩=wr.cell? ⟨g,o,none⟩:=fun o=>World.cell?_of_block (Go.heap_alloc_old wr _ hgr)
     have hf:∀o,(wr.alloc (.cells #[.int .i64 a0,.int .i64 a1,.int .i64 a2] 57)).frozen? ⟨g,o,none⟩=wr.frozen? ⟨g,o,none⟩:=fun o=>World.frozen?_of_block (Go.heap_alloc_old wr _ hgr)
     have hn0:=World.cell?_alloc_at (w:=wr) #[.int .i64 a0,.int .i64 a1,.int .i64 a2] 57 wr.heap.size 0 rfl;have hn1:=World.cell?_alloc_at (w:=wr) #[.int .i64 a0,.int .i64 a1,.int .i64 a2] 57 wr.heap.size 1 rfl;have hn2:=World.cell?_alloc_at (w:=wr) #[.int .i64 a0,.int .i64 a1,.int .i64 a2] 57 wr.heap.size 2 rfl;exact⟨by rw[hb.cell (p:=⟨wr.heap.size,0,none⟩) (by rw[hsz];exact Nat.lt_succ_self _),hn0];rfl,by rw[hb.cell (p:=⟨wr.heap.size,1,none⟩) (by rw[hsz];exact Nat.lt_succ_self _),hn1];rfl,by rw[hb.cell (p:=⟨wr.heap.size,2,none⟩) (by rw[hsz];exact Nat.lt_succ_self _),hn2];rfl,by rw[hb.cell (p:=⟨g,i*3,none⟩) (by rw[hsz];exact lt_succ_of_lt hgr),hc];exact l3,by rw[hb.cell (p:=⟨g,i*3+1,none⟩) (by rw[hsz];exact lt_succ_of_lt hgr),hc];exact l4,by rw[hb.cell (p:=⟨g,i*3+2,none⟩) (by rw[hsz];exact lt_succ_of_lt hgr),hc];exact l5,by rw[hb.frozen (p:=⟨g,i*3,none⟩) (by rw[hsz];exact lt_succ_of_lt hgr),hf];exact l6,by rw[hb.frozen (p:=⟨g,i*3+1,none⟩) (by rw[hsz];exact lt_succ_of_lt hgr),hf];exact l7,by rw[hb.frozen (p:=⟨g,i*3+2,none⟩) (by rw[hsz];exact lt_succ_of_lt hgr),hf];exact l8⟩
    have HC:Aside _:=hcl;have HG:Aside _:=hgrW;have HN:Aside (g<(wr.alloc (.cells #[.int .i64 a0,.int .i64 a1,.int .i64 a2] 57)).heap.size/\(wr.alloc (.cells #[.int .i64 a0,.int .i64 a1,.int .i64 a2] 57)).heap[g]?=wr.heap[g]?):=⟨Nat.lt_of_lt_of_le hgr (Nat.le_of_lt (by show _<(wr.heap.push _).size;rw[Array.size_push];exact Nat.lt_succ_self _)),Go.heap_alloc_old wr _ hgr⟩;clear hy hcl l3 l4 l5 l6 l7 l8 hgrW;cases hq:p [.int .i64 a0,.int .i64 a1,.int .i64 a2]with
    |false=>
     rw[hq]at hcall
     go_wp2_with (go_at_fn f;refine hcall.mono ?_;rintro r w1 ⟨rfl,hb1⟩;obtain⟨m0,m1,m2,m3,m4,m5,m6,m7,m8⟩:=HC.out w1 hb1)
     go_roundg (xs.length-(j+1))
     case measure=>omega
     case rel=>refine⟨i+1,j+1,by go_num,by go_num,by omega,Nat.le_refl _,(show Aside _ from ?_)⟩;exact I.out.keep hlt B.out hq (grownBy_trans HG.out (grownBy_below hb1)) (by rw[hb1.block g HN.out.1];exact HN.out.2) HL.out
    |true=>
     rw[hq]at hcall
     go_wp2_with (go_at_fn f;refine hcall.mono ?_;rintro r w1 ⟨rfl,hb1⟩;obtain⟨m0,m1,m2,m3,m4,m5,m6,m7,m8⟩:=HC.out w1 hb1)
     go_roundg (xs.length-(j+1))
     case measure=>omega
     case rel=>exact⟨i,j+1,rfl,by go_num,by omega,Nat.le_refl _,(show Aside _ from I.out.skip hlt B.out hq (grownBy_trans HG.out (grownBy_below hb1)) (by rw[hb1.block g HN.out.1];exact HN.out.2))⟩
   .obtain rfl:j=xs.length:=by omega
    have hltz:¬(xs.length:Int)<(xs.length:Int):=by omega
    obtain⟨gr,⟨dk,d1,d2,d3,d4⟩,d5,d6⟩:=I.out;rw[List.take_length]at d3 d5;have hdc:dk.size=c*3:=by rw[d2];exact HD.out.1
    have hnc:=HD.out.2.1;have hci:¬(c=i):=by omega
    have hin:i<=xs.length:=by omega
    obtain⟨dk',hdk'⟩:∃dk':Array Value,dk'=(dk.toList.take (i*3)++(Builtin.zeroCells (Value.agg #[.int .i64 0,.int .i64 0,.int .i64 0]).cells (xs.length-i)).toList++dk.toList.drop (i*3+(xs.length-i)*3)).toArray:=⟨_,rfl⟩;have hzs:(Builtin.zeroCells (Value.agg #[.int .i64 0,.int .i64 0,.int .i64 0]).cells (xs.length-i)).size=(xs.length-i)*3:=by simp[Builtin.zeroCells,Value.cells]
    have hcl:∀ty,(Builtin.clear_ #[45] ty #[.slice (some ⟨g,i*3,none⟩) (xs.length-i) (c-i)]).run Tryd.prog wr=.ok (.tuple #[]) (wr.setRow g dk'):=fun ty=>by
     have:=run_clear_fz (P:=Tryd.prog) wr 45 57 ty (.agg #[.int .i64 0,.int .i64 0,.int .i64 0]) 3 g (i*3) (xs.length-i) (c-i) dk e fr Tryd.underlying45 (fun w=>by kernel_rfl) hzs (fun v hv=>by
      have:∀v∈(Builtin.zeroCells (Value.agg #[.int .i64 0,.int .i64 0,.int .i64 0]).cells (xs.length-i)).toList,v=.int .i64 0:=by
       intro v hv;simp only[Builtin.zeroCells,Value.cells,Array.toList_map,List.mem_map]at hv;obtain⟨k,_,rfl⟩:=hv;have hk:k%3=0\/k%3=1\/k%3=2:=by omega
       show(#[Value.int .i64 0,Value.int .i64 0,Value.int .i64 0])[k%3]! = _;rcases hk with hk|hk|hk<;>rw[hk]<;>rfl
      rw[this v hv];rfl) d1 (by rw[d2];exact HD.out.2.2) (by omega)
     rw[this,<-hdk']
    have hd's:dk'.size=c*3:=by rw[hdk'];simp[hzs];omega
    have hd't:dk'.toList.take (i*3)=dk.toList.take (i*3):=by rw[hdk'];simp only[List.append_assoc];rw[List.take_append_of_le_length (by rw[List.length_take,Array.length_toList];omega),List.take_take,Nat.min_self]
    have X:Aside (w.grownBy (wr.setRow g dk') (some g)/\(wr.setRow g dk').heap[g]?=some (.cells dk' e fr)/\dk'.size=c*3/\i=(xs.filter fun x=>!p x).length/\dk'.toList.take (i*3)=(xs.filter fun x=>!p x).flatten):=by
     refine⟨grownBy_trans gr ⟨rfl,rfl,rfl,?_,fun k hk hne=>?_⟩,setRow_heap wr g dk dk' e fr d1,hd's,d5,by rw[hd't];exact d3⟩
     .show _<=(wr.heap.modify g _).size;rw[Array.size_modify];exact Nat.le_refl _
     .show(wr.heap.modify g _)[k]?=_;rw[Array.getElem?_modify,if_neg (fun h=>hne (by rw[h]))]
    clear d1 d2 d3 d4 d5 hdc hdk' hzs hd's hd't gr
    go_wp2
    go_ret
    obtain⟨x1,x2,x3,x4,x5⟩:=X.out;exact⟨by rw[<-x4];rfl,x1,dk',x2,x3,by rw[<-x4];exact x5⟩
end HC3
end Go.Proofs.YtgfmodmeimhhpaaDoor
