/- Walked by hand: what the walks of slices.IndexFunc and slices.DeleteFunc share. -/
import Derived.Test.YtgfmodmeimhhpaaGreatDoorChecked
import Derived.Laws.CopyRow
import Derived.Laws.IdiomCopy
import Derived.Laws.AppendOwn
import Derived.Laws.NewBlocks
import Derived.Deep.LoopGhost
import Derived.Shelf.SlicesQ.Load
import Derived.Lib.SlBy
import Derived.Shelf.RegionOpenPlain
import Derived.WalkKit
import Derived.Lib.Walk
import Derived.Lib.SliceRun
import Derived.Lib.Hide
import Derived.Lib.OwnBridge
import Derived.Maps.AppendAt
import Derived.Test.YtgfmodmeimhhpaaGreatDoorJB
import Derived.Handy
namespace Go.VM
theorem a1F{w:World}{g i:Nat}{cur:Array Value}{t:TypeId}{fr:Nat×Nat}(hg:w.heap[g]?=some (.cells cur t fr))(hf:Fz fr cur.size)(hi:i<cur.size):w.frozen? ⟨g,i,none⟩=false:=by obtain⟨lo,hi'⟩:=fr;simp only[World.frozen?,hg,Bool.and_eq_false_iff,decide_eq_false_iff_not];unfold Fz at hf;simp only at hf;omega
theorem a2D{P:Program}(w:World)(t e ty:TypeId)(zv:Value)(z g o n c:Nat)(cur:Array Value)(tt:TypeId)(fr:Nat×Nat)(ht:P.underlying t=some (.slice e))(hv:∀w,(zeroValue e).run P w=.ok zv w)(hz:(Builtin.zeroCells zv.cells n).size=n*z)(h1:∀v∈(Builtin.zeroCells zv.cells n).toList,v.oneCell'=true)
  (hg:w.heap[g]?=some (.cells cur tt fr)) (hf:Fz fr cur.size) (hfit:o+n*z<=cur.size) :
  (Builtin.clear_ #[t] ty #[.slice (some ⟨g,o,none⟩) n c]).run P w=.ok (.tuple #[]) (w.setRow g (cur.toList.take o++(Builtin.zeroCells zv.cells n).toList++cur.toList.drop (o+n*z)).toArray):=by
 have hst:=a0B P g o tt fr (Builtin.zeroCells zv.cells n).toList 0 cur w hg hf (by simpa[hz]using hfit) h1;cases n with
 |zero=>
  have h0:(Builtin.zeroCells zv.cells 0).toList=[]:=by rw[<-List.length_eq_zero_iff,Array.length_toList,hz,Nat.zero_mul]
  rw[h0]at hst ⊢;simp only[List.length_nil,Nat.add_zero,List.append_nil,Nat.zero_mul,List.take_append_drop,Array.toArray_toList]at hst ⊢;rw[setRow_self w g cur tt fr hg];simp[Builtin.clear_,run_underlying ht]
 |succ m=>simp only[Nat.add_zero,Array.length_toList,hz]at hst;simp[Builtin.clear_,run_underlying ht,hv,hst]
end Go.VM
namespace Go.Proofs.YtgfmodmeimhhpaaGreatDoor
open Go.RowKit Go.Lib Go.VM
def a7d(f:Nat)(lb:Array Value)(p:List Value->Bool)(ok:World->Prop)(el:List Value->Prop):Prop:=
 ∀(W:World) (x:List Value),ok W->el x->Calls Tryz.prog f (#[.agg x.toArray]++lb) W fun r w'=>r=.returned (.bool (p x))/\Below W.heap.size W w'
theorem flat_len(z:Nat)(xs:List (List Value))(h:∀x∈xs,x.length=z):xs.flatten.length=xs.length*z:=by
 induction xs with|nil=>simp|cons x r ih=>rw[List.flatten_cons,List.length_append,ih fun y hy=>h y (by simp[hy]),h x (by simp),List.length_cons,Nat.add_mul];omega
theorem a2Y(p:List Value->Bool):∀(l:List (List Value)) (i:Nat),(Lib.idxByFrom (fun _ y=>p y) ([]:List Value) l i=-1/\∀x∈l,p x=false)\/∃k,k<l.length/\Lib.idxByFrom (fun _ y=>p y) ([]:List Value) l i=((i+k:Nat):Int)/\p l[k]! = true/\∀x∈l.take k,p x=false
 |[],_=>.inl ⟨rfl,fun x hx=>by cases hx⟩|y::r,i=>by
  cases h:p y with|true=>exact .inr ⟨0,by simp,by simp[Lib.idxByFrom,h],by simpa using h,fun x hx=>by simp at hx⟩|false=>rcases a2Y p r (i+1)with⟨e,ha⟩|⟨k,hk,e,ht,ha⟩;exact .inl ⟨by simp[Lib.idxByFrom,h,e],fun x hx=>by rcases List.mem_cons.1 hx with rfl|hx;exact h;exact ha x hx⟩;refine .inr ⟨k+1,by simpa using hk,?_,by simpa using ht,fun x hx=>?_⟩;simp only[Lib.idxByFrom,h];rw[show(if false=true then(i:Int)else Lib.idxByFrom (fun _ y=>p y) ([]:List Value) r (i+1))=Lib.idxByFrom (fun _ y=>p y) ([]:List Value) r (i+1)from rfl,e];congr 1;omega;rw[List.take_succ_cons]at hx;rcases List.mem_cons.1 hx with rfl|hx;exact h;exact ha x hx
theorem a2E(w:World)(r:Option Nat):w.grownBy w r:=⟨rfl,rfl,rfl,Nat.le_refl _,fun _ _ _=>rfl⟩
theorem a0g{a b c:World}{r:Option Nat}(h:a.grownBy b r)(k:b.grownBy c r):a.grownBy c r:=⟨k.os.trans h.os,k.tape.trans h.tape,k.output.trans h.output,Nat.le_trans h.size k.size,fun i hi hr=>(k.block i (Nat.lt_of_lt_of_le hi h.size) hr).trans (h.block i hi hr)⟩
theorem a0l{a b:World}{r:Option Nat}(h:Below a.heap.size a b):a.grownBy b r:=⟨h.os,h.tape,h.output,h.size,fun i hi _=>h.block i hi⟩
theorem a2b{p:List Value->Bool}{xs:List (List Value)}{j:Nat}{x:List Value}(hj:j<xs.length)(hx:xs[j]! = x)(hp:p x=false):((xs.take (j+1)).filter fun x=>!p x)=((xs.take j).filter fun x=>!p x)++[x]:=by rw[List.take_succ_eq_append_getElem hj,List.filter_append];rw[getElem!_pos xs j hj]at hx;rw[hx];simp[hp]
theorem a2c{p:List Value->Bool}{xs:List (List Value)}{j:Nat}{x:List Value}(hj:j<xs.length)(hx:xs[j]! = x)(hp:p x=true):((xs.take (j+1)).filter fun x=>!p x)=((xs.take j).filter fun x=>!p x):=by rw[List.take_succ_eq_append_getElem hj,List.filter_append];rw[getElem!_pos xs j hj]at hx;rw[hx];simp[hp]
theorem a0L(w:World)(g i:Nat)(dk:Array Value)(e:TypeId)(fr:Nat×Nat)(v:Value)(h:w.heap[g]?=some (.cells dk e fr)):(w.setCell ⟨g,i,none⟩ v).heap[g]?=some (.cells (dk.setIfInBounds i v) e fr)/\w.grownBy (w.setCell ⟨g,i,none⟩ v) (some g):=by rw[setCell_eq_setRow w g i dk e fr v h];refine⟨setRow_heap w g dk _ e fr h,rfl,rfl,rfl,?_,fun k hk hne=>?_⟩;show _<=(w.heap.modify g _).size;rw[Array.size_modify];exact Nat.le_refl _;show(w.heap.modify g _)[k]?=_;rw[Array.getElem?_modify,if_neg (fun h=>hne (by rw[h]))]
end Go.Proofs.YtgfmodmeimhhpaaGreatDoor
open List(getElem_mem flatten_cons)
namespace Go.Proofs.YtgfmodmeimhhpaaGreatDoor
namespace HC2
open Go.RowKit Go.Lib Go.VM
set_option maxHeartbeats 4000000 in
set_option maxRecDepth 100000 in
theorem a6g(f:Nat)(lb:Array Value)(p:List Value->Bool)(ok:World->Prop)(el:List Value->Prop)(eg:∀args w,(callFunc f args).run Tryz.prog w=.ok (.enter f args) w)(hp:a7d f lb p ok el)
  (g n c:Nat) (xs:List (List Value)) (w:World) (hob:∀W,Below w.heap.size w W->ok W) (hlen:xs.length=n) (hel:∀x∈xs,el x/\x.length=2) (hg:g<w.heap.size) (hn:n<=4294967295)
  (hc:∀j,j<xs.length->∀k v,(xs[j]!)[k]?=some v->w.cell? ⟨g,j*2+k,none⟩=some v) :
  Calls Tryz.prog 77 #[.slice (some ⟨g,0,none⟩) n c,.func (.func f) #[] lb] w fun r w'=>r=.returned (.int .i64 (Lib.idxBy (fun _ y=>p y) xs []))/\Below w.heap.size w w':=by
 have u22:∀w,Sem.run Tryz.prog (underlying 31) w=.ok (TypeDesc.slice 61) w:=run_underlying Tryz.underlying31;have hxl:∀j,j<xs.length->el xs[j]! /\ xs[j]!.length=2:=fun j hj=>by rw[getElem!_pos xs j hj];exact hel _ (getElem_mem _)
 have hrow:∀(W:World),Below w.heap.size w W->∀j,j<xs.length->∃a0 a1,xs[j]! = [a0,a1]/\W.cell? ⟨g,j*2,none⟩=some a0/\W.cell? ⟨g,j*2+1,none⟩=some a1:=fun W hW j hj=>by
  have h2:=(hxl j hj).2;have h3:=hc j hj
  match xs[j]!,h2,h3 with
  |[a0,a1],_,h3=>exact⟨a0,a1,rfl,by rw[hW.cell (p:=⟨g,j*2,none⟩) hg];exact h3 0 a0 rfl,by rw[hW.cell (p:=⟨g,j*2+1,none⟩) hg];exact h3 1 a1 rfl⟩
 have hcall':∀(W:World),Below w.heap.size w W->∀j,j<xs.length->Calls Tryz.prog f (#[.agg (xs[j]!).toArray]++lb) W fun r w'=>r=.returned (.bool (p xs[j]!))/\Below W.heap.size W w':=fun W hW j hj=>hp W _ (hob W hW) (hxl j hj).1
 subst hlen;clear hc hp hob hel hxl
 go_enter Tryz.func77,Tryz.ntmps77
 go_wp2
 go_loopg [5,8] xs.length (fun gg _ s8 wr=>∃kk:Nat,kk<=xs.length/\xs.length-kk<=gg/\s8=.int .i64 kk/\Aside (Below w.heap.size w wr)/\Aside (∀j,j<kk->p xs[j]! = false))
 case atStart=>exact⟨0,Nat.zero_le _,by omega,rfl,Below.refl _ w,fun j hj=>absurd hj (Nat.not_lt_zero _)⟩
 case round=>
  obtain⟨kk,hkk,hgg,rfl,BW,A⟩:=hrel;by_cases hlt:kk<xs.length
  .have hltz:(kk:Int)<(xs.length:Int):=by omega
   obtain⟨a0,a1,hy,l0,l1⟩:=hrow wr BW.out kk (by omega);have hcall:=hcall' wr BW.out kk (by omega);clear hrow hcall';rw[hy]at hcall;have B:Aside (xs[kk]! = [a0,a1]):=hy;clear hy;cases hq:p [a0,a1]with
   |true=>
    rw[hq]at hcall
    go_wp2_with (go_at_fn f;refine hcall.mono ?_;rintro e w' ⟨rfl,hb'⟩)
    go_ret
    refine⟨?_,BW.out.trans (hb'.mono BW.out.size)⟩;have:=Lib.idxBy_hit (fun _ y=>p y) xs xs.length kk [] hlt (Nat.le_refl _) (by show p xs[kk]! = true;rw[B.out];exact hq) A.out;rw[List.take_length]at this;rw[this];rfl
   |false=>
    rw[hq]at hcall
    go_wp2_with (go_at_fn f;refine hcall.mono ?_;rintro e w' ⟨rfl,hb'⟩)
    go_roundg (xs.length-(kk+1))
    case measure=>omega
    case rel=>
     refine⟨kk+1,by omega,by omega,by go_num,BW.out.trans (hb'.mono BW.out.size),(show Aside _ from fun j hj=>?_)⟩;by_cases e:j=kk
     .subst e;rw[B.out];exact hq
     .exact A.out j (by omega)
  .have hltz:¬(kk:Int)<(xs.length:Int):=by omega
   have:kk=xs.length:=by omega
   subst this
   go_wp2
   go_ret
   refine⟨?_,BW.out⟩;have:=Lib.idxBy_miss (fun _ y=>p y) xs xs.length [] A.out;rw[List.take_length]at this;rw[this];rfl
theorem a0Z:∀(xs:List (List Value)) (j:Nat),(∀x∈xs,x.length=2)->xs.flatten.take (j*2)=(xs.take j).flatten
 |[],j,_=>by simp|x::r,0,_=>by simp|x::r,j+1,h=>by have hx:=h x (by simp);rw[flatten_cons,List.take_succ_cons,flatten_cons,<-a0Z r j fun y hy=>h y (by simp[hy]),show(j+1)*2=x.length+j*2 by omega,List.take_append,List.take_of_length_le (by omega),Nat.add_sub_cancel_left]
theorem a3R(xs:List (List Value))(h:∀x∈xs,x.length=2)(j k:Nat)(hj:j<xs.length)(hk:k<2):xs.flatten[j*2+k]?=(xs[j])[k]?:=by
 induction xs generalizing j with|nil=>simp at hj|cons x r ih=>
  have hx:=h x (by simp);rw[flatten_cons];cases j with
  |zero=>rw[List.getElem?_append_left (by omega)];simp|succ j=>rw[List.getElem?_append_right (by omega),show(j+1)*2+k-x.length=j*2+k by omega,ih (fun y hy=>h y (by simp[hy])) j (by simpa using hj)];simp
structure DelInv(p:List Value->Bool)(xs:List (List Value))(cur:Array Value)(g:Nat)(e:TypeId)(fr:Nat×Nat)(w wr:World)(i j:Nat):Prop where
 gr:w.grownBy wr (some g)
 row:∃dk:Array Value,wr.heap[g]?=some (.cells dk e fr)/\dk.size=cur.size/\dk.toList.take (i*2)=((xs.take j).filter fun x=>!p x).flatten/\∀k,j*2<=k->dk[k]?=cur[k]?
 ij:i=((xs.take j).filter fun x=>!p x).length/\i<j
theorem DelInv.skip{p:List Value->Bool}{xs:List (List Value)}{cur:Array Value}{g:Nat}{e:TypeId}{fr:Nat×Nat}{w wr w1:World}{i j:Nat}{x:List Value}(h:DelInv p xs cur g e fr w wr i j)(hj:j<xs.length)(hx:xs[j]! = x)(hp:p x=true)
  (hgr:wr.grownBy w1 (some g)) (hg:w1.heap[g]?=wr.heap[g]?):DelInv p xs cur g e fr w w1 i (j+1):=by
 obtain⟨gr,⟨dk,d1,d2,d3,d4⟩,d5,d6⟩:=h;exact⟨a0g gr hgr,⟨dk,by rw[hg];exact d1,d2,by rw[a2c hj hx hp];exact d3,fun k hk=>d4 k (by omega)⟩,by rw[a2c hj hx hp];exact d5,by omega⟩
theorem DelInv.keep{p:List Value->Bool}{xs:List (List Value)}{cur:Array Value}{g:Nat}{e:TypeId}{fr:Nat×Nat}{w wr w1:World}{i j:Nat}{a0 a1:Value}(h:DelInv p xs cur g e fr w wr i j)(hj:j<xs.length)(hx:xs[j]! = [a0,a1])(hp:p [a0,a1]=false)
  (hgr:wr.grownBy w1 (some g)) (hg:w1.heap[g]?=wr.heap[g]?) (hcs:xs.length*2<=cur.size):DelInv p xs cur g e fr w ((w1.setCell ⟨g,i*2,none⟩ a0).setCell ⟨g,i*2+1,none⟩ a1) (i+1) (j+1):=by
 obtain⟨gr,⟨dk,d1,d2,d3,d4⟩,d5,d6⟩:=h;have r0:w1.heap[g]?=some (.cells dk e fr):=by rw[hg];exact d1
 obtain⟨r1,q1⟩:=a0L _ g (i*2) _ e fr a0 r0;obtain⟨r2,q2⟩:=a0L _ g (i*2+1) _ e fr a1 r1;refine⟨a0g gr (a0g hgr (a0g q1 q2)),⟨_,r2,by simp[d2],?_,fun k hk=>?_⟩,?_,by omega⟩
 .rw[a2b hj hx hp,List.flatten_append,<-d3];have hlt:i*2+1<dk.toList.length:=by rw[Array.length_toList];omega
  simp only[Array.toList_setIfInBounds,flatten_cons,List.flatten_nil,List.append_nil];apply List.ext_getElem?;intro k;simp only[List.getElem?_take,List.getElem?_set,List.length_set,List.getElem?_append,List.length_take];have hmin:min (i*2) dk.toList.length=i*2:=Nat.min_eq_left (by omega);rw[hmin];by_cases h1:k<i*2
  .rw[if_pos (by omega),if_neg (by omega),if_neg (by omega),if_pos h1,if_pos h1]
  .by_cases h2:k=i*2
   .subst h2;rw[if_pos (by omega),if_neg (by omega),if_pos rfl,if_pos (by omega),if_neg h1,Nat.sub_self];rfl
   .by_cases h3:k=i*2+1
    .subst h3;rw[if_pos (by omega),if_pos rfl,if_pos (by omega),if_neg h1,show i*2+1-i*2=1 by omega];rfl
    .rw[if_neg (by omega),if_neg h1,List.getElem?_eq_none (by simp;omega)]
 .have hk0:i*2≠k:=by omega
  have hk1:i*2+1≠k:=by omega
  simp only[Array.getElem?_setIfInBounds,hk0,hk1,if_false];exact d4 k (by omega)
 .rw[a2b hj hx hp,List.length_append,<-d5];rfl
set_option maxHeartbeats 4000000 in
set_option maxRecDepth 100000 in
theorem del_fn(f:Nat)(lb:Array Value)(p:List Value->Bool)(ok:World->Prop)(el:List Value->Prop)(eg:∀args w,(callFunc f args).run Tryz.prog w=.ok (.enter f args) w)(hp:a7d f lb p ok el)
  (g n c:Nat) (cur:Array Value) (e:TypeId) (fr:Nat×Nat) (xs:List (List Value)) (w:World) (hob:∀W,w.grownBy W (some g)->ok W) (hlen:xs.length=n) (hel:∀x∈xs,el x/\x.length=2/\∀v∈x,∃y:Int,v=.int .i64 y) (hn:n<=4294967295)
  (hg:w.heap[g]?=some (.cells cur e fr)) (hfz:Fz fr cur.size) (hcs:cur.size=c*2) (hnc:n<=c) (hx:cur.toList.take (n*2)=xs.flatten) :
  Calls Tryz.prog 40 #[.slice (some ⟨g,0,none⟩) n c,.func (.func f) #[] lb] w fun r w'=>r=.returned (.slice (some ⟨g,0,none⟩) (xs.filter fun x=>!p x).length c)/\w.grownBy w' (some g)/\
   ∃cur':Array Value,w'.heap[g]?=some (.cells cur' e fr)/\cur'.size=c*2/\cur'.toList.take ((xs.filter fun x=>!p x).length*2)=(xs.filter fun x=>!p x).flatten:=by
 have u22:∀w,Sem.run Tryz.prog (underlying 31) w=.ok (TypeDesc.slice 61) w:=run_underlying Tryz.underlying31;have e99:∀args w,(callFunc 77 args).run Tryz.prog w=.ok (.enter 77 args) w:=fun args w=>by kernel_rfl
 have hl2:∀x∈xs,x.length=2:=fun x hx=>(hel x hx).2.1
 have hxl:∀j,j<xs.length->el xs[j]! /\ xs[j]!.length=2:=fun j hj=>by rw[getElem!_pos xs j hj];exact⟨(hel _ (getElem_mem _)).1,hl2 _ (getElem_mem _)⟩
 have hgw:g<w.heap.size:=(Array.getElem?_eq_some_iff.1 hg).1;have hcell:∀j,j<xs.length->∀k v,(xs[j]!)[k]?=some v->w.cell? ⟨g,j*2+k,none⟩=some v:=fun j hj k v hk=>by
  have hk2:k<2:=by have:=(List.getElem?_eq_some_iff.1 hk).1;rw[(hxl j hj).2]at this;exact this
  have h1:=a3R xs hl2 j k hj hk2;rw[<-hx,List.getElem?_take,if_pos (by omega)]at h1;rw[getElem!_pos xs j hj]at hk;simp only[World.cell?,hg];simpa[hk]using h1
 have hIF:=a6g f lb p ok el eg hp g n c xs w (fun W hW=>hob W (a0l hW)) hlen (fun x hx=>⟨(hel x hx).1,hl2 x hx⟩) hgw hn hcell;rcases a2Y p xs 0 with⟨e1,hall⟩|⟨k0,hk0,e1,ht,hall⟩
 .have e2:Lib.idxBy (fun _ y=>p y) xs []=-1:=e1;rw[e2]at hIF;have hfil:(xs.filter fun x=>!p x)=xs:=List.filter_eq_self.2 fun x hx=>by rw[hall x hx];rfl
  rw[hfil,hlen];have X:=Lib.hid (And.intro hg (And.intro hcs hx));clear hg hcs hx hcell hob hp hl2 hel hxl e1 e2 hall hfil hlen hfz
  go_enter Tryz.func40,Tryz.ntmps40
  go_wp2_with (go_at_fn 77;refine hIF.mono ?_;rintro r w' ⟨rfl,hb'⟩)
  go_ret
  exact⟨rfl,a0l hb',cur,by rw[hb'.block g hgw];exact X.out.1,X.out.2.1,X.out.2.2⟩
 .have e2:Lib.idxBy (fun _ y=>p y) xs []=(k0:Int):=by unfold Lib.idxBy;rw[e1];simp
  rw[e2]at hIF;subst hlen;have hk0f:((xs.take (k0+1)).filter fun x=>!p x)=xs.take k0:=by rw[List.take_succ_eq_append_getElem hk0,List.filter_append,List.filter_eq_self.2 fun x hx=>by rw[hall x hx];rfl];rw[getElem!_pos xs k0 hk0]at ht;simp[ht]
  have hst:∀wr:World,Below w.heap.size w wr->DelInv p xs cur g e fr w wr k0 (k0+1):=fun wr hb=>by refine⟨a0l hb,⟨cur,by rw[hb.block g hgw];exact hg,rfl,?_,fun k _=>rfl⟩,by rw[hk0f];simp;omega⟩;rw[hk0f,<-a0Z xs k0 hl2,<-hx,List.take_take];congr 1;omega
  have hrd:∀(wr:World) (i j:Nat),DelInv p xs cur g e fr w wr i j->j<xs.length->∃(a0 a1:Int) (o0 o1:Value),xs[j]! = [.int .i64 a0,.int .i64 a1]/\wr.cell? ⟨g,j*2,none⟩=some (.int .i64 a0)/\wr.cell? ⟨g,j*2+1,none⟩=some (.int .i64 a1)/\wr.cell? ⟨g,i*2,none⟩=some o0/\wr.cell? ⟨g,i*2+1,none⟩=some o1/\wr.frozen? ⟨g,i*2,none⟩=false/\wr.frozen? ⟨g,i*2+1,none⟩=false/\g<wr.heap.size:=fun wr i j hI hj=>by
   obtain⟨gr,⟨dk,d1,d2,d3,d4⟩,d5,d6⟩:=hI;have hjs:j*2+1<dk.size:=by rw[d2,hcs];omega
   have hc0:∀k v,(xs[j]!)[k]?=some v->dk[j*2+k]?=some v:=fun k v hk=>by have h1:=hcell j hj k v hk;rw[d4 _ (by omega)];simpa[World.cell?,hg]using h1
   have hone:∀v∈xs[j]!,∃y:Int,v=.int .i64 y:=by rw[getElem!_pos xs j hj];exact(hel _ (getElem_mem _)).2.2
   have h2:=(hxl j hj).2
   match hxj:xs[j]!,h2,hc0,hone with
   |[a0,a1],_,hc0,hone=>
    obtain⟨a0,rfl⟩:=hone a0 (by simp);obtain⟨a1,rfl⟩:=hone a1 (by simp);refine⟨a0,a1,dk[i*2]'(by omega),dk[i*2+1]'(by omega),rfl,?_,?_,?_,?_,a1F d1 (by rw[d2];exact hfz) (by omega),a1F d1 (by rw[d2];exact hfz) (by omega),(Array.getElem?_eq_some_iff.1 d1).1⟩
    .simp only[World.cell?,d1];exact hc0 0 _ rfl
    .simp only[World.cell?,d1];exact hc0 1 _ rfl
    .simp only[World.cell?,d1];exact Array.getElem?_eq_getElem _
    .simp only[World.cell?,d1];exact Array.getElem?_eq_getElem _
  have hpc:∀(wr W:World) (i j:Nat),DelInv p xs cur g e fr w wr i j->wr.grownBy W (some g)->j<xs.length->Calls Tryz.prog f (#[.agg (xs[j]!).toArray]++lb) W fun r w'=>r=.returned (.bool (p xs[j]!))/\Below W.heap.size W w':=fun wr W i j hI hW hj=>hp W _ (hob W (a0g hI.gr hW)) (hxl j hj).1
  have HD:Aside (cur.size=c*2/\xs.length<=c/\Fz fr cur.size):=⟨hcs,hnc,hfz⟩;have HL:Aside (xs.length*2<=cur.size):=by show _<=_;omega
  have HS:Aside _:=hst;have HR:Aside _:=hrd;have HP:Aside _:=hpc;have HX:Aside _:=hxl;clear hst hrd hpc hx hxl hcell hob hp hel hl2 e1 e2 hall ht hk0f hg hcs hfz
  go_enter Tryz.func40,Tryz.ntmps40
  go_wp2_with (go_at_fn 77;refine hIF.mono ?_;rintro r w' ⟨rfl,hb0⟩)
  go_loopg [5,6,7] xs.length (fun gg s5 s6 _ wr=>∃(i j:Nat),s5=.int .i64 i/\s6=.int .i64 j/\j<=xs.length/\xs.length-j<=gg/\Aside (DelInv p xs cur g e fr w wr i j))
  case atStart=>exact⟨k0,k0+1,rfl,by go_num,by omega,by omega,HS.out _ hb0⟩
  case round=>
   obtain⟨i,j,rfl,rfl,hjd,hgg,I⟩:=hrel;by_cases hlt:j<xs.length
   .have hltz:(j:Int)<(xs.length:Int):=by omega
    have hij:i<j:=I.out.ij.2;obtain⟨a0,a1,o0,o1,hy,l0,l1,l2,l3,l4,l5,hgr⟩:=HR.out wr i j I.out hlt;have hgrW:wr.grownBy (wr.alloc (.cells #[.int .i64 a0,.int .i64 a1] 61)) (some g):=a0l ((Below.refl _ _).alloc (Nat.le_refl _) _);have hcall:=HP.out wr _ i j I.out hgrW hlt;rw[hy]at hcall;have B:Aside (xs[j]! = [.int .i64 a0,.int .i64 a1]):=hy;have hcl:∀w1,Below (wr.alloc (.cells #[.int .i64 a0,.int .i64 a1] 61)).heap.size (wr.alloc (.cells #[.int .i64 a0,.int .i64 a1] 61)) w1->w1.cell? ⟨wr.heap.size,0,none⟩=some (.int .i64 a0)/\w1.cell? ⟨wr.heap.size,1,none⟩=some (.int .i64 a1)/\w1.cell? ⟨g,i*2,none⟩=some o0/\w1.cell? ⟨g,i*2+1,none⟩=some o1/\w1.frozen? ⟨g,i*2,none⟩=false/\w1.frozen? ⟨g,i*2+1,none⟩=false:=fun w1 hb=>by
     have hsz:(wr.alloc (.cells #[.int .i64 a0,.int .i64 a1] 61)).heap.size=wr.heap.size+1:=Array.size_push _;have hc:∀o,(wr.alloc (.cells #[.int .i64 a0,.int .i64 a1] 61)).cell? ⟨g,o,none⟩=wr.cell? ⟨g,o,none⟩:=fun o=>World.cell?_of_block (Go.heap_alloc_old wr _ hgr)
     have hf:∀o,(wr.alloc (.cells #[.int .i64 a0,.int .i64 a1] 61)).frozen? ⟨g,o,none⟩=wr.frozen? ⟨g,o,none⟩:=fun o=>World.frozen?_of_block (Go.heap_alloc_old wr _ hgr)
     have hn0:=World.cell?_alloc_at (w:=wr) #[.int .i64 a0,.int .i64 a1] 61 wr.heap.size 0 rfl;have hn1:=World.cell?_alloc_at (w:=wr) #[.int .i64 a0,.int .i64 a1] 61 wr.heap.size 1 rfl;exact⟨by rw[hb.cell (p:=⟨wr.heap.size,0,none⟩) (by rw[hsz];exact Nat.lt_succ_self _),hn0];rfl,by rw[hb.cell (p:=⟨wr.heap.size,1,none⟩) (by rw[hsz];exact Nat.lt_succ_self _),hn1];rfl,by rw[hb.cell (p:=⟨g,i*2,none⟩) (by rw[hsz];exact Nat.lt_succ_of_lt hgr),hc];exact l2,by rw[hb.cell (p:=⟨g,i*2+1,none⟩) (by rw[hsz];exact Nat.lt_succ_of_lt hgr),hc];exact l3,by rw[hb.frozen (p:=⟨g,i*2,none⟩) (by rw[hsz];exact Nat.lt_succ_of_lt hgr),hf];exact l4,by rw[hb.frozen (p:=⟨g,i*2+1,none⟩) (by rw[hsz];exact Nat.lt_succ_of_lt hgr),hf];exact l5⟩
    have HC:Aside _:=hcl;have HG:Aside _:=hgrW;have HN:Aside (g<(wr.alloc (.cells #[.int .i64 a0,.int .i64 a1] 61)).heap.size/\(wr.alloc (.cells #[.int .i64 a0,.int .i64 a1] 61)).heap[g]?=wr.heap[g]?):=⟨Nat.lt_of_lt_of_le hgr (Nat.le_of_lt (by show _<(wr.heap.push _).size;rw[Array.size_push];exact Nat.lt_succ_self _)),Go.heap_alloc_old wr _ hgr⟩;clear hy hcl l2 l3 l4 l5 hgrW;cases hq:p [.int .i64 a0,.int .i64 a1]with
    |false=>
     rw[hq]at hcall
     go_wp2_with (go_at_fn f;refine hcall.mono ?_;rintro r w1 ⟨rfl,hb1⟩;obtain⟨m0,m1,m2,m3,m4,m5⟩:=HC.out w1 hb1)
     go_roundg (xs.length-(j+1))
     case measure=>omega
     case rel=>refine⟨i+1,j+1,by go_num,by go_num,by omega,Nat.le_refl _,(show Aside _ from ?_)⟩;exact I.out.keep hlt B.out hq (a0g HG.out (a0l hb1)) (by rw[hb1.block g HN.out.1];exact HN.out.2) HL.out
    |true=>
     rw[hq]at hcall
     go_wp2_with (go_at_fn f;refine hcall.mono ?_;rintro r w1 ⟨rfl,hb1⟩;obtain⟨m0,m1,m2,m3,m4,m5⟩:=HC.out w1 hb1)
     go_roundg (xs.length-(j+1))
     case measure=>omega
     case rel=>exact⟨i,j+1,rfl,by go_num,by omega,Nat.le_refl _,(show Aside _ from I.out.skip hlt B.out hq (a0g HG.out (a0l hb1)) (by rw[hb1.block g HN.out.1];exact HN.out.2))⟩
   .obtain rfl:j=xs.length:=by omega
    have hltz:¬(xs.length:Int)<(xs.length:Int):=by omega
    obtain⟨gr,⟨dk,d1,d2,d3,d4⟩,d5,d6⟩:=I.out;rw[List.take_length]at d3 d5;have hdc:dk.size=c*2:=by rw[d2];exact HD.out.1
    have hnc:=HD.out.2.1;have hci:¬(c=i):=by omega
    have hin:i<=xs.length:=by omega
    obtain⟨dk',hdk'⟩:∃dk':Array Value,dk'=(dk.toList.take (i*2)++(Builtin.zeroCells (Value.agg #[.int .i64 0,.int .i64 0]).cells (xs.length-i)).toList++dk.toList.drop (i*2+(xs.length-i)*2)).toArray:=⟨_,rfl⟩;have hzs:(Builtin.zeroCells (Value.agg #[.int .i64 0,.int .i64 0]).cells (xs.length-i)).size=(xs.length-i)*2:=by simp[Builtin.zeroCells,Value.cells]
    have hcl:∀ty,(Builtin.clear_ #[31] ty #[.slice (some ⟨g,i*2,none⟩) (xs.length-i) (c-i)]).run Tryz.prog wr=.ok (.tuple #[]) (wr.setRow g dk'):=fun ty=>by
     have:=a2D (P:=Tryz.prog) wr 31 61 ty (.agg #[.int .i64 0,.int .i64 0]) 2 g (i*2) (xs.length-i) (c-i) dk e fr Tryz.underlying31 (fun w=>by kernel_rfl) hzs (fun v hv=>by
      have:∀v∈(Builtin.zeroCells (Value.agg #[.int .i64 0,.int .i64 0]).cells (xs.length-i)).toList,v=.int .i64 0:=by
       intro v hv;simp only[Builtin.zeroCells,Value.cells,Array.toList_map,List.mem_map]at hv;obtain⟨k,_,rfl⟩:=hv;have hk:k%2=0\/k%2=1:=by omega
       show(#[Value.int .i64 0,Value.int .i64 0])[k%2]! = _;rcases hk with hk|hk<;>rw[hk]<;>rfl
      rw[this v hv];rfl) d1 (by rw[d2];exact HD.out.2.2) (by omega)
     rw[this,<-hdk']
    have hd's:dk'.size=c*2:=by rw[hdk'];simp[hzs];omega
    have hd't:dk'.toList.take (i*2)=dk.toList.take (i*2):=by rw[hdk'];simp only[List.append_assoc];rw[List.take_append_of_le_length (by rw[List.length_take,Array.length_toList];omega),List.take_take,Nat.min_self]
    have X:Aside (w.grownBy (wr.setRow g dk') (some g)/\(wr.setRow g dk').heap[g]?=some (.cells dk' e fr)/\dk'.size=c*2/\i=(xs.filter fun x=>!p x).length/\dk'.toList.take (i*2)=(xs.filter fun x=>!p x).flatten):=by
     refine⟨a0g gr ⟨rfl,rfl,rfl,?_,fun k hk hne=>?_⟩,setRow_heap wr g dk dk' e fr d1,hd's,d5,by rw[hd't];exact d3⟩
     .show _<=(wr.heap.modify g _).size;rw[Array.size_modify];exact Nat.le_refl _
     .show(wr.heap.modify g _)[k]?=_;rw[Array.getElem?_modify,if_neg (fun h=>hne (by rw[h]))]
    clear d1 d2 d3 d4 d5 hdc hdk' hzs hd's hd't gr
    go_wp2
    go_ret
    obtain⟨x1,x2,x3,x4,x5⟩:=X.out;exact⟨by rw[<-x4];rfl,x1,dk',x2,x3,by rw[<-x4];exact x5⟩
end HC2
end Go.Proofs.YtgfmodmeimhhpaaGreatDoor
open List(getElem_mem flatten_cons)
open Nat(lt_succ_of_lt)
namespace Go.Proofs.YtgfmodmeimhhpaaGreatDoor
namespace HC3
open Go.RowKit Go.Lib Go.VM
set_option maxHeartbeats 4000000 in
set_option maxRecDepth 100000 in
theorem a6g(f:Nat)(lb:Array Value)(p:List Value->Bool)(ok:World->Prop)(el:List Value->Prop)(eg:∀args w,(callFunc f args).run Tryz.prog w=.ok (.enter f args) w)(hp:a7d f lb p ok el)
  (g n c:Nat) (xs:List (List Value)) (w:World) (hob:∀W,Below w.heap.size w W->ok W) (hlen:xs.length=n) (hel:∀x∈xs,el x/\x.length=3) (hg:g<w.heap.size) (hn:n<=4294967295)
  (hc:∀j,j<xs.length->∀k v,(xs[j]!)[k]?=some v->w.cell? ⟨g,j*3+k,none⟩=some v) :
  Calls Tryz.prog 78 #[.slice (some ⟨g,0,none⟩) n c,.func (.func f) #[] lb] w fun r w'=>r=.returned (.int .i64 (Lib.idxBy (fun _ y=>p y) xs []))/\Below w.heap.size w w':=by
 have u22:∀w,Sem.run Tryz.prog (underlying 32) w=.ok (TypeDesc.slice 63) w:=run_underlying Tryz.underlying32;have hxl:∀j,j<xs.length->el xs[j]! /\ xs[j]!.length=3:=fun j hj=>by rw[getElem!_pos xs j hj];exact hel _ (getElem_mem _)
 have hrow:∀(W:World),Below w.heap.size w W->∀j,j<xs.length->∃a0 a1 a2,xs[j]! = [a0,a1,a2]/\W.cell? ⟨g,j*3,none⟩=some a0/\W.cell? ⟨g,j*3+1,none⟩=some a1/\W.cell? ⟨g,j*3+2,none⟩=some a2:=fun W hW j hj=>by
  have h2:=(hxl j hj).2;have h3:=hc j hj
  match xs[j]!,h2,h3 with
  |[a0,a1,a2],_,h3=>exact⟨a0,a1,a2,rfl,by rw[hW.cell (p:=⟨g,j*3,none⟩) hg];exact h3 0 a0 rfl,by rw[hW.cell (p:=⟨g,j*3+1,none⟩) hg];exact h3 1 a1 rfl,by rw[hW.cell (p:=⟨g,j*3+2,none⟩) hg];exact h3 2 a2 rfl⟩
 have hcall':∀(W:World),Below w.heap.size w W->∀j,j<xs.length->Calls Tryz.prog f (#[.agg (xs[j]!).toArray]++lb) W fun r w'=>r=.returned (.bool (p xs[j]!))/\Below W.heap.size W w':=fun W hW j hj=>hp W _ (hob W hW) (hxl j hj).1
 subst hlen;clear hc hp hob hel hxl
 go_enter Tryz.func78,Tryz.ntmps78
 go_wp2
 go_loopg [5,8] xs.length (fun gg _ s8 wr=>∃kk:Nat,kk<=xs.length/\xs.length-kk<=gg/\s8=.int .i64 kk/\Aside (Below w.heap.size w wr)/\Aside (∀j,j<kk->p xs[j]! = false))
 case atStart=>exact⟨0,Nat.zero_le _,by omega,rfl,Below.refl _ w,fun j hj=>absurd hj (Nat.not_lt_zero _)⟩
 case round=>
  obtain⟨kk,hkk,hgg,rfl,BW,A⟩:=hrel;by_cases hlt:kk<xs.length
  .have hltz:(kk:Int)<(xs.length:Int):=by omega
   obtain⟨a0,a1,a2,hy,l0,l1,l2⟩:=hrow wr BW.out kk (by omega);have hcall:=hcall' wr BW.out kk (by omega);clear hrow hcall';rw[hy]at hcall;have B:Aside (xs[kk]! = [a0,a1,a2]):=hy;clear hy;cases hq:p [a0,a1,a2]with
   |true=>
    rw[hq]at hcall
    go_wp2_with (go_at_fn f;refine hcall.mono ?_;rintro e w' ⟨rfl,hb'⟩)
    go_ret
    refine⟨?_,BW.out.trans (hb'.mono BW.out.size)⟩;have:=Lib.idxBy_hit (fun _ y=>p y) xs xs.length kk [] hlt (Nat.le_refl _) (by show p xs[kk]! = true;rw[B.out];exact hq) A.out;rw[List.take_length]at this;rw[this];rfl
   |false=>
    rw[hq]at hcall
    go_wp2_with (go_at_fn f;refine hcall.mono ?_;rintro e w' ⟨rfl,hb'⟩)
    go_roundg (xs.length-(kk+1))
    case measure=>omega
    case rel=>
     refine⟨kk+1,by omega,by omega,by go_num,BW.out.trans (hb'.mono BW.out.size),(show Aside _ from fun j hj=>?_)⟩;by_cases e:j=kk
     .subst e;rw[B.out];exact hq
     .exact A.out j (by omega)
  .have hltz:¬(kk:Int)<(xs.length:Int):=by omega
   have:kk=xs.length:=by omega
   subst this
   go_wp2
   go_ret
   refine⟨?_,BW.out⟩;have:=Lib.idxBy_miss (fun _ y=>p y) xs xs.length [] A.out;rw[List.take_length]at this;rw[this];rfl
theorem a0Z:∀(xs:List (List Value)) (j:Nat),(∀x∈xs,x.length=3)->xs.flatten.take (j*3)=(xs.take j).flatten
 |[],j,_=>by simp|x::r,0,_=>by simp|x::r,j+1,h=>by have hx:=h x (by simp);rw[flatten_cons,List.take_succ_cons,flatten_cons,<-a0Z r j fun y hy=>h y (by simp[hy]),show(j+1)*3=x.length+j*3 by omega,List.take_append,List.take_of_length_le (by omega),Nat.add_sub_cancel_left]
theorem a3R(xs:List (List Value))(h:∀x∈xs,x.length=3)(j k:Nat)(hj:j<xs.length)(hk:k<3):xs.flatten[j*3+k]?=(xs[j])[k]?:=by
 induction xs generalizing j with|nil=>simp at hj|cons x r ih=>
  have hx:=h x (by simp);rw[flatten_cons];cases j with
  |zero=>rw[List.getElem?_append_left (by omega)];simp|succ j=>rw[List.getElem?_append_right (by omega),show(j+1)*3+k-x.length=j*3+k by omega,ih (fun y hy=>h y (by simp[hy])) j (by simpa using hj)];simp
structure DelInv(p:List Value->Bool)(xs:List (List Value))(cur:Array Value)(g:Nat)(e:TypeId)(fr:Nat×Nat)(w wr:World)(i j:Nat):Prop where
 gr:w.grownBy wr (some g)
 row:∃dk:Array Value,wr.heap[g]?=some (.cells dk e fr)/\dk.size=cur.size/\dk.toList.take (i*3)=((xs.take j).filter fun x=>!p x).flatten/\∀k,j*3<=k->dk[k]?=cur[k]?
 ij:i=((xs.take j).filter fun x=>!p x).length/\i<j
theorem DelInv.skip{p:List Value->Bool}{xs:List (List Value)}{cur:Array Value}{g:Nat}{e:TypeId}{fr:Nat×Nat}{w wr w1:World}{i j:Nat}{x:List Value}(h:DelInv p xs cur g e fr w wr i j)(hj:j<xs.length)(hx:xs[j]! = x)(hp:p x=true)
  (hgr:wr.grownBy w1 (some g)) (hg:w1.heap[g]?=wr.heap[g]?):DelInv p xs cur g e fr w w1 i (j+1):=by
 obtain⟨gr,⟨dk,d1,d2,d3,d4⟩,d5,d6⟩:=h;exact⟨a0g gr hgr,⟨dk,by rw[hg];exact d1,d2,by rw[a2c hj hx hp];exact d3,fun k hk=>d4 k (by omega)⟩,by rw[a2c hj hx hp];exact d5,by omega⟩
theorem DelInv.keep{p:List Value->Bool}{xs:List (List Value)}{cur:Array Value}{g:Nat}{e:TypeId}{fr:Nat×Nat}{w wr w1:World}{i j:Nat}{a0 a1 a2:Value}(h:DelInv p xs cur g e fr w wr i j)(hj:j<xs.length)(hx:xs[j]! = [a0,a1,a2])(hp:p [a0,a1,a2]=false)
  (hgr:wr.grownBy w1 (some g)) (hg:w1.heap[g]?=wr.heap[g]?) (hcs:xs.length*3<=cur.size):DelInv p xs cur g e fr w (((w1.setCell ⟨g,i*3,none⟩ a0).setCell ⟨g,i*3+1,none⟩ a1).setCell ⟨g,i*3+2,none⟩ a2) (i+1) (j+1):=by
 obtain⟨gr,⟨dk,d1,d2,d3,d4⟩,d5,d6⟩:=h;have r0:w1.heap[g]?=some (.cells dk e fr):=by rw[hg];exact d1
 obtain⟨r1,q1⟩:=a0L _ g (i*3) _ e fr a0 r0;obtain⟨r2,q2⟩:=a0L _ g (i*3+1) _ e fr a1 r1;obtain⟨r3,q3⟩:=a0L _ g (i*3+2) _ e fr a2 r2;refine⟨a0g gr (a0g hgr (a0g q1 (a0g q2 q3))),⟨_,r3,by simp[d2],?_,fun k hk=>?_⟩,?_,by omega⟩
 .rw[a2b hj hx hp,List.flatten_append,<-d3];have hlt:i*3+2<dk.toList.length:=by rw[Array.length_toList];omega
  simp only[Array.toList_setIfInBounds,flatten_cons,List.flatten_nil,List.append_nil];apply List.ext_getElem?;intro k;simp only[List.getElem?_take,List.getElem?_set,List.length_set,List.getElem?_append,List.length_take];have hmin:min (i*3) dk.toList.length=i*3:=Nat.min_eq_left (by omega);rw[hmin];by_cases h1:k<i*3
  .rw[if_pos (by omega),if_neg (by omega),if_neg (by omega),if_neg (by omega),if_pos h1,if_pos h1]
  .by_cases h2:k=i*3
   .subst h2;rw[if_pos (by omega),if_neg (by omega),if_neg (by omega),if_pos rfl,if_pos (by omega),if_neg h1,Nat.sub_self];rfl
   .by_cases h3:k=i*3+1
    .subst h3;rw[if_pos (by omega),if_neg (by omega),if_pos rfl,if_pos (by omega),if_neg h1,show i*3+1-i*3=1 by omega];rfl
    .by_cases h4:k=i*3+2
     .subst h4;rw[if_pos (by omega),if_pos rfl,if_pos (by omega),if_neg h1,show i*3+2-i*3=2 by omega];rfl
     .rw[if_neg (by omega),if_neg h1,List.getElem?_eq_none (by simp;omega)]
 .have hk0:i*3≠k:=by omega
  have hk1:i*3+1≠k:=by omega
  have hk2:i*3+2≠k:=by omega
  simp only[Array.getElem?_setIfInBounds,hk0,hk1,hk2,if_false];exact d4 k (by omega)
 .rw[a2b hj hx hp,List.length_append,<-d5];rfl
set_option maxHeartbeats 4000000 in
set_option maxRecDepth 100000 in
theorem del_fn(f:Nat)(lb:Array Value)(p:List Value->Bool)(ok:World->Prop)(el:List Value->Prop)(eg:∀args w,(callFunc f args).run Tryz.prog w=.ok (.enter f args) w)(hp:a7d f lb p ok el)
  (g n c:Nat) (cur:Array Value) (e:TypeId) (fr:Nat×Nat) (xs:List (List Value)) (w:World) (hob:∀W,w.grownBy W (some g)->ok W) (hlen:xs.length=n) (hel:∀x∈xs,el x/\x.length=3/\∀v∈x,∃y:Int,v=.int .i64 y) (hn:n<=4294967295)
  (hg:w.heap[g]?=some (.cells cur e fr)) (hfz:Fz fr cur.size) (hcs:cur.size=c*3) (hnc:n<=c) (hx:cur.toList.take (n*3)=xs.flatten) :
  Calls Tryz.prog 42 #[.slice (some ⟨g,0,none⟩) n c,.func (.func f) #[] lb] w fun r w'=>r=.returned (.slice (some ⟨g,0,none⟩) (xs.filter fun x=>!p x).length c)/\w.grownBy w' (some g)/\
   ∃cur':Array Value,w'.heap[g]?=some (.cells cur' e fr)/\cur'.size=c*3/\cur'.toList.take ((xs.filter fun x=>!p x).length*3)=(xs.filter fun x=>!p x).flatten:=by
 have u22:∀w,Sem.run Tryz.prog (underlying 32) w=.ok (TypeDesc.slice 63) w:=run_underlying Tryz.underlying32;have e99:∀args w,(callFunc 78 args).run Tryz.prog w=.ok (.enter 78 args) w:=fun args w=>by kernel_rfl
 have hl2:∀x∈xs,x.length=3:=fun x hx=>(hel x hx).2.1
 have hxl:∀j,j<xs.length->el xs[j]! /\ xs[j]!.length=3:=fun j hj=>by rw[getElem!_pos xs j hj];exact⟨(hel _ (getElem_mem _)).1,hl2 _ (getElem_mem _)⟩
 have hgw:g<w.heap.size:=(Array.getElem?_eq_some_iff.1 hg).1;have hcell:∀j,j<xs.length->∀k v,(xs[j]!)[k]?=some v->w.cell? ⟨g,j*3+k,none⟩=some v:=fun j hj k v hk=>by
  have hk2:k<3:=by have:=(List.getElem?_eq_some_iff.1 hk).1;rw[(hxl j hj).2]at this;exact this
  have h1:=a3R xs hl2 j k hj hk2;rw[<-hx,List.getElem?_take,if_pos (by omega)]at h1;rw[getElem!_pos xs j hj]at hk;simp only[World.cell?,hg];simpa[hk]using h1
 have hIF:=a6g f lb p ok el eg hp g n c xs w (fun W hW=>hob W (a0l hW)) hlen (fun x hx=>⟨(hel x hx).1,hl2 x hx⟩) hgw hn hcell;rcases a2Y p xs 0 with⟨e1,hall⟩|⟨k0,hk0,e1,ht,hall⟩
 .have e2:Lib.idxBy (fun _ y=>p y) xs []=-1:=e1;rw[e2]at hIF;have hfil:(xs.filter fun x=>!p x)=xs:=List.filter_eq_self.2 fun x hx=>by rw[hall x hx];rfl
  rw[hfil,hlen];have X:=Lib.hid (And.intro hg (And.intro hcs hx));clear hg hcs hx hcell hob hp hl2 hel hxl e1 e2 hall hfil hlen hfz
  go_enter Tryz.func42,Tryz.ntmps42
  go_wp2_with (go_at_fn 78;refine hIF.mono ?_;rintro r w' ⟨rfl,hb'⟩)
  go_ret
  exact⟨rfl,a0l hb',cur,by rw[hb'.block g hgw];exact X.out.1,X.out.2.1,X.out.2.2⟩
 .have e2:Lib.idxBy (fun _ y=>p y) xs []=(k0:Int):=by unfold Lib.idxBy;rw[e1];simp
  rw[e2]at hIF;subst hlen;have hk0f:((xs.take (k0+1)).filter fun x=>!p x)=xs.take k0:=by rw[List.take_succ_eq_append_getElem hk0,List.filter_append,List.filter_eq_self.2 fun x hx=>by rw[hall x hx];rfl];rw[getElem!_pos xs k0 hk0]at ht;simp[ht]
  have hst:∀wr:World,Below w.heap.size w wr->DelInv p xs cur g e fr w wr k0 (k0+1):=fun wr hb=>by refine⟨a0l hb,⟨cur,by rw[hb.block g hgw];exact hg,rfl,?_,fun k _=>rfl⟩,by rw[hk0f];simp;omega⟩;rw[hk0f,<-a0Z xs k0 hl2,<-hx,List.take_take];congr 1;omega
  have hrd:∀(wr:World) (i j:Nat),DelInv p xs cur g e fr w wr i j->j<xs.length->∃(a0 a1 a2:Int) (o0 o1 o2:Value),xs[j]! = [.int .i64 a0,.int .i64 a1,.int .i64 a2]/\wr.cell? ⟨g,j*3,none⟩=some (.int .i64 a0)/\wr.cell? ⟨g,j*3+1,none⟩=some (.int .i64 a1)/\wr.cell? ⟨g,j*3+2,none⟩=some (.int .i64 a2)/\wr.cell? ⟨g,i*3,none⟩=some o0/\wr.cell? ⟨g,i*3+1,none⟩=some o1/\wr.cell? ⟨g,i*3+2,none⟩=some o2/\wr.frozen? ⟨g,i*3,none⟩=false/\wr.frozen? ⟨g,i*3+1,none⟩=false/\wr.frozen? ⟨g,i*3+2,none⟩=false/\g<wr.heap.size:=fun wr i j hI hj=>by
   obtain⟨gr,⟨dk,d1,d2,d3,d4⟩,d5,d6⟩:=hI;have hjs:j*3+2<dk.size:=by rw[d2,hcs];omega
   have hc0:∀k v,(xs[j]!)[k]?=some v->dk[j*3+k]?=some v:=fun k v hk=>by have h1:=hcell j hj k v hk;rw[d4 _ (by omega)];simpa[World.cell?,hg]using h1
   have hone:∀v∈xs[j]!,∃y:Int,v=.int .i64 y:=by rw[getElem!_pos xs j hj];exact(hel _ (getElem_mem _)).2.2
   have h2:=(hxl j hj).2
   match hxj:xs[j]!,h2,hc0,hone with
   |[a0,a1,a2],_,hc0,hone=>
    obtain⟨a0,rfl⟩:=hone a0 (by simp);obtain⟨a1,rfl⟩:=hone a1 (by simp);obtain⟨a2,rfl⟩:=hone a2 (by simp);refine⟨a0,a1,a2,dk[i*3]'(by omega),dk[i*3+1]'(by omega),dk[i*3+2]'(by omega),rfl,?_,?_,?_,?_,?_,?_,a1F d1 (by rw[d2];exact hfz) (by omega),a1F d1 (by rw[d2];exact hfz) (by omega),a1F d1 (by rw[d2];exact hfz) (by omega),(Array.getElem?_eq_some_iff.1 d1).1⟩
    .simp only[World.cell?,d1];exact hc0 0 _ rfl
    .simp only[World.cell?,d1];exact hc0 1 _ rfl
    .simp only[World.cell?,d1];exact hc0 2 _ rfl
    .simp only[World.cell?,d1];exact Array.getElem?_eq_getElem _
    .simp only[World.cell?,d1];exact Array.getElem?_eq_getElem _
    .simp only[World.cell?,d1];exact Array.getElem?_eq_getElem _
  have hpc:∀(wr W:World) (i j:Nat),DelInv p xs cur g e fr w wr i j->wr.grownBy W (some g)->j<xs.length->Calls Tryz.prog f (#[.agg (xs[j]!).toArray]++lb) W fun r w'=>r=.returned (.bool (p xs[j]!))/\Below W.heap.size W w':=fun wr W i j hI hW hj=>hp W _ (hob W (a0g hI.gr hW)) (hxl j hj).1
  have HD:Aside (cur.size=c*3/\xs.length<=c/\Fz fr cur.size):=⟨hcs,hnc,hfz⟩;have HL:Aside (xs.length*3<=cur.size):=by show _<=_;omega
  have HS:Aside _:=hst;have HR:Aside _:=hrd;have HP:Aside _:=hpc;have HX:Aside _:=hxl;clear hst hrd hpc hx hxl hcell hob hp hel hl2 e1 e2 hall ht hk0f hg hcs hfz
  go_enter Tryz.func42,Tryz.ntmps42
  go_wp2_with (go_at_fn 78;refine hIF.mono ?_;rintro r w' ⟨rfl,hb0⟩)
  go_loopg [5,6,7] xs.length (fun gg s5 s6 _ wr=>∃(i j:Nat),s5=.int .i64 i/\s6=.int .i64 j/\j<=xs.length/\xs.length-j<=gg/\Aside (DelInv p xs cur g e fr w wr i j))
  case atStart=>exact⟨k0,k0+1,rfl,by go_num,by omega,by omega,HS.out _ hb0⟩
  case round=>
   obtain⟨i,j,rfl,rfl,hjd,hgg,I⟩:=hrel;by_cases hlt:j<xs.length
   .have hltz:(j:Int)<(xs.length:Int):=by omega
    have hij:i<j:=I.out.ij.2;obtain⟨a0,a1,a2,o0,o1,o2,hy,l0,l1,l2,l3,l4,l5,l6,l7,l8,hgr⟩:=HR.out wr i j I.out hlt;have hgrW:wr.grownBy (wr.alloc (.cells #[.int .i64 a0,.int .i64 a1,.int .i64 a2] 63)) (some g):=a0l ((Below.refl _ _).alloc (Nat.le_refl _) _);have hcall:=HP.out wr _ i j I.out hgrW hlt;rw[hy]at hcall;have B:Aside (xs[j]! = [.int .i64 a0,.int .i64 a1,.int .i64 a2]):=hy;have hcl:∀w1,Below (wr.alloc (.cells #[.int .i64 a0,.int .i64 a1,.int .i64 a2] 63)).heap.size (wr.alloc (.cells #[.int .i64 a0,.int .i64 a1,.int .i64 a2] 63)) w1->w1.cell? ⟨wr.heap.size,0,none⟩=some (.int .i64 a0)/\w1.cell? ⟨wr.heap.size,1,none⟩=some (.int .i64 a1)/\w1.cell? ⟨wr.heap.size,2,none⟩=some (.int .i64 a2)/\w1.cell? ⟨g,i*3,none⟩=some o0/\w1.cell? ⟨g,i*3+1,none⟩=some o1/\w1.cell? ⟨g,i*3+2,none⟩=some o2/\w1.frozen? ⟨g,i*3,none⟩=false/\w1.frozen? ⟨g,i*3+1,none⟩=false/\w1.frozen? ⟨g,i*3+2,none⟩=false:=fun w1 hb=>by
     have hsz:(wr.alloc (.cells #[.int .i64 a0,.int .i64 a1,.int .i64 a2] 63)).heap.size=wr.heap.size+1:=Array.size_push _;have hc:∀o,(wr.alloc (.cells #[.int .i64 a0,.int .i64 a1,.int .i64 a2] 63)).cell? ⟨g,o,none⟩=wr.cell? ⟨g,o,none⟩:=fun o=>World.cell?_of_block (Go.heap_alloc_old wr _ hgr)
     have hf:∀o,(wr.alloc (.cells #[.int .i64 a0,.int .i64 a1,.int .i64 a2] 63)).frozen? ⟨g,o,none⟩=wr.frozen? ⟨g,o,none⟩:=fun o=>World.frozen?_of_block (Go.heap_alloc_old wr _ hgr)
     have hn0:=World.cell?_alloc_at (w:=wr) #[.int .i64 a0,.int .i64 a1,.int .i64 a2] 63 wr.heap.size 0 rfl;have hn1:=World.cell?_alloc_at (w:=wr) #[.int .i64 a0,.int .i64 a1,.int .i64 a2] 63 wr.heap.size 1 rfl;have hn2:=World.cell?_alloc_at (w:=wr) #[.int .i64 a0,.int .i64 a1,.int .i64 a2] 63 wr.heap.size 2 rfl;exact⟨by rw[hb.cell (p:=⟨wr.heap.size,0,none⟩) (by rw[hsz];exact Nat.lt_succ_self _),hn0];rfl,by rw[hb.cell (p:=⟨wr.heap.size,1,none⟩) (by rw[hsz];exact Nat.lt_succ_self _),hn1];rfl,by rw[hb.cell (p:=⟨wr.heap.size,2,none⟩) (by rw[hsz];exact Nat.lt_succ_self _),hn2];rfl,by rw[hb.cell (p:=⟨g,i*3,none⟩) (by rw[hsz];exact lt_succ_of_lt hgr),hc];exact l3,by rw[hb.cell (p:=⟨g,i*3+1,none⟩) (by rw[hsz];exact lt_succ_of_lt hgr),hc];exact l4,by rw[hb.cell (p:=⟨g,i*3+2,none⟩) (by rw[hsz];exact lt_succ_of_lt hgr),hc];exact l5,by rw[hb.frozen (p:=⟨g,i*3,none⟩) (by rw[hsz];exact lt_succ_of_lt hgr),hf];exact l6,by rw[hb.frozen (p:=⟨g,i*3+1,none⟩) (by rw[hsz];exact lt_succ_of_lt hgr),hf];exact l7,by rw[hb.frozen (p:=⟨g,i*3+2,none⟩) (by rw[hsz];exact lt_succ_of_lt hgr),hf];exact l8⟩
    have HC:Aside _:=hcl;have HG:Aside _:=hgrW;have HN:Aside (g<(wr.alloc (.cells #[.int .i64 a0,.int .i64 a1,.int .i64 a2] 63)).heap.size/\(wr.alloc (.cells #[.int .i64 a0,.int .i64 a1,.int .i64 a2] 63)).heap[g]?=wr.heap[g]?):=⟨Nat.lt_of_lt_of_le hgr (Nat.le_of_lt (by show _<(wr.heap.push _).size;rw[Array.size_push];exact Nat.lt_succ_self _)),Go.heap_alloc_old wr _ hgr⟩;clear hy hcl l3 l4 l5 l6 l7 l8 hgrW;cases hq:p [.int .i64 a0,.int .i64 a1,.int .i64 a2]with
    |false=>
     rw[hq]at hcall
     go_wp2_with (go_at_fn f;refine hcall.mono ?_;rintro r w1 ⟨rfl,hb1⟩;obtain⟨m0,m1,m2,m3,m4,m5,m6,m7,m8⟩:=HC.out w1 hb1)
     go_roundg (xs.length-(j+1))
     case measure=>omega
     case rel=>refine⟨i+1,j+1,by go_num,by go_num,by omega,Nat.le_refl _,(show Aside _ from ?_)⟩;exact I.out.keep hlt B.out hq (a0g HG.out (a0l hb1)) (by rw[hb1.block g HN.out.1];exact HN.out.2) HL.out
    |true=>
     rw[hq]at hcall
     go_wp2_with (go_at_fn f;refine hcall.mono ?_;rintro r w1 ⟨rfl,hb1⟩;obtain⟨m0,m1,m2,m3,m4,m5,m6,m7,m8⟩:=HC.out w1 hb1)
     go_roundg (xs.length-(j+1))
     case measure=>omega
     case rel=>exact⟨i,j+1,rfl,by go_num,by omega,Nat.le_refl _,(show Aside _ from I.out.skip hlt B.out hq (a0g HG.out (a0l hb1)) (by rw[hb1.block g HN.out.1];exact HN.out.2))⟩
   .obtain rfl:j=xs.length:=by omega
    have hltz:¬(xs.length:Int)<(xs.length:Int):=by omega
    obtain⟨gr,⟨dk,d1,d2,d3,d4⟩,d5,d6⟩:=I.out;rw[List.take_length]at d3 d5;have hdc:dk.size=c*3:=by rw[d2];exact HD.out.1
    have hnc:=HD.out.2.1;have hci:¬(c=i):=by omega
    have hin:i<=xs.length:=by omega
    obtain⟨dk',hdk'⟩:∃dk':Array Value,dk'=(dk.toList.take (i*3)++(Builtin.zeroCells (Value.agg #[.int .i64 0,.int .i64 0,.int .i64 0]).cells (xs.length-i)).toList++dk.toList.drop (i*3+(xs.length-i)*3)).toArray:=⟨_,rfl⟩;have hzs:(Builtin.zeroCells (Value.agg #[.int .i64 0,.int .i64 0,.int .i64 0]).cells (xs.length-i)).size=(xs.length-i)*3:=by simp[Builtin.zeroCells,Value.cells]
    have hcl:∀ty,(Builtin.clear_ #[32] ty #[.slice (some ⟨g,i*3,none⟩) (xs.length-i) (c-i)]).run Tryz.prog wr=.ok (.tuple #[]) (wr.setRow g dk'):=fun ty=>by
     have:=a2D (P:=Tryz.prog) wr 32 63 ty (.agg #[.int .i64 0,.int .i64 0,.int .i64 0]) 3 g (i*3) (xs.length-i) (c-i) dk e fr Tryz.underlying32 (fun w=>by kernel_rfl) hzs (fun v hv=>by
      have:∀v∈(Builtin.zeroCells (Value.agg #[.int .i64 0,.int .i64 0,.int .i64 0]).cells (xs.length-i)).toList,v=.int .i64 0:=by
       intro v hv;simp only[Builtin.zeroCells,Value.cells,Array.toList_map,List.mem_map]at hv;obtain⟨k,_,rfl⟩:=hv;have hk:k%3=0\/k%3=1\/k%3=2:=by omega
       show(#[Value.int .i64 0,Value.int .i64 0,Value.int .i64 0])[k%3]! = _;rcases hk with hk|hk|hk<;>rw[hk]<;>rfl
      rw[this v hv];rfl) d1 (by rw[d2];exact HD.out.2.2) (by omega)
     rw[this,<-hdk']
    have hd's:dk'.size=c*3:=by rw[hdk'];simp[hzs];omega
    have hd't:dk'.toList.take (i*3)=dk.toList.take (i*3):=by rw[hdk'];simp only[List.append_assoc];rw[List.take_append_of_le_length (by rw[List.length_take,Array.length_toList];omega),List.take_take,Nat.min_self]
    have X:Aside (w.grownBy (wr.setRow g dk') (some g)/\(wr.setRow g dk').heap[g]?=some (.cells dk' e fr)/\dk'.size=c*3/\i=(xs.filter fun x=>!p x).length/\dk'.toList.take (i*3)=(xs.filter fun x=>!p x).flatten):=by
     refine⟨a0g gr ⟨rfl,rfl,rfl,?_,fun k hk hne=>?_⟩,setRow_heap wr g dk dk' e fr d1,hd's,d5,by rw[hd't];exact d3⟩
     .show _<=(wr.heap.modify g _).size;rw[Array.size_modify];exact Nat.le_refl _
     .show(wr.heap.modify g _)[k]?=_;rw[Array.getElem?_modify,if_neg (fun h=>hne (by rw[h]))]
    clear d1 d2 d3 d4 d5 hdc hdk' hzs hd's hd't gr
    go_wp2
    go_ret
    obtain⟨x1,x2,x3,x4,x5⟩:=X.out;exact⟨by rw[<-x4];rfl,x1,dk',x2,x3,by rw[<-x4];exact x5⟩
end HC3
end Go.Proofs.YtgfmodmeimhhpaaGreatDoor
namespace Go.Proofs.YtgfmodmeimhhpaaGreatDoor
open Go.RowKit Go.Lib Go.VM
set_option maxHeartbeats 2000000 in
set_option maxRecDepth 100000 in
theorem out2_fn(a b own:Int)(cb:Nat)(w:World)(h0:w.cell? ⟨cb,0,none⟩=some (.int .i64 own)) :
  Calls Tryz.prog 41 #[.agg #[.int .i64 a,.int .i64 b],.pointer (some ⟨cb,0,none⟩)] w fun r w'=>r=.returned (.bool (a==0||a==own))/\Below w.heap.size w w':=by
 have hcb:cb<w.heap.size:=block_lt_of_cell h0
 go_enter Tryz.func41,Tryz.ntmps41
 go_wp2
 all_goals
  go_ret
  exact⟨by simp[*],(Below.refl _ _).alloc (Nat.le_refl _) _⟩
set_option maxHeartbeats 2000000 in
set_option maxRecDepth 100000 in
theorem out3_fn(a b c own:Int)(cb:Nat)(w:World)(h0:w.cell? ⟨cb,0,none⟩=some (.int .i64 own)) :
  Calls Tryz.prog 43 #[.agg #[.int .i64 a,.int .i64 b,.int .i64 c],.pointer (some ⟨cb,0,none⟩)] w fun r w'=>r=.returned (.bool (a==own))/\Below w.heap.size w w':=by
 have hcb:cb<w.heap.size:=block_lt_of_cell h0
 go_enter Tryz.func43,Tryz.ntmps43
 go_wp2
 all_goals
  go_ret
  exact⟨by simp[*],(Below.refl _ _).alloc (Nat.le_refl _) _⟩
set_option maxHeartbeats 2000000 in
set_option maxRecDepth 100000 in
theorem a7e(lb:Array Value)(w:World):Calls Tryz.prog 77 #[.slice none 0 0,.func (.func 41) #[] lb] w fun r w'=>r=.returned (.int .i64 (-1))/\w=w':=by
 go_enter Tryz.func77,Tryz.ntmps77
 go_wp2
 go_loopg [5,8] 0 (fun _ _ s8 wr=>s8=.int .i64 0/\w=wr)
 case atStart=>exact⟨rfl,rfl⟩
 case round=>
  obtain⟨rfl,rfl⟩:=hrel
  go_wp2
  go_ret
  exact⟨rfl,rfl⟩
set_option maxHeartbeats 2000000 in
set_option maxRecDepth 100000 in
theorem a7f(lb:Array Value)(w:World):Calls Tryz.prog 40 #[.slice none 0 0,.func (.func 41) #[] lb] w fun r w'=>r=.returned (.slice none 0 0)/\w=w':=by
 have e77:∀args w,(callFunc 77 args).run Tryz.prog w=.ok (.enter 77 args) w:=fun args w=>by kernel_rfl
 go_enter Tryz.func40,Tryz.ntmps40
 go_wp2_with (go_at_fn 77;refine(a7e lb _).mono ?_;rintro r w' ⟨rfl,rfl⟩)
 go_ret
 exact⟨rfl,rfl⟩
set_option maxHeartbeats 2000000 in
set_option maxRecDepth 100000 in
theorem a7g(lb:Array Value)(w:World):Calls Tryz.prog 78 #[.slice none 0 0,.func (.func 43) #[] lb] w fun r w'=>r=.returned (.int .i64 (-1))/\w=w':=by
 go_enter Tryz.func78,Tryz.ntmps78
 go_wp2
 go_loopg [5,8] 0 (fun _ _ s8 wr=>s8=.int .i64 0/\w=wr)
 case atStart=>exact⟨rfl,rfl⟩
 case round=>
  obtain⟨rfl,rfl⟩:=hrel
  go_wp2
  go_ret
  exact⟨rfl,rfl⟩
set_option maxHeartbeats 2000000 in
set_option maxRecDepth 100000 in
theorem a7h(lb:Array Value)(w:World):Calls Tryz.prog 42 #[.slice none 0 0,.func (.func 43) #[] lb] w fun r w'=>r=.returned (.slice none 0 0)/\w=w':=by
 have e78:∀args w,(callFunc 78 args).run Tryz.prog w=.ok (.enter 78 args) w:=fun args w=>by kernel_rfl
 go_enter Tryz.func42,Tryz.ntmps42
 go_wp2_with (go_at_fn 78;refine(a7g lb _).mono ?_;rintro r w' ⟨rfl,rfl⟩)
 go_ret
 exact⟨rfl,rfl⟩
def cmC(l:List (Int×Int)):List (List Value):=l.map fun c=>[.int .i64 c.1,.int .i64 c.2]
def lgC(l:List (Int×Int×Int)):List (List Value):=l.map fun c=>[.int .i64 c.1,.int .i64 c.2.1,.int .i64 c.2.2]
def cmW(l:List (Int×Int)):List V:=(l.map fun c=>[V.int .i64 c.1,.int .i64 c.2]).flatten
def lgW(l:List (Int×Int×Int)):List V:=(l.map fun c=>[V.int .i64 c.1,.int .i64 c.2.1,.int .i64 c.2.2]).flatten
theorem a6h{w:World}{Q:Nat->Prop}:∀{l:List (Int×Int)} {rows:List Value},a1C (HC w Q a4H) l rows->rows=(cmC l).flatten
 |[],_,h=>h|c::l,_,⟨x,r,e,⟨p,q,e1,e2,e3⟩,h2⟩=>by have e2:p=[.int .i64 c.1]:=e2;have e3:q=[.int .i64 c.2]:=e3;rw[e,e1,e2,e3,a6h h2];rfl
theorem a6i{w:World}{Q:Nat->Prop}:∀{l:List (Int×Int×Int)} {rows:List Value},a1C (HC w Q a4I) l rows->rows=(lgC l).flatten
 |[],_,h=>h|c::l,_,⟨x,r,e,⟨p,q,e1,e2,s,u,e3,e4,e5⟩,h2⟩=>by have e2:p=[.int .i64 c.1]:=e2;have e4:s=[.int .i64 c.2.1]:=e4;have e5:u=[.int .i64 c.2.2]:=e5;rw[e,e1,e2,e3,e4,e5,a6i h2];rfl
theorem a7M(w:World)(A:Pl)(B:List Nat):∀l:List (Int×Int),RelL w A B (cmW l) (cmC l).flatten
 |[]=>.nil|c::l=>.cons _ _ _ _ (.int _ _) (.cons _ _ _ _ (.int _ _) (a7M w A B l))
theorem a7N(w:World)(A:Pl)(B:List Nat):∀l:List (Int×Int×Int),RelL w A B (lgW l) (lgC l).flatten
 |[]=>.nil|c::l=>.cons _ _ _ _ (.int _ _) (.cons _ _ _ _ (.int _ _) (.cons _ _ _ _ (.int _ _) (a7N w A B l)))
def a1N(own:Int)(l:List (Int×Int)):List (Int×Int):=l.filter fun c=>!(c.1==0||c.1==own)
def a2S(own:Int)(l:List (Int×Int×Int)):List (Int×Int×Int):=l.filter fun c=>!(c.1==own)
def pr2(own:Int):List Value->Bool
 |.int _ a::_=>a==0||a==own|_=>false
def pr3(own:Int):List Value->Bool
 |.int _ a::_=>a==own|_=>false
def a1i(W:World)(z:Nat)(co:Option Addr)(n d:Nat)(rows:List Value):Prop:=
 (co=none/\n=0/\d=0/\rows=[])\/∃g cur e,∃fr:Nat×Nat,co=some ⟨g,0,none⟩/\W.heap[g]?=some (.cells cur e fr)/\Fz fr cur.size/\n<=d/\d<=maxLen/\cur.size=d*z/\cur.toList.take (n*z)=rows
def a0G(co:Option Addr):Option Nat:=co.map (·.block)
theorem a1i.kept{W W':World}{z:Nat}{co:Option Addr}{n d:Nat}{rows:List Value}(h:a1i W z co n d rows)(hk:∀g,a0G co=some g->W'.heap[g]?=W.heap[g]?):a1i W' z co n d rows:=by
 rcases h with h|⟨g,cur,e,fr,rfl,h2,h3⟩
 .exact .inl h
 .exact .inr ⟨g,cur,e,fr,rfl,by rw[hk g rfl];exact h2,h3⟩
theorem a7i(own:Int)(cb:Nat)(co:Option Addr)(n d:Nat)(l:List (Int×Int))(W:World)(hb:W.cell? ⟨cb,0,none⟩=some (.int .i64 own))(hr:a1i W 2 co n d (cmC l).flatten)(hn:n=l.length)(hl:l.length<=100000)(hne:a0G co≠some cb) :
  Calls Tryz.prog 40 #[.slice co n d,.func (.func 41) #[] #[.pointer (some ⟨cb,0,none⟩)]] W fun r W'=>r=.returned (.slice co (a1N own l).length d)/\W.grownBy W' (a0G co)/\a1i W' 2 co (a1N own l).length d (cmC (a1N own l)).flatten:=by
 have e41:∀args w,(callFunc 41 args).run Tryz.prog w=.ok (.enter 41 args) w:=fun args w=>by kernel_rfl
 rcases hr with⟨rfl,h1,rfl,h2⟩|⟨g,cur,e,fr,rfl,h2,h3,h4,h5,h6,h7⟩
 .have hl0:l=[]:=List.eq_nil_of_length_eq_zero (by omega);subst hl0;subst h1;refine(a7f _ W).mono fun r W' ⟨e1,e2⟩=>?_
  subst e2;exact⟨e1,a2E _ _,.inl ⟨rfl,rfl,rfl,rfl⟩⟩
 .subst hn;have hcb:cb<W.heap.size:=block_lt_of_cell hb;have:=HC2.del_fn 41 #[.pointer (some ⟨cb,0,none⟩)] (pr2 own) (fun W'=>W'.cell? ⟨cb,0,none⟩=some (.int .i64 own)) (fun q=>∃a b:Int,q=[.int .i64 a,.int .i64 b]) e41
   (fun W' q k0 ⟨a,b,hq⟩=>by subst hq;exact out2_fn a b own cb W' k0) g l.length d cur e fr (cmC l) W
   (fun W' hg=>by rw[World.cell?_of_block (w:=W) (a:=⟨cb,0,none⟩) (hg.block cb hcb fun e=>hne (by rw[e];rfl))];exact hb)
   (by simp[cmC]) (fun q hq=>by obtain⟨p,_,rfl⟩:=List.mem_map.1 hq;exact⟨⟨_,_,rfl⟩,rfl,fun v hv=>by simp at hv;rcases hv with rfl|rfl<;>exact⟨_,rfl⟩⟩) (by omega) h2 h3 h6 h4 h7
  have hf:((cmC l).filter fun q=>!pr2 own q)=cmC (a1N own l):=by unfold cmC a1N;rw[List.filter_map];rfl
  rw[hf]at this;have hlen:(cmC (a1N own l)).length=(a1N own l).length:=by simp[cmC]
  rw[hlen]at this;refine this.mono fun r W' ⟨e1,e2,cur',e3,e4,e5⟩=>⟨e1,e2,.inr ⟨g,cur',e,fr,rfl,e3,by rw[e4,<-h6];exact h3,Nat.le_trans (List.length_filter_le _ _) h4,h5,e4,e5⟩⟩
theorem a7j(own:Int)(cb:Nat)(co:Option Addr)(n d:Nat)(l:List (Int×Int×Int))(W:World)(hb:W.cell? ⟨cb,0,none⟩=some (.int .i64 own))(hr:a1i W 3 co n d (lgC l).flatten)(hn:n=l.length)(hl:l.length<=100000)(hne:a0G co≠some cb) :
  Calls Tryz.prog 42 #[.slice co n d,.func (.func 43) #[] #[.pointer (some ⟨cb,0,none⟩)]] W fun r W'=>r=.returned (.slice co (a2S own l).length d)/\W.grownBy W' (a0G co)/\a1i W' 3 co (a2S own l).length d (lgC (a2S own l)).flatten:=by
 have e43:∀args w,(callFunc 43 args).run Tryz.prog w=.ok (.enter 43 args) w:=fun args w=>by kernel_rfl
 rcases hr with⟨rfl,h1,rfl,h2⟩|⟨g,cur,e,fr,rfl,h2,h3,h4,h5,h6,h7⟩
 .have hl0:l=[]:=List.eq_nil_of_length_eq_zero (by omega);subst hl0;subst h1;refine(a7h _ W).mono fun r W' ⟨e1,e2⟩=>?_
  subst e2;exact⟨e1,a2E _ _,.inl ⟨rfl,rfl,rfl,rfl⟩⟩
 .subst hn;have hcb:cb<W.heap.size:=block_lt_of_cell hb;have:=HC3.del_fn 43 #[.pointer (some ⟨cb,0,none⟩)] (pr3 own) (fun W'=>W'.cell? ⟨cb,0,none⟩=some (.int .i64 own)) (fun q=>∃a b c:Int,q=[.int .i64 a,.int .i64 b,.int .i64 c]) e43
   (fun W' q k0 ⟨a,b,c,hq⟩=>by subst hq;exact out3_fn a b c own cb W' k0) g l.length d cur e fr (lgC l) W
   (fun W' hg=>by rw[World.cell?_of_block (w:=W) (a:=⟨cb,0,none⟩) (hg.block cb hcb fun e=>hne (by rw[e];rfl))];exact hb)
   (by simp[lgC]) (fun q hq=>by obtain⟨p,_,rfl⟩:=List.mem_map.1 hq;exact⟨⟨_,_,_,rfl⟩,rfl,fun v hv=>by simp at hv;rcases hv with rfl|rfl|rfl<;>exact⟨_,rfl⟩⟩) (by omega) h2 h3 h6 h4 h7
  have hf:((lgC l).filter fun q=>!pr3 own q)=lgC (a2S own l):=by unfold lgC a2S;rw[List.filter_map];rfl
  rw[hf]at this;have hlen:(lgC (a2S own l)).length=(a2S own l).length:=by simp[lgC]
  rw[hlen]at this;refine this.mono fun r W' ⟨e1,e2,cur',e3,e4,e5⟩=>⟨e1,e2,.inr ⟨g,cur',e,fr,rfl,e3,by rw[e4,<-h6];exact h3,Nat.le_trans (List.length_filter_le _ _) h4,h5,e4,e5⟩⟩
def C11(W:World)(b:Nat)(x0 x1 x2 x3 x4 x5 x6 x7 x8 x9 x10:Value):Prop:=
 W.cell? ⟨b,0,none⟩=some x0/\W.cell? ⟨b,1,none⟩=some x1/\W.cell? ⟨b,2,none⟩=some x2/\W.cell? ⟨b,3,none⟩=some x3/\W.cell? ⟨b,4,none⟩=some x4/\W.cell? ⟨b,5,none⟩=some x5/\W.cell? ⟨b,6,none⟩=some x6/\W.cell? ⟨b,7,none⟩=some x7/\W.cell? ⟨b,8,none⟩=some x8/\W.cell? ⟨b,9,none⟩=some x9/\W.cell? ⟨b,10,none⟩=some x10
def F11(W:World)(b:Nat):Prop:=∀j,W.frozen? ⟨b,j,none⟩=false
theorem a0j{W:World}{b:Nat}{x0 x1 x2 x3 x4 x5 x6 x7 x8 x9 x10:Value}{e:TypeId}(h:W.heap[b]?=some (.cells #[x0,x1,x2,x3,x4,x5,x6,x7,x8,x9,x10] e (0,0))):C11 W b x0 x1 x2 x3 x4 x5 x6 x7 x8 x9 x10/\F11 W b:=by
 refine⟨⟨?_,?_,?_,?_,?_,?_,?_,?_,?_,?_,?_⟩,fun j=>?_⟩
 all_goals simp[World.cell?,World.frozen?,h]
end Go.Proofs.YtgfmodmeimhhpaaGreatDoor
namespace Go.Proofs.YtgfmodmeimhhpaaGreatDoor
open Go.RowKit Go.Lib Go.VM
theorem a2s(w:World)(o:Obj):(w.alloc o).heap.size=w.heap.size+1:=Array.size_push _
abbrev W3(w:World)(own:Int)(xs:Array Value):World:=((w.alloc (.cells #[.int .i64 own] 3)).alloc (.cells xs 35)).alloc (.cells #[.int .i64 0,.slice none 0 0,.bool false,.int .u64 0,.int .u64 0,.int .i64 0,.int .i64 0,.int .i64 0,.slice none 0 0,.slice none 0 0,.slice none 0 0] 35)
theorem a6j(w:World)(own:Int)(xs:Array Value):(W3 w own xs).heap.size=w.heap.size+3:=by unfold W3;rw[a2s,a2s,a2s]
theorem a2d(w:World)(own:Int)(xs:Array Value):Below w.heap.size w (W3 w own xs):=
 (((Below.refl _ w).alloc (Nat.le_refl _) _).alloc (by rw[a2s];omega) _).alloc (by rw[a2s,a2s];omega) _
theorem a7O(w:World)(own:Int)(xs:Array Value):(W3 w own xs).heap[w.heap.size]?=some (.cells #[.int .i64 own] 3 (0,0)):=by unfold W3;rw[Go.heap_alloc_old _ _ (by rw[a2s,a2s];omega),Go.heap_alloc_old _ _ (by rw[a2s];omega)];exact heap_alloc_new _ _
theorem w3_res(w:World)(own:Int)(xs:Array Value):(W3 w own xs).heap[w.heap.size+1+1]?=some (.cells #[.int .i64 0,.slice none 0 0,.bool false,.int .u64 0,.int .u64 0,.int .i64 0,.int .i64 0,.int .i64 0,.slice none 0 0,.slice none 0 0,.slice none 0 0] 35 (0,0)):=by unfold W3;have:=heap_alloc_new ((w.alloc (.cells #[.int .i64 own] 3)).alloc (.cells xs 35)) (.cells #[.int .i64 0,.slice none 0 0,.bool false,.int .u64 0,.int .u64 0,.int .i64 0,.int .i64 0,.int .i64 0,.slice none 0 0,.slice none 0 0,.slice none 0 0] 35);rw[show((w.alloc (.cells #[.int .i64 own] 3)).alloc (.cells xs 35)).heap.size=w.heap.size+1+1 by rw[a2s,a2s]]at this;exact this
structure Cp(w W W1:World)(lc:List (Int×Int))(ll:List (Int×Int×Int))(cv lv:Option Addr)(m2 d2 m3 d3:Nat):Prop where
 below:Below W.heap.size W W1
 n2:m2=lc.length
 n3:m3=ll.length
 s2:lc.length<=100000
 s3:ll.length<=100000
 r2:a1i W1 2 cv m2 d2 (cmC lc).flatten
 r3:a1i W1 3 lv m3 d3 (lgC ll).flatten
 b2:∀g,a0G cv=some g->W.heap.size<=g/\g<W1.heap.size
 b3:∀g,a0G lv=some g->W.heap.size<=g/\g<W1.heap.size
 ne:∀g,a0G cv=some g->a0G lv≠some g
def a1S(W:World)(b:Nat)(x0 x1 x2 x3 x4 x5 x6 x7 x8 x9 x10:Value):Prop:=W.heap[b]?=some (.cells #[x0,x1,x2,x3,x4,x5,x6,x7,x8,x9,x10] 35 (0,0))
theorem a7k{o:Option Nat}{b:Nat}(h:∀g,o=some g->g≠b):some b≠o:=fun e=>h b e.symm rfl
theorem a1a{W:World}{b i:Nat}{v:Value}{cs ds:Array Value}(h:W.heap[b]?=some (.cells cs 35 (0,0)))(e:cs.setIfInBounds i v=ds):(W.setCell ⟨b,i,none⟩ v).heap[b]?=some (.cells ds 35 (0,0)):=by rw[<-e];exact(a0L _ b i _ 35 (0,0) v h).1
theorem set11(W:World)(b:Nat)(x0 x1 x2 x3 x4 x5 x6 x7 x8 x9 x10 y0 y1 y2 y3 y4 y5 y6 y7 y8 y9 y10:Value)(h:a1S W b y0 y1 y2 y3 y4 y5 y6 y7 y8 y9 y10):a1S (((((((((((W.setCell ⟨b,0,none⟩ x0).setCell ⟨b,1,none⟩ x1).setCell ⟨b,2,none⟩ x2).setCell ⟨b,3,none⟩ x3).setCell ⟨b,4,none⟩ x4).setCell ⟨b,5,none⟩ x5).setCell ⟨b,6,none⟩ x6).setCell ⟨b,7,none⟩ x7).setCell ⟨b,8,none⟩ x8).setCell ⟨b,9,none⟩ x9).setCell ⟨b,10,none⟩ x10) b x0 x1 x2 x3 x4 x5 x6 x7 x8 x9 x10:=
 (a1a (ds:=#[x0,x1,x2,x3,x4,x5,x6,x7,x8,x9,x10]) (a1a (ds:=#[x0,x1,x2,x3,x4,x5,x6,x7,x8,x9,y10]) (a1a (ds:=#[x0,x1,x2,x3,x4,x5,x6,x7,x8,y9,y10]) (a1a (ds:=#[x0,x1,x2,x3,x4,x5,x6,x7,y8,y9,y10]) (a1a (ds:=#[x0,x1,x2,x3,x4,x5,x6,y7,y8,y9,y10]) (a1a (ds:=#[x0,x1,x2,x3,x4,x5,y6,y7,y8,y9,y10]) (a1a (ds:=#[x0,x1,x2,x3,x4,y5,y6,y7,y8,y9,y10]) (a1a (ds:=#[x0,x1,x2,x3,y4,y5,y6,y7,y8,y9,y10]) (a1a (ds:=#[x0,x1,x2,y3,y4,y5,y6,y7,y8,y9,y10]) (a1a (ds:=#[x0,x1,y2,y3,y4,y5,y6,y7,y8,y9,y10]) (a1a (ds:=#[x0,y1,y2,y3,y4,y5,y6,y7,y8,y9,y10]) h rfl) rfl) rfl) rfl) rfl) rfl) rfl) rfl) rfl) rfl) rfl)
structure But(b:Nat)(W W':World):Prop where
 os:W'.os=W.os
 tape:W'.tape=W.tape
 output:W'.output=W.output
 size:W'.heap.size=W.heap.size
 rest:∀k,k≠b->W'.heap[k]?=W.heap[k]?
theorem But.refl(b:Nat)(W:World):But b W W:=⟨rfl,rfl,rfl,rfl,fun _ _=>rfl⟩
theorem But.set{b:Nat}{W W':World}(h:But b W W')(i:Nat)(v:Value):But b W (W'.setCell ⟨b,i,none⟩ v):=
 ⟨h.os,h.tape,h.output,(World.size_setCell ..).trans h.size,fun k hk=>(Below.heap_setCell _ _ _ _ hk).trans (h.rest k hk)⟩
theorem a3z(W:World)(b:Nat)(x0 x1 x2 x3 x4 x5 x6 x7 x8 x9 x10:Value):But b W (((((((((((W.setCell ⟨b,0,none⟩ x0).setCell ⟨b,1,none⟩ x1).setCell ⟨b,2,none⟩ x2).setCell ⟨b,3,none⟩ x3).setCell ⟨b,4,none⟩ x4).setCell ⟨b,5,none⟩ x5).setCell ⟨b,6,none⟩ x6).setCell ⟨b,7,none⟩ x7).setCell ⟨b,8,none⟩ x8).setCell ⟨b,9,none⟩ x9).setCell ⟨b,10,none⟩ x10):=((((((((((((But.refl b W).set 0 x0).set 1 x1).set 2 x2).set 3 x3).set 4 x4).set 5 x5).set 6 x6).set 7 x7).set 8 x8).set 9 x9).set 10 x10)
theorem res26(W:World)(b:Nat)(tmps:Array Value)(x0 x1 x2 x3 x4 x5 x6 x7 x8 x9 x10:Value)(ht:tmps[4]?.getD Go.undef=.pointer (some ⟨b,0,none⟩))(h:a1S W b x0 x1 x2 x3 x4 x5 x6 x7 x8 x9 x10):(results Tryz.f16 tmps).run Tryz.prog W=.ok (.agg #[x0,x1,x2,x3,x4,x5,x6,x7,x8,x9,x10]) W:=by obtain⟨q0,q1,q2,q3,q4,q5,q6,q7,q8,q9,q10⟩:=(a0j h).1;simp[results,Tryz.results26,ht,go_sem,q0,q1,q2,q3,q4,q5,q6,q7,q8,q9,q10]
set_option maxHeartbeats 8000000 in
set_option maxRecDepth 100000 in
theorem a5H(own o hi lo md pr oc:Int)(b6:Bool)(pa ca la oa:Option Addr)(n1 c1 n2 c2 n3 c3 n4 c4:Nat)(lc:List (Int×Int))(ll:List (Int×Int×Int))(w:World)(K:World->Value->Value->Value->Value->Prop)(aJE:Value->World->Prop)
  (H52:Calls Tryz.prog 39 #[.agg #[.int .i64 o,.slice pa n1 c1,.bool b6,.int .u64 hi,.int .u64 lo,.int .i64 md,.int .i64 pr,.int .i64 oc,.slice ca n2 c2,.slice la n3 c3,.slice oa n4 c4]] (W3 w own #[.int .i64 o,.slice pa n1 c1,.bool b6,.int .u64 hi,.int .u64 lo,.int .i64 md,.int .i64 pr,.int .i64 oc,.slice ca n2 c2,.slice la n3 c3,.slice oa n4 c4]) fun e W1=>
   ∃ pv cv lv ov m1 d1 m2 d2 m3 d3 m4 d4,e=.returned (.agg #[.int .i64 o,.slice pv m1 d1,.bool b6,.int .u64 hi,.int .u64 lo,.int .i64 md,.int .i64 pr,.int .i64 oc,.slice cv m2 d2,.slice lv m3 d3,.slice ov m4 d4]) ∧
     Cp w (W3 w own #[.int .i64 o,.slice pa n1 c1,.bool b6,.int .u64 hi,.int .u64 lo,.int .i64 md,.int .i64 pr,.int .i64 oc,.slice ca n2 c2,.slice la n3 c3,.slice oa n4 c4]) W1 lc ll cv lv m2 d2 m3 d3/\K W1 (.slice pv m1 d1) (.slice cv m2 d2) (.slice lv m3 d3) (.slice ov m4 d4))
  (HP:∀W1 pv m1 d1 cv m2 d2 lv m3 d3 ov m4 d4 Wf,K W1 (.slice pv m1 d1) (.slice cv m2 d2) (.slice lv m3 d3) (.slice ov m4 d4)->Cp w (W3 w own #[.int .i64 o,.slice pa n1 c1,.bool b6,.int .u64 hi,.int .u64 lo,.int .i64 md,.int .i64 pr,.int .i64 oc,.slice ca n2 c2,.slice la n3 c3,.slice oa n4 c4]) W1 lc ll cv lv m2 d2 m3 d3->
   Below w.heap.size w Wf->(∀b,b<W1.heap.size->b≠w.heap.size+1+1->some b≠a0G cv->some b≠a0G lv->Wf.heap[b]?=W1.heap[b]?)->a1i Wf 2 cv (a1N own lc).length d2 (cmC (a1N own lc)).flatten->a1i Wf 3 lv (a2S own ll).length d3 (lgC (a2S own ll)).flatten->
   aJE (.agg #[.int .i64 o,.slice pv m1 d1,.bool b6,.int .u64 hi,.int .u64 lo,.int .i64 md,.int .i64 pr,.int .i64 oc,.slice cv (a1N own lc).length d2,.slice lv (a2S own ll).length d3,.slice ov m4 d4]) Wf) :
  Calls Tryz.prog 16 #[.int .i64 own,.agg #[.int .i64 o,.slice pa n1 c1,.bool b6,.int .u64 hi,.int .u64 lo,.int .i64 md,.int .i64 pr,.int .i64 oc,.slice ca n2 c2,.slice la n3 c3,.slice oa n4 c4]] w fun r w'=>∃v,r=.returned v/\aJE v w':=by
 have e39:∀args w,(callFunc 39 args).run Tryz.prog w=.ok (.enter 39 args) w:=fun args w=>by kernel_rfl
 have e40:∀args w,(callFunc 40 args).run Tryz.prog w=.ok (.enter 40 args) w:=fun args w=>by kernel_rfl
 have e42:∀args w,(callFunc 42 args).run Tryz.prog w=.ok (.enter 42 args) w:=fun args w=>by kernel_rfl
 generalize hxs:(#[.int .i64 o,.slice pa n1 c1,.bool b6,.int .u64 hi,.int .u64 lo,.int .i64 md,.int .i64 pr,.int .i64 oc,.slice ca n2 c2,.slice la n3 c3,.slice oa n4 c4]:Array Value)=xs at H52 HP;have hw3:=a6j w own xs
 -- the first row
 have HA : Aside (∀ (W1 : World) (pv cv lv ov : Option Addr) (m1 d1 m2 d2 m3 d3 m4 d4 : Nat), Cp w (W3 w own xs) W1 lc ll cv lv m2 d2 m3 d3 →
     Calls Tryz.prog 40 #[.slice cv m2 d2,.func (.func 41) #[] #[.pointer (some ⟨w.heap.size,0,none⟩)]] (W1.alloc (.cells #[.int .i64 o,.slice pv m1 d1,.bool b6,.int .u64 hi,.int .u64 lo,.int .i64 md,.int .i64 pr,.int .i64 oc,.slice cv m2 d2,.slice lv m3 d3,.slice ov m4 d4] 35)) fun r W2=>
      r=.returned (.slice cv (a1N own lc).length d2)/\(W1.grownBy W2 (a0G cv)/\W1.heap.size<W2.heap.size/\a1i W2 2 cv (a1N own lc).length d2 (cmC (a1N own lc)).flatten/\a1S W2 W1.heap.size (.int .i64 o) (.slice pv m1 d1) (.bool b6) (.int .u64 hi) (.int .u64 lo) (.int .i64 md) (.int .i64 pr) (.int .i64 oc) (.slice cv m2 d2) (.slice lv m3 d3) (.slice ov m4 d4))):=by
  intro W1 pv cv lv ov m1 d1 m2 d2 m3 d3 m4 d4 H;have hlt:w.heap.size<W1.heap.size:=Nat.lt_of_lt_of_le (by rw[hw3];omega) H.below.size;have hal:∀b,b<W1.heap.size->(W1.alloc (.cells #[.int .i64 o,.slice pv m1 d1,.bool b6,.int .u64 hi,.int .u64 lo,.int .i64 md,.int .i64 pr,.int .i64 oc,.slice cv m2 d2,.slice lv m3 d3,.slice ov m4 d4] 35)).heap[b]?=W1.heap[b]?:=fun b hb=>Go.heap_alloc_old _ _ hb
  have hown:(W1.alloc (.cells #[.int .i64 o,.slice pv m1 d1,.bool b6,.int .u64 hi,.int .u64 lo,.int .i64 md,.int .i64 pr,.int .i64 oc,.slice cv m2 d2,.slice lv m3 d3,.slice ov m4 d4] 35)).cell? ⟨w.heap.size,0,none⟩=some (.int .i64 own):=by have h1:=hal _ hlt;rw[H.below.block _ (by rw[hw3];omega),a7O]at h1;simp[World.cell?,h1]
  have hrow:=H.r2.kept (W':=W1.alloc (.cells #[.int .i64 o,.slice pv m1 d1,.bool b6,.int .u64 hi,.int .u64 lo,.int .i64 md,.int .i64 pr,.int .i64 oc,.slice cv m2 d2,.slice lv m3 d3,.slice ov m4 d4] 35)) fun g hg=>hal g (H.b2 g hg).2
  have hne:a0G cv≠some w.heap.size:=fun e=>by have:=(H.b2 _ e).1;rw[hw3]at this;omega
  refine(a7i own w.heap.size cv m2 d2 lc _ hown hrow H.n2 H.s2 hne).mono fun r W2 ⟨k1,k2,k3⟩=>⟨k1,?_,?_,k3,?_⟩
  .exact a0g (a0l ((Below.refl _ W1).alloc (Nat.le_refl _) _)) k2
  .exact Nat.lt_of_lt_of_le (by rw[a2s];omega) k2.size
  .unfold a1S;rw[k2.block W1.heap.size (by rw[a2s];omega) (a7k fun g hg=>by have:=(H.b2 g hg).2;omega)];exact heap_alloc_new _ _
 -- the second one
 have HB : Aside (∀ (W1 W2 : World) (pv cv lv ov : Option Addr) (m1 d1 m2 d2 m3 d3 m4 d4 : Nat), Cp w (W3 w own xs) W1 lc ll cv lv m2 d2 m3 d3 →
     (W1.grownBy W2 (a0G cv)/\W1.heap.size<W2.heap.size/\a1i W2 2 cv (a1N own lc).length d2 (cmC (a1N own lc)).flatten/\a1S W2 W1.heap.size (.int .i64 o) (.slice pv m1 d1) (.bool b6) (.int .u64 hi) (.int .u64 lo) (.int .i64 md) (.int .i64 pr) (.int .i64 oc) (.slice cv m2 d2) (.slice lv m3 d3) (.slice ov m4 d4))->
     Calls Tryz.prog 42 #[.slice lv m3 d3,.func (.func 43) #[] #[.pointer (some ⟨w.heap.size,0,none⟩)]] (W2.setCell ⟨W1.heap.size,8,none⟩ (.slice cv (a1N own lc).length d2)) fun r W4=>
      r=.returned (.slice lv (a2S own ll).length d3)/\(Below w.heap.size w W4/\w.heap.size+1+1<W1.heap.size/\W1.heap.size<W4.heap.size/\(∀b,b<W1.heap.size->some b≠a0G cv->some b≠a0G lv->W4.heap[b]?=W1.heap[b]?)/\a1i W4 2 cv (a1N own lc).length d2 (cmC (a1N own lc)).flatten/\a1i W4 3 lv (a2S own ll).length d3 (lgC (a2S own ll)).flatten/\a1S W4 W1.heap.size (.int .i64 o) (.slice pv m1 d1) (.bool b6) (.int .u64 hi) (.int .u64 lo) (.int .i64 md) (.int .i64 pr) (.int .i64 oc) (.slice cv (a1N own lc).length d2) (.slice lv m3 d3) (.slice ov m4 d4)/\
       a1S W4 (w.heap.size+1+1) (.int .i64 0) (.slice none 0 0) (.bool false) (.int .u64 0) (.int .u64 0) (.int .i64 0) (.int .i64 0) (.int .i64 0) (.slice none 0 0) (.slice none 0 0) (.slice none 0 0))):=by
  intro W1 W2 pv cv lv ov m1 d1 m2 d2 m3 d3 m4 d4 H ⟨g1,g2,g3,g4⟩;have hlt:w.heap.size+1+1<W1.heap.size:=Nat.lt_of_lt_of_le (by rw[hw3];omega) H.below.size;have hse:∀b,b≠W1.heap.size->(W2.setCell ⟨W1.heap.size,8,none⟩ (.slice cv (a1N own lc).length d2)).heap[b]?=W2.heap[b]?:=fun b hb=>Below.heap_setCell _ _ _ _ hb
  have hsz:(W2.setCell ⟨W1.heap.size,8,none⟩ (.slice cv (a1N own lc).length d2)).heap.size=W2.heap.size:=by simp[World.setCell]
  have hold:∀b,b<W1.heap.size->some b≠a0G cv->(W2.setCell ⟨W1.heap.size,8,none⟩ (.slice cv (a1N own lc).length d2)).heap[b]?=W1.heap[b]?:=fun b hb hc=>by rw[hse b (by omega)];exact g1.block b hb fun e=>hc e
  have ncv:∀b,b<w.heap.size+3->some b≠a0G cv:=fun b hb=>a7k fun g hg=>by have:=(H.b2 g hg).1;rw[hw3]at this;omega
  have nlv:∀b,b<w.heap.size+3->some b≠a0G lv:=fun b hb=>a7k fun g hg=>by have:=(H.b3 g hg).1;rw[hw3]at this;omega
  have hown:(W2.setCell ⟨W1.heap.size,8,none⟩ (.slice cv (a1N own lc).length d2)).cell? ⟨w.heap.size,0,none⟩=some (.int .i64 own):=by have h1:=hold w.heap.size (by omega) (ncv _ (by omega));rw[H.below.block _ (by rw[hw3];omega),a7O]at h1;simp[World.cell?,h1]
  have hrow:=H.r3.kept (W':=W2.setCell ⟨W1.heap.size,8,none⟩ (.slice cv (a1N own lc).length d2)) fun g hg=>hold g (H.b3 g hg).2 fun e=>H.ne g e.symm hg
  have hrow2:=g3.kept (W':=W2.setCell ⟨W1.heap.size,8,none⟩ (.slice cv (a1N own lc).length d2)) fun g hg=>hse g (by have:=(H.b2 g hg).2;omega)
  refine(a7j own w.heap.size lv m3 d3 ll _ hown hrow H.n3 H.s3 (fun e=>nlv _ (by omega) e.symm)).mono fun r W4 ⟨k1,k2,k3⟩=>?_
  have hall:∀b,b<W1.heap.size->some b≠a0G cv->some b≠a0G lv->W4.heap[b]?=W1.heap[b]?:=fun b hb hc hl=>by rw[k2.block b (by rw[hsz];omega) (fun e=>hl e)];exact hold b hb hc
  refine⟨k1,⟨?_,?_,?_,?_,?_⟩,hlt,?_,hall,?_,k3,?_,?_⟩
  .rw[k2.os];exact(g1.os.trans H.below.os).trans (a2d w own xs).os
  .rw[k2.tape];exact(g1.tape.trans H.below.tape).trans (a2d w own xs).tape
  .rw[k2.output];exact(g1.output.trans H.below.output).trans (a2d w own xs).output
  .exact Nat.le_trans (by omega) (Nat.le_trans (Nat.le_of_lt g2) (by rw[<-hsz];exact k2.size))
  .intro b hb;rw[hall b (by omega) (ncv b (by omega)) (nlv b (by omega)),H.below.block b (by rw[hw3];omega),(a2d w own xs).block b hb]
  .exact Nat.lt_of_lt_of_le g2 (by rw[<-hsz];exact k2.size)
  .exact hrow2.kept fun g hg=>k2.block g (by rw[hsz];have:=(H.b2 g hg).2;omega) fun e=>H.ne g hg e.symm
  .unfold a1S;rw[k2.block W1.heap.size (by rw[hsz];exact g2) (a7k fun g hg=>by have:=(H.b3 g hg).2;omega),setCell_eq_setRow _ _ _ _ _ _ _ g4,setRow_heap _ _ _ _ _ _ g4];rfl
  .unfold a1S;rw[hall _ hlt (ncv _ (by omega)) (nlv _ (by omega)),H.below.block _ (by rw[hw3];omega)];exact w3_res w own xs
 have HE : Aside (∀ (W1 W4 Wf : World) (pv cv lv ov : Option Addr) (m1 d1 m2 d2 m3 d3 m4 d4 : Nat), K W1 (.slice pv m1 d1) (.slice cv m2 d2) (.slice lv m3 d3) (.slice ov m4 d4) → Cp w (W3 w own xs) W1 lc ll cv lv m2 d2 m3 d3 →
     (Below w.heap.size w W4/\w.heap.size+1+1<W1.heap.size/\W1.heap.size<W4.heap.size/\(∀b,b<W1.heap.size->some b≠a0G cv->some b≠a0G lv->W4.heap[b]?=W1.heap[b]?)/\a1i W4 2 cv (a1N own lc).length d2 (cmC (a1N own lc)).flatten/\a1i W4 3 lv (a2S own ll).length d3 (lgC (a2S own ll)).flatten)->
     Wf.os=W4.os->Wf.tape=W4.tape->Wf.output=W4.output->Wf.heap.size=W4.heap.size->(∀b,b≠w.heap.size+1+1->b≠W1.heap.size->Wf.heap[b]?=W4.heap[b]?)->
     aJE (.agg #[.int .i64 o,.slice pv m1 d1,.bool b6,.int .u64 hi,.int .u64 lo,.int .i64 md,.int .i64 pr,.int .i64 oc,.slice cv (a1N own lc).length d2,.slice lv (a2S own ll).length d3,.slice ov m4 d4]) Wf):=by
  intro W1 W4 Wf pv cv lv ov m1 d1 m2 d2 m3 d3 m4 d4 HK H ⟨g1,g2,g3,g4,g5,g6⟩ h1 h2 h3 h4 h5;have hn:∀{co:Option Addr},(∀g,a0G co=some g->(W3 w own xs).heap.size<=g/\g<W1.heap.size)->∀g,a0G co=some g->Wf.heap[g]?=W4.heap[g]?:=fun hb g hg=>h5 g (by have:=(hb g hg).1;rw[hw3]at this;omega) (by have:=(hb g hg).2;omega)
  exact HP W1 pv m1 d1 cv m2 d2 lv m3 d3 ov m4 d4 Wf HK H ⟨h1.trans g1.os,h2.trans g1.tape,h3.trans g1.output,by rw[h4];exact g1.size,fun b hb=>(h5 b (by omega) (by omega)).trans (g1.block b hb)⟩
   (fun b hb hne hc hl=>(h5 b hne (by omega)).trans (g4 b hb hc hl)) (g5.kept (hn H.b2)) (g6.kept (hn H.b3))
 have H52':Aside _:=H52;subst hxs;clear H52 HP hw3
 go_enter Tryz.func16,Tryz.ntmps16
 go_wp2_with (first
  |(go_at_fn 39;refine Calls.mono H52'.out ?_;rintro r w1 ⟨pv,cv,lv,ov,m1,d1,m2,d2,m3,d3,m4,d4,rfl,hcp,hk⟩;have KC:=Lib.hid hcp;have KK:=Lib.hid hk;clear hcp hk)
  |(go_at_fn 40;refine(HA.out _ pv cv lv ov m1 d1 m2 d2 m3 d3 m4 d4 KC.out).mono ?_;rintro r w2 ⟨rfl,hq⟩;obtain⟨q0,q1,q2,q3,q4,q5,q6,q7,q8,q9,q10⟩:=(a0j hq.2.2.2).1;have qf:=(a0j hq.2.2.2).2 8;have K2:=Lib.hid hq;clear hq)
  |(go_at_fn 42;refine(HB.out _ _ pv cv lv ov m1 d1 m2 d2 m3 d3 m4 d4 KC.out K2.out).mono ?_;rintro r w4 ⟨rfl,hq⟩;obtain⟨s0,s1,s2,s3,s4,s5,s6,s7,s8,s9,s10⟩:=(a0j hq.2.2.2.2.2.2.1).1;have sf:=(a0j hq.2.2.2.2.2.2.1).2 9;obtain⟨u0,u1,u2,u3,u4,u5,u6,u7,u8,u9,u10⟩:=(a0j hq.2.2.2.2.2.2.2).1;have uf0:=(a0j hq.2.2.2.2.2.2.2).2 0;have uf1:=(a0j hq.2.2.2.2.2.2.2).2 1;have uf2:=(a0j hq.2.2.2.2.2.2.2).2 2;have uf3:=(a0j hq.2.2.2.2.2.2.2).2 3;have uf4:=(a0j hq.2.2.2.2.2.2.2).2 4;have uf5:=(a0j hq.2.2.2.2.2.2.2).2 5;have uf6:=(a0j hq.2.2.2.2.2.2.2).2 6;have uf7:=(a0j hq.2.2.2.2.2.2.2).2 7;have uf8:=(a0j hq.2.2.2.2.2.2.2).2 8;have uf9:=(a0j hq.2.2.2.2.2.2.2).2 9;have uf10:=(a0j hq.2.2.2.2.2.2.2).2 10;have hne:=hq.2.1;have K3:=Lib.hid hq;clear hq))
 (try simp only[Exit.inBlock,Exit.then])
 have hz:a1S (w4.setCell ⟨w1.heap.size,9,none⟩ (.slice lv (a2S own ll).length d3)) (w.heap.size+1+1) (.int .i64 0) (.slice none 0 0) (.bool false) (.int .u64 0) (.int .u64 0) (.int .i64 0) (.int .i64 0) (.int .i64 0) (.slice none 0 0) (.slice none 0 0) (.slice none 0 0):=by unfold a1S;rw[Below.heap_setCell _ _ _ _ (by have:=K3.out.2.1;show w.heap.size+1+1≠w1.heap.size;omega)];exact K3.out.2.2.2.2.2.2.2
 have hset:=set11 (w4.setCell ⟨w1.heap.size,9,none⟩ (.slice lv (a2S own ll).length d3)) (w.heap.size+1+1) (.int .i64 o) (.slice pv m1 d1) (.bool b6) (.int .u64 hi) (.int .u64 lo) (.int .i64 md) (.int .i64 pr) (.int .i64 oc) (.slice cv (a1N own lc).length d2) (.slice lv (a2S own ll).length d3) (.slice ov m4 d4) _ _ _ _ _ _ _ _ _ _ _ hz;refine bodyPost_ret (v:=.agg #[.int .i64 o,.slice pv m1 d1,.bool b6,.int .u64 hi,.int .u64 lo,.int .i64 md,.int .i64 pr,.int .i64 oc,.slice cv (a1N own lc).length d2,.slice lv (a2S own ll).length d3,.slice ov m4 d4]) ?_ rfl ?_
 .exact res26 _ (w.heap.size+1+1) _ (.int .i64 o) (.slice pv m1 d1) (.bool b6) (.int .u64 hi) (.int .u64 lo) (.int .i64 md) (.int .i64 pr) (.int .i64 oc) (.slice cv (a1N own lc).length d2) (.slice lv (a2S own ll).length d3) (.slice ov m4 d4) rfl hset
 .have hrest:=a3z (w4.setCell ⟨w1.heap.size,9,none⟩ (.slice lv (a2S own ll).length d3)) (w.heap.size+1+1) (.int .i64 o) (.slice pv m1 d1) (.bool b6) (.int .u64 hi) (.int .u64 lo) (.int .i64 md) (.int .i64 pr) (.int .i64 oc) (.slice cv (a1N own lc).length d2) (.slice lv (a2S own ll).length d3) (.slice ov m4 d4);exact⟨_,rfl,HE.out w1 w4 _ pv cv lv ov m1 d1 m2 d2 m3 d3 m4 d4 KK.out KC.out ⟨K3.out.1,K3.out.2.1,K3.out.2.2.1,K3.out.2.2.2.1,K3.out.2.2.2.2.1,K3.out.2.2.2.2.2.1⟩ hrest.os hrest.tape hrest.output (hrest.size.trans (World.size_setCell ..)) fun b h1 h2=>(hrest.rest b h1).trans (Below.heap_setCell _ _ _ _ h2)⟩
end Go.Proofs.YtgfmodmeimhhpaaGreatDoor
namespace Go.VM
open Go.RowKit
variable{Ω:World->Prop}
theorem Start.weak{G:Gh}{w:World}{vs:List V}{cs:List Value}{bx:BX}(hs:Start Ω G w vs cs bx):Start (fun _=>True) G w vs cs bx:=
 ⟨⟨hs.ok.lt,hs.ok.famU,hs.ok.famC,hs.ok.rgU,hs.ok.low,fun _ _=>trivial⟩,hs.norg,hs.fam,hs.args,hs.boxes⟩
theorem a1m{a:a0s}{cs:List V}(h:bP a0t a cs):∃p c l o,cs=[.int .i64 a.1,p,.bool a.2.2.1.1,.int .u64 a.2.2.1.2.1,.int .u64 a.2.2.1.2.2,.int .i64 a.2.2.2.1,.int .i64 a.2.2.2.2.1,.int .i64 a.2.2.2.2.2.1,c,l,o]/\
  bP (.sl tySg) a.2.1 [p]/\bP (.sl a4H) (a0o a) [c]/\bP (.sl a4I) (a0f a) [l]/\bP (.sl tyUn) (a0r a) [o]:=by
 obtain⟨x0,y0,rfl,h0,x1,y1,rfl,h1,x2,y2,rfl,⟨z0,z1,rfl,k0,z2,z3,rfl,k1,k2⟩,x3,y3,rfl,h3,x4,y4,rfl,h4,x5,y5,rfl,h5,x6,y6,rfl,h6,x7,y7,rfl,h7,h8⟩:=h;have h0:x0=[.int .i64 a.1]:=h0;have k0:z0=[.bool a.2.2.1.1]:=k0;have k1:z2=[.int .u64 a.2.2.1.2.1]:=k1;have k2:z3=[.int .u64 a.2.2.1.2.2]:=k2;have h3:x3=[.int .i64 a.2.2.2.1]:=h3;have h4:x4=[.int .i64 a.2.2.2.2.1]:=h4;have h5:x5=[.int .i64 a.2.2.2.2.2.1]:=h5;subst h0;subst k0;subst k1;subst k2;subst h3;subst h4;subst h5;have one:∀{t:Ty} {x:(Ty.sl t).den} {l:List V},bP (.sl t) x l->∃v,l=[v]:=fun{t x l} h=>by rcases h with⟨rfl,_⟩|⟨lb,rs,rfl,_⟩<;>exact⟨_,rfl⟩
 obtain⟨p,rfl⟩:=one h1;obtain⟨c,rfl⟩:=one h6;obtain⟨l,rfl⟩:=one h7;obtain⟨o,rfl⟩:=one h8;exact⟨p,c,l,o,rfl,h1,h6,h7,h8⟩
theorem a3A{w:World}{base:Nat}{Q:Nat->Prop}{a:a0s}{cs:List Value}(h:HCX w base Q a0t a cs):∃p c l o,cs=[.int .i64 a.1,p,.bool a.2.2.1.1,.int .u64 a.2.2.1.2.1,.int .u64 a.2.2.1.2.2,.int .i64 a.2.2.2.1,.int .i64 a.2.2.2.2.1,.int .i64 a.2.2.2.2.2.1,c,l,o]/\
  HCX w base Q (.sl tySg) a.2.1 [p]/\HCX w base Q (.sl a4H) (a0o a) [c]/\HCX w base Q (.sl a4I) (a0f a) [l]/\HCX w base Q (.sl tyUn) (a0r a) [o]:=by
 obtain⟨x0,y0,rfl,h0,x1,y1,rfl,h1,x2,y2,rfl,⟨z0,z1,rfl,k0,z2,z3,rfl,k1,k2⟩,x3,y3,rfl,h3,x4,y4,rfl,h4,x5,y5,rfl,h5,x6,y6,rfl,h6,x7,y7,rfl,h7,h8⟩:=h;have h0:x0=[.int .i64 a.1]:=h0;have k0:z0=[.bool a.2.2.1.1]:=k0;have k1:z2=[.int .u64 a.2.2.1.2.1]:=k1;have k2:z3=[.int .u64 a.2.2.1.2.2]:=k2;have h3:x3=[.int .i64 a.2.2.2.1]:=h3;have h4:x4=[.int .i64 a.2.2.2.2.1]:=h4;have h5:x5=[.int .i64 a.2.2.2.2.2.1]:=h5;subst h0;subst k0;subst k1;subst k2;subst h3;subst h4;subst h5;have one:∀{t:Ty} {x:(Ty.sl t).den} {l:List Value},HCX w base Q (.sl t) x l->∃v,l=[v]:=fun{t x l} h=>by rcases h with⟨_,rfl⟩|⟨_,_,_,_,_,rfl,_⟩<;>exact⟨_,rfl⟩
 obtain⟨p,rfl⟩:=one h1;obtain⟨c,rfl⟩:=one h6;obtain⟨l,rfl⟩:=one h7;obtain⟨o,rfl⟩:=one h8;exact⟨p,c,l,o,rfl,h1,h6,h7,h8⟩
theorem a5a{w:World}{base:Nat}{Q:Nat->Prop}{t:Ty}{l:(Ty.sl t).den}{v:Value}(h:HCX w base Q (.sl t) l [v]):∃o n c,v=.slice o n c/\n=List.length l:=by rcases h with⟨rfl,e⟩|⟨_,_,_,_,_,e,_⟩<;>cases e<;>exact⟨_,_,_,rfl,rfl⟩
def a5I(z:Nat)(u:V)(n:Nat)(ws:List V):V:=match u with
 |.nils=>.nils|_=>.sl .none z n ws
end Go.VM
namespace Go.Proofs.YtgfmodmeimhhpaaGreatDoor
open Go.RowKit Go.Lib Go.VM
theorem a5b{w:World}{base z:Nat}{Q:Nat->Prop}{t:Ty}{l:(Ty.sl t).den}{o:Option Addr}{n c:Nat}{rows:List Value}(hz:t.size=z)(h:HCX w base Q (.sl t) l [.slice o n c])(hr:∀rs,a1C (HC w Q t) l rs->rs=rows):a1i w z o n c rows/\∀g,a0G o=some g->base<=g/\g<w.heap.size:=by rcases h with⟨rfl,e⟩|⟨g,cap,cur,te,fr,e,h1,h2,h3,h4,h5,h6,h7,h8⟩;cases e;exact⟨.inl ⟨rfl,rfl,rfl,(hr [] rfl).symm⟩,fun g hg=>by cases hg⟩;cases e;refine⟨.inr ⟨g,cur,te,fr,rfl,h2,h3,h4,h5,by rw[<-hz];exact h7,by rw[<-hz];exact hr _ h8⟩,fun g' hg=>?_⟩;cases hg;exact⟨h1,(Array.getElem?_eq_some_iff.1 h2).1⟩
theorem a4k{G:Gh}{w W:World}{z n d:Nat}{co:Option Addr}{rows:List Value}{ws:List V}{u:V}(h:a1i W z co n d rows)(hz:0<z)(hb:∀g,a0G co=some g->w.heap.size<=g)(hw:∀A B,RelL W A B ws rows)(hn:aC ws=[])(hl:rows.length=n*z)(hu:u=.nils↔co=none):Rel W (Abk G w W) G.bxB (a5I z u n ws) (.slice co n d):=by
 rcases h with⟨rfl,rfl,rfl,h2⟩|⟨g,cur,e,fr,rfl,h2,h3,h4,h5,h6,h7⟩;rw[hu.2 rfl];exact .nils;have hne:u≠.nils:=fun e=>by have:=hu.1 e;cases this
 have e1:a5I z u n ws=.sl .none z n ws:=by cases u<;>first|rfl|exact absurd rfl hne
 rw[e1];have hlt:=hb g rfl;have hle:rows.length<=cur.size:=by rw[hl,h6];exact Nat.mul_le_mul_right _ h4
 refine .sl .none z n ws ⟨g,0,none⟩ d rows (.inr (.inl ⟨cur.size,?_,by simpa using hle⟩)) hz hl h4 h5 (fun j v hj=>?_) (hw _ _) hn;simp only[aEM,if_neg (Nat.not_lt.2 hlt),h2];rw[Addr.add_lit,Nat.zero_add];simp only[World.cell?,h2];rw[<-h7,List.getElem?_take]at hj;split at hj;simpa using hj;cases hj
noncomputable def a1q(vs:List V)(r:a0s):List V:=match call Z.FT 100012 39 (vs.drop 1) []with
 |some (.agg us,_)=>[.agg [.int .i64 r.1,(us.getD 1 .undef).mapLab1 fun _=>.none,.bool r.2.2.1.1,.int .u64 r.2.2.1.2.1,.int .u64 r.2.2.1.2.2,.int .i64 r.2.2.2.1,.int .i64 r.2.2.2.2.1,.int .i64 r.2.2.2.2.2.1,a5I 2 (us.getD 8 .undef) (a0o r).length (cmW (a0o r)),a5I 3 (us.getD 9 .undef) (a0f r).length (lgW (a0f r)),(us.getD 10 .undef).mapLab1 fun _=>.none]]|_=>[]
theorem z39:wZ ⟨[.d a0t],[(a0t,[(1,true),(8,true),(9,true),(10,true)])],none⟩ [] (call Z.FT 100012 39) (nfN Z.TN 100012 39):=by have h:=Z.typed 100012 39;unfold aF7 at h;rw[Z.sigOk 39]at h;exact h
theorem attr_cl(i:Nat)(hi:i<a0t.size):dU [(1,true),(8,true),(9,true),(10,true)] i=some true\/∀(x:a0t.den) cs,bP a0t x cs->∀l z m ds,cs[i]?≠some (.sl l z m ds):=by
 have hi:i<11:=hi;have:i=1\/i=8\/i=9\/i=10\/(i≠1/\i≠8/\i≠9/\i≠10):=by omega
 rcases this with rfl|rfl|rfl|rfl|⟨h1,h2,h3,h4⟩;exact .inl rfl;exact .inl rfl;exact .inl rfl;exact .inl rfl;right;intro x cs h l z m ds;obtain⟨p,c,g,o,rfl,_⟩:=a1m h
 match i,hi,h1,h2,h3,h4 with
 |0,_,_,_,_,_=>simp|2,_,_,_,_,_=>simp|3,_,_,_,_,_=>simp|4,_,_,_,_,_=>simp|5,_,_,_,_,_=>simp|6,_,_,_,_,_=>simp|7,_,_,_,_,_=>simp|1,_,h1,_,_,_=>exact absurd rfl h1|n+8,hi,_,h2,h3,h4=>exfalso;omega
theorem a6k{a:a0s}(h:SmA a){v1:V}(hv:gP a0t a v1)(hb:∀u∈v1.cells,u.bare0):∃us,call Z.FT 100012 39 [v1] []=some (.agg us,[])/\bP a0t a us/\(∀u∈us,ownC u)/\
  ∀ {G:Gh} {w:World} {vs:List V} {cs:List Value} {bx:BX},VM.Start (fun _=>True) G w vs cs bx→∀ c1,Rel w (A0 G w) G.bxB v1 c1→∀ (W:World),Below w.heap.size w W →
    Calls Tryz.prog 39 #[c1] W fun e W1=>∃c Q,e=.returned c/\Below W.heap.size W W1/\Given G w W W1 a0t a (.agg us) c Q:=by
 obtain⟨v0,k1,k2,k3,k4⟩:=a5E (P:=Tryz.prog) Z.tableOk (f:=39) rfl z39 (fun p hp=>by simp at hp;exact⟨_,hp⟩) (by decide) rfl attr_cl (x:=a) (r:=a) (Z.clone_ok h (show 100010<=100011 by omega)) (vs0:=[v1]) ⟨v1,[],rfl,hv,rfl⟩ (by simpa using hb);have k2:gP a0t a v0:=k2;obtain⟨us,rfl⟩:∃us,v0=.agg us:=by have:=k2.2;cases v0<;>first|exact⟨_,rfl⟩|cases this
 refine⟨us,k1,k2.1,k3,fun{G w vs cs bx} hs c1 h1 W hW=>?_⟩;exact k4 hs [c1] (.cons _ _ _ _ h1 .nil) W hW
theorem a6l(l:List (Int×Int)):aC (cmW l)=[]:=by simp[cmW,cW];rintro v x y z h rfl h2;simp at h2;rcases h2 with rfl|rfl<;>rfl
theorem a6m:∀l:List (Int×Int),(cmC l).flatten.length=l.length*2
 |[]=>rfl|c::l=>by have:=a6m l;simp only[cmC,List.map_cons,List.flatten_cons,List.length_append,List.length_cons,List.length_nil]at this ⊢;omega
theorem a6n(l:List (Int×Int×Int)):aC (lgW l)=[]:=by simp[lgW,cW];rintro v x y z u h rfl h2;simp at h2;rcases h2 with rfl|rfl|rfl<;>rfl
theorem a6o:∀l:List (Int×Int×Int),(lgC l).flatten.length=l.length*3
 |[]=>rfl|c::l=>by have:=a6o l;simp only[lgC,List.map_cons,List.flatten_cons,List.length_append,List.length_cons,List.length_nil]at this ⊢;omega
theorem a2t{o:V}{us ws:List V}{r:a0s}(k1:call Z.FT 100012 39 [.agg us] []=some (.agg ws,[])):a1q [o,.agg us] r=[.agg [.int .i64 r.1,(ws.getD 1 .undef).mapLab1 fun _=>.none,.bool r.2.2.1.1,.int .u64 r.2.2.1.2.1,.int .u64 r.2.2.1.2.2,.int .i64 r.2.2.2.1,.int .i64 r.2.2.2.2.1,.int .i64 r.2.2.2.2.2.1,a5I 2 (ws.getD 8 .undef) (a0o r).length (cmW (a0o r)),a5I 3 (ws.getD 9 .undef) (a0f r).length (lgW (a0f r)),(ws.getD 10 .undef).mapLab1 fun _=>.none]]:=by unfold a1q;rw[show([o,V.agg us].drop 1)=[.agg us]from rfl,k1]
theorem a4l{o:V}{us ws:List V}{a r:a0s}{v:V}(k1:call Z.FT 100012 39 [.agg us] []=some (.agg ws,[]))(k2:bP a0t a ws)(hv:v∈a1q [o,.agg us] r):aN v=false/\v.flat=true/\∀xs,v≠.tup xs:=by
 rw[a2t k1,List.mem_singleton]at hv;clear k1;obtain⟨p,cc,l,o,rfl,hp,hc,hl,ho⟩:=a1m k2;clear k2;have one:∀{t:Ty} {x:(Ty.sl t).den} {v:V},bP (.sl t) x [v]->(v.mapLab1 fun _=>Lab.none).single=true/\∀z n ws,(a5I z v n ws).single=true:=fun{t x v} h=>by rcases h with⟨e,_⟩|⟨lb,rs,e,_⟩<;>(cases e;exact⟨rfl,fun _ _ _=>rfl⟩)
 have p1:=(one hp).1;have p2:=fun n ws=>(one hc).2 2 n ws
 have p3:=fun n ws=>(one hl).2 3 n ws
 have p4:=(one ho).1;subst hv;refine⟨rfl,?_,fun xs h=>by cases h⟩;show List.all [_,_,_,_,_,_,_,_,_,_,_] V.single=true;simp only[List.all_cons,List.all_nil,Bool.and_true,List.getD_cons_succ,List.getD_cons_zero,p1,p2,p3,p4,Bool.true_and];rfl
set_option maxRecDepth 100000 in
set_option maxHeartbeats 0 in
theorem a6p{Ω:World->Prop}:PrimOk Ω Tryz.prog 16 [] (pM [.int .i64,a0t] a1O a1q):=by
 obtain⟨c,hb⟩:∃c,Tryz.f16.body=some c:=⟨_,rfl⟩;have split:∀(x:Int×a0s) (vs:List V),iQ [.int .i64,a0t] x vs->∃us,vs=[.int .i64 x.1,.agg us]/\bP a0t x.2 us:=by
  rintro⟨own,a⟩ vs ⟨v,vs',rfl,h1,v1,vs2,rfl,h2,h3⟩;have h3:vs2=[]:=h3;subst h3;obtain⟨us,rfl⟩:∃us,v1=.agg us:=by have:=h2.2;cases v1<;>first|exact⟨_,rfl⟩|cases this
  refine⟨us,?_,h2.1⟩;have:=h1.1;have h4:=aG h1;have h5:v.cells=[V.int .i64 own]:=this;have h6:=h1.2;cases v<;>first|(cases h6;done)|simp_all[V.cells]
 refine pM_ok Tryz.func16 hb (by kernel_rfl) (fun vs x r hx hbare hg v hv=>?_) fun x r hg vs hx hbare G w cs bx hs=>?_
 obtain⟨us,rfl,h2⟩:=split x vs hx;unfold a1O at hg;split at hg;rename_i hsm;obtain⟨ws,k1,k2,_⟩:=a6k (a2X.1 hsm) (v1:=.agg us) ⟨h2,rfl⟩ (fun u hu=>hbare u (by simpa using .inr hu));exact a4l k1 k2 hv;cases hg
 .obtain⟨us,rfl,h2⟩:=split x vs hx;obtain⟨own,a⟩:=x;unfold a1O at hg;split at hg
  case isFalse=>cases hg
  rename_i hsm;cases hg;have hsm:SmA a:=a2X.1 hsm;have h2:bP a0t a us:=h2;obtain⟨ws,k1,k2,k3,k4⟩:=a6k hsm (v1:=.agg us) ⟨h2,rfl⟩ (fun u hu=>hbare u (by simpa using .inr hu));have hargs:=hs.args;cases hargs with
  |cons _ c0 _ cs1 r1 r2=>
   obtain⟨c1,rfl,r3⟩:=a0m r2;have e0:=r1.int_inv;subst e0;obtain⟨xs,rfl,r4⟩:=r3.agg_inv;have r5:=a3s h2 r4
   -- the argument's cells
   have hcells:∃(pa:Option Addr) (n1 c1:Nat) (ca:Option Addr) (n2 c2:Nat) (la:Option Addr) (n3 c3:Nat) (oa:Option Addr) (n4 c4:Nat),xs=#[.int .i64 a.1,.slice pa n1 c1,.bool a.2.2.1.1,.int .u64 a.2.2.1.2.1,.int .u64 a.2.2.1.2.2,.int .i64 a.2.2.2.1,.int .i64 a.2.2.2.2.1,.int .i64 a.2.2.2.2.2.1,.slice ca n2 c2,.slice la n3 c3,.slice oa n4 c4]:=by
    obtain⟨p,cc,l,o,rfl,hp,hc,hl,ho⟩:=a1m h2;have sl:∀{t:Ty} {x:(Ty.sl t).den} {v:V} {u:Value},bP (.sl t) x [v]->Rel w (A0 G w) G.bxB v u->∃o n c,u=.slice o n c:=fun{t x v u} h k=>by rcases h with⟨e,_⟩|⟨lb,rs,e,_⟩;cases e;exact⟨_,_,_,k.nils_inv⟩;cases e;obtain⟨a,cap,xs,e,_⟩:=k.sl_inv;exact⟨_,_,_,e⟩
    obtain⟨l0⟩:=xs;simp only at r4;cases r4 with|cons _ y0 _ z0 q0 r4=>
    cases r4 with|cons _ y1 _ z1 q1 r4=>
    cases r4 with|cons _ y2 _ z2 q2 r4=>
    cases r4 with|cons _ y3 _ z3 q3 r4=>
    cases r4 with|cons _ y4 _ z4 q4 r4=>
    cases r4 with|cons _ y5 _ z5 q5 r4=>
    cases r4 with|cons _ y6 _ z6 q6 r4=>
    cases r4 with|cons _ y7 _ z7 q7 r4=>
    cases r4 with|cons _ y8 _ z8 q8 r4=>
    cases r4 with|cons _ y9 _ z9 q9 r4=>
    cases r4 with|cons _ y10 _ z48 q10 r4=>
    cases r4;obtain⟨a1,b1,d1,e1⟩:=sl hp q1;obtain⟨a8,b8,d8,e8⟩:=sl hc q8;obtain⟨a9,b9,d9,e9⟩:=sl hl q9;obtain⟨a10,b10,d10,e48⟩:=sl ho q10;refine⟨a1,b1,d1,a8,b8,d8,a9,b9,d9,a10,b10,d10,?_⟩;rw[q0.int_inv,e1,q2.bool_inv,q3.int_inv,q4.int_inv,q5.int_inv,q6.int_inv,q7.int_inv,e8,e9,e48]
   obtain⟨pa,n1,c1,ca,n2,c2,la,n3,c3,oa,n4,c4,rfl⟩:=hcells;have hcall:=k4 hs.weak (.agg #[.int .i64 a.1,.slice pa n1 c1,.bool a.2.2.1.1,.int .u64 a.2.2.1.2.1,.int .u64 a.2.2.1.2.2,.int .i64 a.2.2.2.1,.int .i64 a.2.2.2.2.1,.int .i64 a.2.2.2.2.2.1,.slice ca n2 c2,.slice la n3 c3,.slice oa n4 c4]) r3 (W3 w own #[.int .i64 a.1,.slice pa n1 c1,.bool a.2.2.1.1,.int .u64 a.2.2.1.2.1,.int .u64 a.2.2.1.2.2,.int .i64 a.2.2.2.1,.int .i64 a.2.2.2.2.1,.int .i64 a.2.2.2.2.2.1,.slice ca n2 c2,.slice la n3 c3,.slice oa n4 c4]) (a2d _ _ _);generalize hargs:(#[.int .i64 a.1,.slice pa n1 c1,.bool a.2.2.1.1,.int .u64 a.2.2.1.2.1,.int .u64 a.2.2.1.2.2,.int .i64 a.2.2.2.1,.int .i64 a.2.2.2.2.1,.int .i64 a.2.2.2.2.2.1,.slice ca n2 c2,.slice la n3 c3,.slice oa n4 c4]:Array Value)=args at hcall;have hw3:=a6j w own args;have hwalk:=a5H own a.1 a.2.2.1.2.1 a.2.2.1.2.2 a.2.2.2.1 a.2.2.2.2.1 a.2.2.2.2.2.1 a.2.2.1.1 pa ca la oa n1 c1 n2 c2 n3 c3 n4 c4 (a0o a) (a0f a) w
    (fun W1 pv cv lv ov=>∃Q,Given G w (W3 w own args) W1 a0t a (.agg ws) (.agg #[.int .i64 a.1,pv,.bool a.2.2.1.1,.int .u64 a.2.2.1.2.1,.int .u64 a.2.2.1.2.2,.int .i64 a.2.2.2.1,.int .i64 a.2.2.2.2.1,.int .i64 a.2.2.2.2.2.1,cv,lv,ov]) Q)
    (fun v Wf=>Below w.heap.size w Wf/\RelL Wf (Abk G w Wf) G.bxB (a1q [.int .i64 own,.agg us] (a0H own a)) [v])
   rw[hargs]at hwalk;refine(hwalk (hcall.mono fun e W1 ⟨c,Q,e1,e2,e3⟩=>?_) fun W1 pv m1 d1 cv m2 d2 lv m3 d3 ov m4 d4 Wf ⟨Q,hG⟩ hcp hbel hkeep hr2 hr3=>⟨hbel,?_⟩).mono fun r W' ⟨v,e1,e2,e3⟩=>⟨[v],e1,e2,e3⟩
   obtain⟨p,cc,l,o,hcs,hp,hc,hl,ho⟩:=a3A e3.val;obtain⟨pv,m1,d1,rfl,_⟩:=a5a hp;obtain⟨cv,m2,d2,rfl,hn2⟩:=a5a hc;obtain⟨lv,m3,d3,rfl,hn3⟩:=a5a hl;obtain⟨ov,m4,d4,rfl,_⟩:=a5a ho;have hcc:c=.agg #[.int .i64 a.1,.slice pv m1 d1,.bool a.2.2.1.1,.int .u64 a.2.2.1.2.1,.int .u64 a.2.2.1.2.2,.int .i64 a.2.2.2.1,.int .i64 a.2.2.2.2.1,.int .i64 a.2.2.2.2.2.1,.slice cv m2 d2,.slice lv m3 d3,.slice ov m4 d4]:=by
    have hag:=e3.agg;cases c with
    |agg ys=>congr 1;exact Array.ext' hcs|_=>cases hag
   subst hcc;obtain⟨g1,g2⟩:=a5b (z:=2) rfl hc fun rs h=>a6h h
   obtain⟨g3,g4⟩:=a5b (z:=3) rfl hl fun rs h=>a6i h
   refine⟨pv,cv,lv,ov,m1,d1,m2,d2,m3,d3,m4,d4,e1,⟨e2,hn2,hn3,hsm.comm,hsm.large,g1,g3,g2,g4,fun g h1 h2=>?_⟩,Q,e3⟩;have b1:∀{o:Option Addr} {z n d:Nat} {rs:List Value},a1i W1 z o n d rs->a0G o=some g->o=some ⟨g,0,none⟩:=fun{o z n d rs} h k=>by rcases h with⟨rfl,_⟩|⟨g',_,_,_,rfl,_⟩;cases k;cases k;rfl
   obtain rfl:=b1 g1 h1;obtain rfl:=b1 g3 h2;have:=e3.one 8 9 g m2 d2 m3 d3 rfl rfl;omega;obtain⟨p,cc,l,o,hws,hp,hc,hl,ho⟩:=a1m k2;have hws:ws=[.int .i64 a.1,p,.bool a.2.2.1.1,.int .u64 a.2.2.1.2.1,.int .u64 a.2.2.1.2.2,.int .i64 a.2.2.2.1,.int .i64 a.2.2.2.2.1,.int .i64 a.2.2.2.2.2.1,cc,l,o]:=hws;have hblk:∀{co:Option Addr} {z n d:Nat} {rs:List Value},a1i W1 z co n d rs->∀b,a0G co=some b->co=some ⟨b,0,none⟩:=fun{co z n d rs} h b k=>by rcases h with⟨rfl,_⟩|⟨g',_,_,_,rfl,_⟩;cases k;cases k;rfl
   have hsame : ∀ (i : Nat) (u : Value), i ≠ 8 → i ≠ 9 → (#[Value.int .i64 a.1, .slice pv m1 d1, .bool a.2.2.1.1, .int .u64 a.2.2.1.2.1, .int .u64 a.2.2.1.2.2, .int .i64 a.2.2.2.1, .int .i64 a.2.2.2.2.1, .int .i64 a.2.2.2.2.2.1, .slice cv m2 d2, .slice lv m3 d3, .slice ov m4 d4] : Array Value).toList[i]? = some u → (∀ b, u.ownBlock = some b → ∃ n c, u = .slice (some ⟨b, 0, none⟩) n c ∧ w.heap.size + 3 ≤ b) →
       ∀b,b<W1.heap.size->(Q b\/u.ownBlock=some b)->Wf.heap[b]?=W1.heap[b]?:=fun i u i8 i9 hu hub b hb hq=>by
    refine hkeep b hb ?_ ?_ ?_;rcases hq with hq|hq;rcases hG.mid b hq with h|h;omega;rw[hw3]at h;omega;obtain⟨_,_,_,h⟩:=hub b hq;omega;intro e;have e1:=hblk hcp.r2 b e.symm;rcases hq with hq|hq;exact hG.off 8 b m2 d2 (by rw[e1];rfl) hq;obtain⟨n,c,rfl,_⟩:=hub b hq;exact i8 (hG.one i 8 b n c m2 d2 hu (by rw[e1];rfl));intro e;have e1:=hblk hcp.r3 b e.symm;rcases hq with hq|hq;exact hG.off 9 b m3 d3 (by rw[e1];rfl) hq;obtain⟨n,c,rfl,_⟩:=hub b hq;exact i9 (hG.one i 9 b n c m3 d3 hu (by rw[e1];rfl))
   obtain⟨x1,x8,x9,x10,hcs,y1,y8,y9,y10⟩:=a3A hG.val;simp only[Value.cells,List.cons.injEq,and_true,true_and]at hcs;obtain⟨rfl,rfl,rfl,rfl⟩:=hcs;have hub:∀{t:Ty} {x:(Ty.sl t).den} {u:Value},HCX W1 (W3 w own args).heap.size Q (.sl t) x [u]->∀b,u.ownBlock=some b->∃n c,u=.slice (some ⟨b,0,none⟩) n c/\w.heap.size+3<=b:=fun{t x u} h b hb=>by rw[hw3]at h;rcases h with⟨_,e⟩|⟨g,cap,cur,te,fr,e,h1,_⟩;cases e;cases hb;cases e;cases hb;exact⟨_,_,rfl,h1⟩
   have w1:=hG.wds 1 p _ Wf (by rw[hws];rfl) rfl (hsame 1 _ (by omega) (by omega) rfl (hub y1));have w10:=hG.wds 10 o _ Wf (by rw[hws];rfl) rfl (hsame 10 _ (by omega) (by omega) rfl (hub y10));have w8:=hG.wds 8 cc _ W1 (by rw[hws];rfl) rfl fun _ _ _=>rfl
   have w9:=hG.wds 9 l _ W1 (by rw[hws];rfl) rfl fun _ _ _=>rfl
   have hnil:∀{t:Ty} {x:(Ty.sl t).den} {v:V} {co:Option Addr} {n d:Nat},bP (.sl t) x [v]->RelL W1 (Abk G w W1) G.bxB [v.mapLab1 fun _=>Lab.none] [.slice co n d]->(v=.nils↔co=none):=fun{t x v co n d} h k=>by obtain⟨u,e,k⟩:=a0m k;cases e;rcases h with⟨e,_⟩|⟨lb,rs,e,_⟩;cases e;have:=k.nils_inv;cases this;exact⟨fun _=>rfl,fun _=>rfl⟩;cases e;obtain⟨aa,cap,xs,e,_⟩:=k.sl_inv;cases e;exact⟨fun h=>(by cases h),fun h=>(by cases h)⟩
   have hlow:∀{o:Option Addr},(∀g,a0G o=some g->(W3 w own _).heap.size<=g/\g<W1.heap.size)->∀g,a0G o=some g->w.heap.size<=g:=fun h g hg=>by have:=(h g hg).1;rw[hw3]at this;omega
   have f8:=a4k (G:=G) (w:=w) (ws:=cmW (a1N own (a0o a))) (u:=cc) hr2 (by omega) (hlow hcp.b2) (fun A B=>a7M Wf A B _) (a6l _) (a6m _) (hnil hc w8);have f9:=a4k (G:=G) (w:=w) (ws:=lgW (a2S own (a0f a))) (u:=l) hr3 (by omega) (hlow hcp.b3) (fun A B=>a7N Wf A B _) (a6n _) (a6o _) (hnil hl w9);obtain⟨_,e1,w1⟩:=a0m w1;cases e1;obtain⟨_,e1,w10⟩:=a0m w10;cases e1;rw[a2t k1];subst hws;exact .cons _ _ _ _ (.agg _ _ (.cons _ _ _ _ (.int _ _) (.cons _ _ _ _ w1 (.cons _ _ _ _ (.bool _) (.cons _ _ _ _ (.int _ _) (.cons _ _ _ _ (.int _ _) (.cons _ _ _ _ (.int _ _) (.cons _ _ _ _ (.int _ _) (.cons _ _ _ _ (.int _ _) (.cons _ _ _ _ f8 (.cons _ _ _ _ f9 (.cons _ _ _ _ w10 .nil)))))))))))) .nil
end Go.Proofs.YtgfmodmeimhhpaaGreatDoor
