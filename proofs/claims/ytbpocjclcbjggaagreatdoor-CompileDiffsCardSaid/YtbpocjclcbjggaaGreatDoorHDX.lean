/- 'twice' and 'different' as entries of the table. -/
import Derived.Test.YtbpocjclcbjggaaGreatDoorHDF
namespace Go.Proofs.YtbpocjclcbjggaaGreatDoor
open Go.RowKit Go.Lib Go.VM
def smB(d:DbT):Bool:=decide ((srv d).length<=1000)&&decide ((mem d).length<=1000)&&(allM d).all (fun m=>decide ((poL m).length<=40))&&(allP d).all fun p=>decide ((maL p).length<=1000)
theorem smB_iff{d:DbT}:smB d=true↔SmD d:=by
 unfold smB;simp only[Bool.and_eq_true,decide_eq_true_eq,List.all_eq_true];exact⟨fun⟨⟨⟨a,b⟩,c⟩,e⟩=>⟨a,b,c,e⟩,fun h=>⟨⟨⟨h.srv,h.mem⟩,h.po⟩,h.ma⟩⟩
def gTw(d:DbT):Option Bool:=if smB d=true then some (twD d)else none
def gDf(d:DbT):Option Bool:=if smB d=true then some (dfD d)else none
def enB(_:List V)(b:Bool):List V:=[.bool b]
theorem db_prim{Ω:World->Prop}{P:Program}{f:Nat}{fn:Func}{c:Code}{D:DbT->Bool}{g:DbT->Option Bool}(hg:∀d r,g d=some r->SmD d/\r=D d)(hf:P.funcs[f]?=some fn)(hb:fn.body=some c)(hname:(fn.name == "runtime.NumGoroutine")=false)
  (hw:∀(d:DbT),SmD d->∀(x0 x1 x2 x3 x4 x5 x6 x7:Value) (o1 o2:Option Addr) (n1 n2 c1 c2:Nat) (w:World),HC w (fun b=>b<w.heap.size) tyDb d [x0,x1,x2,x3,x4,x5,x6,x7,.slice o1 n1 c1,.slice o2 n2 c2]->
   HC w (fun b=>b<w.heap.size) (.sl tyMe) (srv d) [.slice o1 n1 c1]->HC w (fun b=>b<w.heap.size) (.sl tyMe) (mem d) [.slice o2 n2 c2]->Calls P f #[.agg #[x0,x1,x2,x3,x4,x5,x6,x7,.slice o1 n1 c1,.slice o2 n2 c2]] w (TwPost w (D d))):PrimOk Ω P f [] (pH [tyDb] g enB):=by
 refine pH_ok hf hb hname (fun vs x r _ _ v hv=>?_) fun x r hx vs ht w A B cs _ hr=>?_
 .rw[enB,List.mem_singleton]at hv;subst hv;exact⟨rfl,rfl,fun xs h=>by cases h⟩
 .obtain⟨hd,rfl⟩:=hg x r hx;obtain⟨c,cs',rfl,h1,h2⟩:=trel_hvs ht hr;cases h2;obtain⟨xs,rfl,h3⟩:=hv_agg h1 rfl;have h3:HC w (fun b=>b<w.heap.size) tyDb (x:DbT) xs.toList:=h3;obtain⟨u,v,h4,h5,h6⟩:=hc_db (d:=x) h3;obtain⟨o1,n1,c1,rfl⟩:=hc_sh h5;obtain⟨o2,n2,c2,rfl⟩:=hc_sh h6;rw[h4]at h3;have e:xs=(dbC (x:DbT) (.slice o1 n1 c1) (.slice o2 n2 c2)).toArray:=(Array.toArray_toList).symm.trans (congrArg List.toArray h4);subst e;exact(hw x hd _ _ _ _ _ _ _ _ o1 o2 n1 n2 c1 c2 w h3 h5 h6).mono fun e w' ⟨q1,q2⟩=>⟨[.bool (D x)],q1,q2,.cons _ _ _ _ (.bool _) .nil⟩
theorem hB{g:DbT->Option Bool}:∀x r,g x=some r->∀vs,iQ [tyDb] x vs->iQ [.bool] r (enB vs r)/\∀c∈(enB vs r).flatMap V.cells,c.bare0:=fun x r _ vs _=>
 ⟨⟨_,_,rfl,⟨rfl,rfl⟩,rfl⟩,fun c hc=>by
  have:c=.bool r:=by simpa[enB,V.cells]using hc
  subst this;trivial⟩
theorem gTw_inv(d:DbT)(r:Bool)(h:gTw d=some r):SmD d/\r=twD d:=by
 unfold gTw at h;split at h
 .rename_i hs;cases h;exact⟨smB_iff.1 hs,rfl⟩
 .cases h
theorem gDf_inv(d:DbT)(r:Bool)(h:gDf d=some r):SmD d/\r=dfD d:=by
 unfold gDf at h;split at h
 .rename_i hs;cases h;exact⟨smB_iff.1 hs,rfl⟩
 .cases h
theorem primTw{Ω:World->Prop}:PrimOk Ω Tryz.prog 75 [] (pH [tyDb] gTw enB):=by
 obtain⟨c,hb⟩:∃c,Tryz.f75.body=some c:=⟨_,rfl⟩;exact db_prim gTw_inv Tryz.func75 hb (by kernel_rfl) twice_walk
theorem primDf{Ω:World->Prop}:PrimOk Ω Tryz.prog 70 [] (pH [tyDb] gDf enB):=by
 obtain⟨c,hb⟩:∃c,Tryz.f70.body=some c:=⟨_,rfl⟩;exact db_prim gDf_inv Tryz.func70 hb (by kernel_rfl) different_walk
end Go.Proofs.YtbpocjclcbjggaaGreatDoor
