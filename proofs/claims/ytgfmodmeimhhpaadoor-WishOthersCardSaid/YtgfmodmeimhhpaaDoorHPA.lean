/- Walked by hand: steps of a walk; an empty segment ahead. -/
import Derived.Test.YtgfmodmeimhhpaaDoorHRP
import Derived.Test.YtgfmodmeimhhpaaDoorHD
import Derived.Deep.RegionHeld3
import Derived.Deep.AppendLies
namespace Go.VM
open Go.RowKit
theorem step_append_ex{P:Program}{ops:Array Oper}{o:Oper}{a:Act}{w:World}{K:Act->World->Prop}{Q:Exit->Act->World->Prop}{E:Prop}{aJE:Value->World->Prop}(hgd:o.guard=none)(s x:Operand)(t u:TypeId)
  (ho:o.op=.call {callee:=.builtin .append,args:=#[s,x],argTypes:=#[t,u]}) (v y:Value) (hs:a.eval s=v) (hx:a.eval x=y)
  (hr:∃v' w',(Builtin.append_ #[t,u] o.type #[v,y]).run P w=.ok v' w'/\aJE v' w') (h:∀v' w',aJE v' w'->K (a.put o.dst v') w') :
  if Region.wanted o (yielded ops a.tmps)=true then Oper.wp P o a w K Q else E:=by
 have hw:Region.wanted o (yielded ops a.tmps)=true:=by simp[Region.wanted,hgd]
 rw[if_pos hw];obtain⟨v',w',hr,hp⟩:=hr;unfold Oper.wp execOp;simp only[ho,resolve,invoke,builtin,Sem.run_bind,Sem.run_pure,Result.andThen_ok,List.map_toArray,List.map_cons,List.map_nil,hs,hx,hr];exact h v' w' hp
theorem wpList_append_ex{P:Program}{ops:Array Oper}{rest:List Oper}{o:Oper}{a:Act}{w:World}{Q:Exit->Act->World->Prop}{aJE:Value->World->Prop}(hgd:o.guard=none)(s x:Operand)(t u:TypeId)
  (ho:o.op=.call {callee:=.builtin .append,args:=#[s,x],argTypes:=#[t,u]}) (v y:Value) (hs:a.eval s=v) (hx:a.eval x=y)
  (hr:∃v' w',(Builtin.append_ #[t,u] o.type #[v,y]).run P w=.ok v' w'/\aJE v' w') (h:∀v' w',aJE v' w'->wpList P ops Q rest (a.put o.dst v') w'):wpList P ops Q (o::rest) a w:=
 wpList_plain hgd fun _ hK=>by obtain⟨v',w',hr,hp⟩:=hr;unfold Oper.wp execOp;simp only[ho,resolve,invoke,builtin,Sem.run_bind,Sem.run_pure,Result.andThen_ok,List.map_toArray,List.map_cons,List.map_nil,hs,hx,hr];exact hK _ _ (h v' w' hp)
theorem grown_none{w w':World}(hb:Below w.heap.size w w')(row:Option Nat):w.grownBy w' row:=⟨hb.os,hb.tape,hb.output,hb.size,fun k hk _=>hb.block k hk⟩
theorem Deep.ins0{w w':World}{base:Nat}{v v':Value}{L:List (Bool×List Int)}{vs:List Value}(h:Deep w base v L vs)(hw:w'.ownsRow base 63 2 v' (L.length+1) ([.bool false,.slice none 0 0]++segC L vs))(hg:w.grownBy w' v.ownBlock)(hb:v'.ownBlock=v.ownBlock\/∃k,v'.ownBlock=some k/\w.heap.size<=k) :
  Deep w' base v' ((false,[])::L) (.slice none 0 0::vs):=by
 refine⟨by simp[h.len],hw,fun i hi hi'=>?_,fun i j hi hj hij k hk=>?_,fun i hi k hk=>?_⟩;cases i with
 |zero=>exact ownG_of (e:=3) (World.ownsRow_nil _ _ _ _)|succ i=>
  have hx:i<vs.length:=by simpa using hi'
  refine(h.ins i (by simpa using hi) hx).kept hg ?_;by_cases h0:vs[i].ownBlock=none;exact .inl h0;obtain⟨k,hk⟩:=Option.ne_none_iff_exists'.1 h0;exact .inr fun e=>h.out i hx k hk (by rw[<-e];exact hk)
 cases i with|zero=>cases hk|succ i=>cases j with
  |zero=>intro q;cases q|succ j=>exact h.apart i j (by simpa using hi) (by simpa using hj) (fun e=>hij (by rw[e])) k hk
 cases i with|zero=>cases hk|succ i=>
  have hx:i<vs.length:=by simpa using hi
  rcases hb with hb|⟨g,hb,hge⟩;rw[hb];exact h.out i hx k hk;rw[hb];intro e;cases e;have:=((h.ins i (by rw[<-h.len];exact hx) hx).lt _ hk).2;omega
end Go.VM
