/- Walked by hand: steps of a walk; an empty segment ahead. -/
import Derived.Test.YtgfmodmeimhhpaaGreatDoorHRP
import Derived.Test.YtgfmodmeimhhpaaGreatDoorHD
import Derived.Deep.RegionHeld3
import Derived.Deep.AppendLies
namespace Go.VM
open Go.RowKit
theorem step_append_ex{P:Program}{ops:Array Oper}{o:Oper}{a:Act}{w:World}{K:Act->World->Prop}{Q:Exit->Act->World->Prop}{E:Prop}{aJE:Value->World->Prop}(hgd:o.guard=none)(s x:Operand)(t u:TypeId)
  (ho:o.op=.call {callee:=.builtin .append,args:=#[s,x],argTypes:=#[t,u]}) (v y:Value) (hs:a.eval s=v) (hx:a.eval x=y)
  (hr:∃v' w',(Builtin.append_ #[t,u] o.type #[v,y]).run P w=.ok v' w'/\aJE v' w') (h:∀v' w',aJE v' w'->K (a.put o.dst v') w') :
  if Region.wanted o (yielded ops a.tmps)=true then Oper.wp P o a w K Q else E:=by
 have hw:Region.wanted o (yielded ops a.tmps)=true:=by simp[Region.wanted,hgd]
 rw[if_pos hw];obtain⟨v',w',hr,hp⟩:=hr;unfold Oper.wp execOp;simp only[ho,resolve,invoke,builtin,Sem.run_bind,Sem.run_pure,Result.andThen_ok,List.map_toArray,List.map_cons,List.map_nil,hs,hx,hr];exact h v' w' hp
theorem wpList_append_ex{P:Program}{ops:Array Oper}{rest:List Oper}{o:Oper}{a:Act}{w:World}{Q:Exit->Act->World->Prop}{aJE:Value->World->Prop}(hgd:o.guard=none)(s x:Operand)(t u:TypeId)
  (ho:o.op=.call {callee:=.builtin .append,args:=#[s,x],argTypes:=#[t,u]}) (v y:Value) (hs:a.eval s=v) (hx:a.eval x=y)
  (hr:∃v' w',(Builtin.append_ #[t,u] o.type #[v,y]).run P w=.ok v' w'/\aJE v' w') (h:∀v' w',aJE v' w'->wpList P ops Q rest (a.put o.dst v') w'):wpList P ops Q (o::rest) a w:=
 wpList_plain hgd fun _ hK=>by
  obtain⟨v',w',hr,hp⟩:=hr;unfold Oper.wp execOp;simp only[ho,resolve,invoke,builtin,Sem.run_bind,Sem.run_pure,Result.andThen_ok,List.map_toArray,List.map_cons,List.map_nil,hs,hx,hr];exact hK _ _ (h v' w' hp)
end Go.VM
