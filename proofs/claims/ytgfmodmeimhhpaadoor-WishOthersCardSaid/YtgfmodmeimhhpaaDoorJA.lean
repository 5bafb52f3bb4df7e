/- Walked by hand: a copy in place and a clear, as the machine does them. -/
import Derived.Laws.CopyRow
import Derived.Laws.IdiomCopy
import Derived.Laws.AppendOwn
import Derived.Lib.AppendZerosOnto
import Derived.Lib.Overlaps
import Derived.Laws.NewBlocks
import Derived.Test.YtgfmodmeimhhpaaDoorChecked
import Derived.Shelf.RegionOpenPlain
import Derived.WalkKit
import Derived.Lib.Walk
import Derived.Lib.SliceRun
import Derived.Lib.JoinLaws
import Derived.Lib.AppendZeros
import Derived.Lib.OwnBridge
import Derived.Laws.Externs
import Derived.Lib.Hide
import Derived.Maps.AppendAt
namespace Go.VM
theorem run_copy_z{P:Program}(w:World)(dT sT ty elem:TypeId)(z g o dLen dCap:Nat)(a:Addr)(sLen sCap:Nat)(cur:Array Value)(t:TypeId)(cs:List Value)
  (hu:P.underlying dT=some (.slice elem)) (hs:(P.info? elem).map (·.size)=some z)
  (hg:w.heap[g]?=some (.cells cur t (0,0))) (hn:cs.length=Nat.min sLen dLen*z)
  (hsrc:∀j v,cs[j]?=some v->w.cell? (a.add j)=some v) (hfit:o+cs.length<=cur.size) (h1:∀v∈cs,v.oneCell'=true) :
  (Builtin.copy_ #[dT,sT] ty #[.slice (some ⟨g,o,none⟩) dLen dCap,.slice (some a) sLen sCap]).run P w=
   .ok (goInt (Nat.min sLen dLen)) (w.setRow g (cur.toList.take o++cs++cur.toList.drop (o+cs.length)).toArray):=by
 have hl:=run_loadCells_list (P:=P) w a cs hsrc;have hst:=run_storeCells_at P g o t cs 0 cur w hg (by simpa using hfit) h1;cases hq:P.info? elem with
 |none=>simp[hq]at hs|some i=>
  have hi:i.size=z:=by simpa[hq]using hs
  rw[hn]at hl;simp[Builtin.copy_,run_underlying hu,Builtin.lenOf,Builtin.firstCells,sizeOf,typeInfo,hq,hi,hl,hst]
end Go.VM
namespace Go.Proofs.YtgfmodmeimhhpaaDoor
open Go.RowKit Go.Lib Go.VM
theorem info_e:(Tryd.prog.info? 63).map (fun i=>(i.zero,i.size,i.bytes))=some (some (.agg #[.bool false,.slice none 0 0]),2,32):=by kernel_rfl
theorem step_copy_runI{P:Program}{ops:Array Oper}{o:Oper}{a:Act}{w:World}{K:Act->World->Prop}{Q:Exit->Act->World->Prop}{E:Prop}
  (hg:o.guard=none) (d x:Operand) (dT sT:TypeId) (hop:o.op=Op.call {callee:=Callee.builtin Builtin.copy,args:=#[d,x],argTypes:=#[dT,sT]})
  (v u:Value) (hd:a.eval d=v) (hx:a.eval x=u) {v':Value} {w':World} (hr:(Builtin.copy_ #[dT,sT] o.type #[v,u]).run P w=.ok v' w') (hK:K (a.put o.dst v') w') :
  if Region.wanted o (yielded ops a.tmps)=true then Oper.wp P o a w K Q else E:=by
 have hw:Region.wanted o (yielded ops a.tmps)=true:=by simp[Region.wanted,hg]
 rw[if_pos hw];unfold Oper.wp;simp[execOp,hop,resolve,invoke,builtin,hd,hx,hr,Result.andThen];exact hK
set_option maxHeartbeats 4000000 in
set_option maxRecDepth 100000 in
theorem ins_end(base:Nat)(s:Value)(n c vb:Nat)(a:Option Addr)(xs ds:List Value)(w:World)(hs:s=.slice a n c)(hown:w.ownsRow base 63 2 s n xs)(hbase:base<=w.heap.size)(hn:n+1<=4294967295)
  (hv:w.heap[vb]?=some (.cells ds.toArray 63 (0,0))) (hdl:ds.length=2) (hd1:∀v∈ds,v.oneCell'=true) :
  Calls Tryd.prog 50 #[.slice a n c,.int .i64 n,.slice (some ⟨vb,0,none⟩) 1 1] w fun r w'=>∃v',r=.returned v'/\w'.ownsRow base 63 2 v' (n+1) (xs++ds)/\w.grownBy w' s.ownBlock/\(v'.ownBlock=s.ownBlock\/v'.ownBlock=some w.heap.size):=by
 have u22:∀w,Sem.run Tryd.prog (underlying 43) w=.ok (TypeDesc.slice 63) w:=run_underlying Tryd.underlying43;obtain⟨i0,hi0,hz0,hzs,hzb⟩:=info_parts info_e;have H1:=Lib.hid hown;have H2:=Lib.hid hv;have H3:=Lib.hid hdl;have H4:=Lib.hid hd1;have H5:=Lib.hid hs;clear hown hv hdl hd1 hs
 go_enter Tryd.func50,Tryd.ntmps50
 go_wp2_with (at_builtin;refine wpList_append_own_at _ rfl _ _ 43 rfl base 63 i0 (.agg #[.bool false,.slice none 0 0]) 2 32 Tryd.underlying43 hi0 hz0 hzs hzb rfl (by omega) (.slice a n c) n xs rfl (H5.out▸H1.out) ⟨vb,0,none⟩ 1 1 ds rfl H3.out (fun j u hj=>by rw[Addr.add_lit];simpa[World.cell?,H2.out]using hj) H4.out (by unfold maxLen;omega) (by omega) hbase ?_;intro v' w1 hown' hgrow hnil hat;have X:=Lib.hid (And.intro hown' (And.intro hgrow hat));clear hown' hgrow hnil hat)
 all_goals
  go_ret
  exact⟨_,rfl,X.out.1,by rw[H5.out];exact X.out.2⟩
end Go.Proofs.YtgfmodmeimhhpaaDoor
namespace Go.Proofs.YtgfmodmeimhhpaaDoor
open Go.RowKit Go.Lib Go.VM
theorem setRow_grown(w:World)(g:Nat)(R:Array Value):w.grownBy (w.setRow g R) (some g):=by refine⟨rfl,rfl,rfl,?_,fun k hk hne=>?_⟩;show _<=(w.heap.modify g _).size;rw[Array.size_modify];exact Nat.le_refl _;show(w.heap.modify g _)[k]?=_;rw[Array.getElem?_modify,if_neg (fun h=>hne (by rw[h]))]
end Go.Proofs.YtgfmodmeimhhpaaDoor
