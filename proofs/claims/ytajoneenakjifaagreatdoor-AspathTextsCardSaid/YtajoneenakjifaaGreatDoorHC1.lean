/- Walked by hand: a copy in place and a clear, as the machine does them. -/
import Derived.Laws.CopyRow
import Derived.Laws.IdiomCopy
import Derived.Laws.AppendOwn
import Derived.Lib.AppendZerosOnto
import Derived.Lib.Overlaps
import Derived.Laws.NewBlocks
import Derived.Test.YtajoneenakjifaaGreatDoorChecked
import Derived.Shelf.RegionOpenPlain
import Derived.WalkKit
import Derived.Lib.Walk
import Derived.Lib.SliceRun
import Derived.Lib.JoinLaws
import Derived.Lib.AppendZeros
import Derived.Lib.OwnBridge
import Derived.Laws.Externs
import Derived.Lib.Hide
import Derived.Maps.AppendAt
import Derived.Test.YtajoneenakjifaaGreatDoorDP
import Derived.Deep.LoopGhost
import Derived.Lib.Mul64
import Derived.Test.YtajoneenakjifaaGreatDoorShelf
import Derived.Test.YtajoneenakjifaaGreatDoorHD
import Derived.Deep.RegionHeld3
import Derived.Deep.AppendLies
namespace Go.VM
end Go.VM

/- Walked by hand: slices.Insert of one element. -/
namespace Go.Proofs.YtajoneenakjifaaGreatDoor
open Go.RowKit Go.Lib Go.VM
theorem info_e:(Tryz.prog.info? 39).map (fun i=>(i.zero,i.size,i.bytes))=some (some (.agg #[.bool false,.slice none 0 0]),2,32):=by kernel_rfl
end Go.Proofs.YtajoneenakjifaaGreatDoor

/- Walked by hand: slices.Insert in a row of its own. -/
namespace Go.Proofs.YtajoneenakjifaaGreatDoor
open Go.RowKit Go.Lib Go.VM
end Go.Proofs.YtajoneenakjifaaGreatDoor

/- Walked by hand: slices.Clone. -/
namespace Go.Proofs.YtajoneenakjifaaGreatDoor
open Go.RowKit Go.Lib Go.VM
theorem info_i:(Tryz.prog.info? 3).map (fun i=>(i.zero,i.size,i.bytes))=some (some (.int .i64 0),1,8):=by kernel_rfl
end Go.Proofs.YtajoneenakjifaaGreatDoor

/- Walked by hand: owned: a copy of a path. -/
namespace Go.Proofs.YtajoneenakjifaaGreatDoor
open Go.RowKit Go.Lib Go.VM
structure OwInv (w0:World) (L:List (Bool×List Int)) (us:List Value) (g n c:Nat) (wr:World) (xs:List Value) (kk:Nat):Prop where
 num:n=L.length
 len:xs.length=L.length
 row:wr.ownsRow w0.heap.size 39 2 (.slice (some ⟨g,0,none⟩) n c) n (segC L xs)
 done:∀ i (_:i < L.length) (_:i < xs.length),i < kk→wr.ownsRow w0.heap.size 3 1 xs[i] L[i].2.length (intC L[i].2)∧∀ k,xs[i].ownBlock=some k→g < k
 todo:∀ i (_:i < xs.length) (_:i < us.length),kk≤i→xs[i]=us[i]
 apart:∀ i j (_:i < xs.length) (_:j < xs.length),i < kk→j < kk→i≠j→∀ k,xs[i].ownBlock=some k→xs[j].ownBlock≠some k
 bel:Below w0.heap.size w0 wr
theorem OwInv.step {w0 : World} {L : List (Bool × List Int)} {us : List Value} {g n c : Nat} {wr w2 : World} {xs : List Value} {kk : Nat} {u : Value} (h : OwInv w0 L us g n c wr xs kk) (hk : kk < L.length) (hb : Below wr.heap.size wr w2)
  (hu:w2.ownsRow wr.heap.size 3 1 u L[kk].2.length (intC L[kk].2)):OwInv w0 L us g n c (w2.setCell ⟨g,kk * 2+1,none⟩ u) (xs.set kk u) (kk+1):=by
 have hgw:g < wr.heap.size:=(World.ownsRow.lt h.row g rfl).2
 have hg0:w0.heap.size≤g:=(World.ownsRow.lt h.row g rfl).1
 have hgr:wr.grownBy w2 none:=⟨hb.os,hb.tape,hb.output,hb.size,fun k hk _=>hb.block k hk⟩
 have hrow:=h.row.kept hgr (.inr (by simp [Value.ownBlock]))
 obtain ⟨s1,s2⟩:=hrow.stored (kk * 2+1) u
 rw [segC_set u h.len] at s1
 have hug:∀ k,u.ownBlock=some k→wr.heap.size≤k:=fun k hk=>(World.ownsRow.lt hu k hk).1
 have hne:∀ x:Value,x.ownBlock≠some g→x.ownBlock=none∨x.ownBlock≠some g:=fun x hx=>.inr hx
 have hnn:∀ x:Value,x.ownBlock=none∨x.ownBlock≠none:=fun x=>Classical.em _
 refine ⟨h.num,by simp [h.len],s1,fun i hi hi' hik=>?_,fun i hi hi' hik=>?_,fun i j hi hj hik hjk hij k hk'=>?_,?_⟩
 · have hx:i < xs.length:=by simpa using hi'
   by_cases e:kk=i
   · subst e
     rw [List.getElem_set_self]
     refine ⟨(hu.kept s2 (hne _ fun q=>?_)).mono h.bel.size,fun k hk'=>?_⟩
     · have:=hug g q; omega
     · have:=hug k hk'; omega
   · rw [List.getElem_set_ne e]
     obtain ⟨q1,q2⟩:=h.done i hi hx (by omega)
     refine ⟨(q1.kept hgr (hnn _)).kept s2 (hne _ fun q=>?_),q2⟩
     have:=q2 g q; omega
 · have hx:i < xs.length:=by simpa using hi
   rw [List.getElem_set_ne (by omega)]
   exact h.todo i hx hi' (by omega)
 · have hx:i < xs.length:=by simpa using hi
   have hy:j < xs.length:=by simpa using hj
   have hold:∀ q (hq:q < xs.length),q < kk→∀ b,u.ownBlock=some b→xs[q].ownBlock≠some b:=fun q hq hqk b hub hqb=>by
    have:=(World.ownsRow.lt (h.done q (by rw [← h.len]; exact hq) hq hqk).1 b hqb).2
    have:=hug b hub
    omega
   by_cases e1:kk=i
   · subst e1
     rw [List.getElem_set_self] at hk'
     rw [List.getElem_set_ne hij]
     exact hold j hy (by omega) k hk'
   · rw [List.getElem_set_ne e1] at hk'
     by_cases e2:kk=j
     · subst e2
       rw [List.getElem_set_self]
       exact fun hub=>hold i hx (by omega) k hub hk'
     · rw [List.getElem_set_ne e2]
       exact h.apart i j hx hy (by omega) (by omega) hij k hk'
 · refine (h.bel.trans (hb.mono h.bel.size)).trans ⟨s2.os,s2.tape,s2.output,s2.size,fun k hk'=>s2.block k (Nat.lt_of_lt_of_le hk' (Nat.le_trans h.bel.size hb.size)) (fun e=>by cases e; omega)⟩
theorem OwInv.deep {w0:World} {L:List (Bool×List Int)} {us:List Value} {g n c:Nat} {wr:World} {xs:List Value} (h:OwInv w0 L us g n c wr xs n):Deep wr w0.heap.size (.slice (some ⟨g,0,none⟩) n c) L xs:=by
 have hn:=h.num
 refine ⟨h.len,by have:=h.row; rw [← hn]; exact this,fun i hi hi'=>ownG_of (h.done i hi hi' (by omega)).1,fun i j hi hj hij=>h.apart i j hi hj (by have:=h.len; omega) (by have:=h.len; omega) hij,fun i hi k hk e=>?_⟩
 have:=(h.done i (by rw [← h.len]; exact hi) hi (by have:=h.len; omega)).2 k hk
 have e:some g=some k:=e
 cases e; omega
end Go.Proofs.YtajoneenakjifaaGreatDoor

/- Walked by hand: slices.Repeat of one number. -/
namespace Go.Proofs.YtajoneenakjifaaGreatDoor
open Go.RowKit Go.Lib Go.VM
/-- The row that a repetition fills: the first m cells are written. -/
def repRow (k:Int) (n m:Nat):Array Value:=(List.replicate m (Value.int .i64 k)++List.replicate (n - m) (Value.int .i64 0)).toArray
structure RepInv (k:Int) (n:Nat) (w:World) (g:Nat) (wr:World) (m:Nat):Prop where
 row:wr.heap[g]?=some (.cells (repRow k n m) 3 (0,0))
 hm:0 < m∧m≤n
 lo:w.heap.size≤g
 bel:Below w.heap.size w wr
end Go.Proofs.YtajoneenakjifaaGreatDoor

/- Walked by hand: steps of a walk; an empty segment ahead. -/
namespace Go.VM
open Go.RowKit
theorem step_append_ex {P : Program} {ops : Array Oper} {o : Oper} {a : Act} {w : World} {K : Act → World → Prop} {Q : Exit → Act → World → Prop} {E : Prop} {aJE : Value → World → Prop} (hgd : o.guard = none) (s x : Operand) (t u : TypeId)
  (ho:o.op=.call { callee:=.builtin .append,args:=#[s,x],argTypes:=#[t,u] }) (v y:Value) (hs:a.eval s=v) (hx:a.eval x=y)
  (hr:∃ v' w',(Builtin.append_ #[t,u] o.type #[v,y]).run P w=.ok v' w'∧aJE v' w') (h:∀ v' w',aJE v' w'→K (a.put o.dst v') w') :
  if Region.wanted o (yielded ops a.tmps)=true then Oper.wp P o a w K Q else E:=by
 have hw:Region.wanted o (yielded ops a.tmps)=true:=by simp [Region.wanted,hgd]
 rw [if_pos hw]
 obtain ⟨v',w',hr,hp⟩:=hr
 unfold Oper.wp execOp
 simp only [ho,resolve,invoke,builtin,Sem.run_bind,Sem.run_pure,Result.andThen_ok,List.map_toArray,List.map_cons,List.map_nil,hs,hx,hr]
 exact h v' w' hp
theorem wpList_append_ex {P : Program} {ops : Array Oper} {rest : List Oper} {o : Oper} {a : Act} {w : World} {Q : Exit → Act → World → Prop} {aJE : Value → World → Prop} (hgd : o.guard = none) (s x : Operand) (t u : TypeId)
  (ho:o.op=.call { callee:=.builtin .append,args:=#[s,x],argTypes:=#[t,u] }) (v y:Value) (hs:a.eval s=v) (hx:a.eval x=y)
  (hr:∃ v' w',(Builtin.append_ #[t,u] o.type #[v,y]).run P w=.ok v' w'∧aJE v' w') (h:∀ v' w',aJE v' w'→wpList P ops Q rest (a.put o.dst v') w'):wpList P ops Q (o::rest) a w :=
 wpList_plain hgd fun _ hK=>by
  obtain ⟨v',w',hr,hp⟩:=hr
  unfold Oper.wp execOp
  simp only [ho,resolve,invoke,builtin,Sem.run_bind,Sem.run_pure,Result.andThen_ok,List.map_toArray,List.map_cons,List.map_nil,hs,hx,hr]
  exact hK _ _ (h v' w' hp)
theorem grown_none {w w':World} (hb:Below w.heap.size w w') (row:Option Nat):w.grownBy w' row:=⟨hb.os,hb.tape,hb.output,hb.size,fun k hk _=>hb.block k hk⟩
end Go.VM
