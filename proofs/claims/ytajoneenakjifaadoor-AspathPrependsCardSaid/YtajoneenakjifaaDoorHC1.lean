/- Walked by hand: a copy in place and a clear, as the machine does them. -/
import Derived.Laws.CopyRow
import Derived.Laws.IdiomCopy
import Derived.Laws.AppendOwn
import Derived.Lib.AppendZerosOnto
import Derived.Lib.Overlaps
import Derived.Laws.NewBlocks
import Derived.Test.YtajoneenakjifaaDoorChecked
import Derived.Shelf.RegionOpenPlain
import Derived.WalkKit
import Derived.Lib.Walk
import Derived.Lib.SliceRun
import Derived.Lib.JoinLaws
import Derived.Lib.AppendZeros
import Derived.Lib.OwnBridge
import Derived.Laws.Externs
import Derived.Lib.Hide
import Derived.Maps.AppendAt
import Derived.Test.YtajoneenakjifaaDoorDP
import Derived.Deep.LoopGhost
import Derived.Lib.Mul64
import Derived.Test.YtajoneenakjifaaDoorShelf
namespace Go.VM
theorem run_copy_z {P : Program} (w : World) (dT sT ty elem : TypeId) (z g o dLen dCap : Nat) (a : Addr) (sLen sCap : Nat) (cur : Array Value) (t : TypeId) (cs : List Value)
  (hu:P.underlying dT=some (.slice elem)) (hs:(P.info? elem).map (·.size)=some z)
  (hg:w.heap[g]?=some (.cells cur t (0,0))) (hn:cs.length=Nat.min sLen dLen * z)
  (hsrc:∀ j v,cs[j]?=some v→w.cell? (a.add j)=some v) (hfit:o+cs.length≤cur.size) (h1:∀ v∈cs,v.oneCell'=true) :
  (Builtin.copy_ #[dT,sT] ty #[.slice (some ⟨g,o,none⟩) dLen dCap,.slice (some a) sLen sCap]).run P w =
   .ok (goInt (Nat.min sLen dLen)) (w.setRow g (cur.toList.take o++cs++cur.toList.drop (o+cs.length)).toArray):=by
 have hl:=run_loadCells_list (P:=P) w a cs hsrc
 have hst:=run_storeCells_at P g o t cs 0 cur w hg (by simpa using hfit) h1
 cases hq:P.info? elem with
 | none=>simp [hq] at hs
 | some i =>
  have hi:i.size=z:=by simpa [hq] using hs
  rw [hn] at hl
  simp [Builtin.copy_,run_underlying hu,Builtin.lenOf,Builtin.firstCells,sizeOf,typeInfo,hq,hi,hl,hst]
end Go.VM

/- Walked by hand: slices.Insert of one element. -/
namespace Go.Proofs.YtajoneenakjifaaDoor
open Go.RowKit Go.Lib Go.VM
theorem info_e:(Tryd.prog.info? 36).map (fun i=>(i.zero,i.size,i.bytes))=some (some (.agg #[.bool false,.slice none 0 0]),2,32):=by kernel_rfl
theorem size_e:(Tryd.prog.info? 36).map (·.size)=some 2:=by kernel_rfl
theorem wp_copy_runI {P : Program} (w : World) {o : Oper} {a : Act} {K : Act → World → Prop} {Q : Exit → Act → World → Prop} (d s : Operand) (t t' : TypeId)
  (ho:o.op=.call { callee:=.builtin .copy,args:=#[d,s],argTypes:=#[t,t'] }) (v u:Value) (hd:a.eval d=v) (hs:a.eval s=u) {v':Value} {w':World}
  (hr:(Builtin.copy_ #[t,t'] o.type #[v,u]).run P w=.ok v' w') (h:K (a.put o.dst v') w'):o.wp P a w K Q:=by
 unfold Oper.wp execOp
 simp only [ho,resolve,invoke,builtin,Sem.run_bind,Sem.run_pure,Result.andThen_ok,List.map_toArray,List.map_cons,List.map_nil,hd,hs,hr]
 exact h
theorem wpList_copy_runI {P : Program} (w : World) {ops : Array Oper} {rest : List Oper} {o : Oper} {a : Act} {Q : Exit → Act → World → Prop} (hgd : o.guard = none) (d s : Operand) (t t' : TypeId)
  (ho:o.op=.call { callee:=.builtin .copy,args:=#[d,s],argTypes:=#[t,t'] }) (v u:Value) (hd:a.eval d=v) (hs:a.eval s=u) {v':Value} {w':World}
  (hr:(Builtin.copy_ #[t,t'] o.type #[v,u]).run P w=.ok v' w') (h:wpList P ops Q rest (a.put o.dst v') w'):wpList P ops Q (o::rest) a w :=
 wpList_plain hgd fun _ hK=>wp_copy_runI w d s t t' ho v u hd hs hr (hK _ _ h)
theorem step_copy_runI {P : Program} {ops : Array Oper} {o : Oper} {a : Act} {w : World} {K : Act → World → Prop} {Q : Exit → Act → World → Prop} {E : Prop}
  (hg:o.guard=none) (d x:Operand) (dT sT:TypeId) (hop:o.op=Op.call { callee:=Callee.builtin Builtin.copy,args:=#[d,x],argTypes:=#[dT,sT] })
  (v u:Value) (hd:a.eval d=v) (hx:a.eval x=u) {v':Value} {w':World} (hr:(Builtin.copy_ #[dT,sT] o.type #[v,u]).run P w=.ok v' w') (hK:K (a.put o.dst v') w') :
  if Region.wanted o (yielded ops a.tmps)=true then Oper.wp P o a w K Q else E:=by
 have hw:Region.wanted o (yielded ops a.tmps)=true:=by simp [Region.wanted,hg]
 rw [if_pos hw]
 unfold Oper.wp
 simp [execOp,hop,resolve,invoke,builtin,hd,hx,hr,Result.andThen]
 exact hK
set_option maxHeartbeats 4000000 in
set_option maxRecDepth 100000 in
theorem ins_shift (g n c i vb : Nat) (cur : Array Value) (e : TypeId) (ds : List Value) (w : World) (hi : i < n) (hroom : n + 1 ≤ c) (hc63 : c ≤ 9223372036854775807) (hvb : vb ≠ g)
  (hg:w.heap[g]?=some (.cells cur e (0,0))) (hcs:cur.size=c * 2) (h1:∀ v∈(cur.toList.drop (i * 2)).take ((n - i) * 2),v.oneCell'=true)
  (hv:w.heap[vb]?=some (.cells ds.toArray 36 (0,0))) (hdl:ds.length=2) (hd1:∀ v∈ds,v.oneCell'=true) (R1 R2:Array Value)
  (hR1:R1=(cur.toList.take ((i+1) * 2)++(cur.toList.drop (i * 2)).take ((n - i) * 2)++cur.toList.drop ((i+1) * 2+(n - i) * 2)).toArray)
  (hR2:R2=(R1.toList.take (i * 2)++ds++R1.toList.drop (i * 2+2)).toArray) :
  Calls Tryd.prog 43 #[.slice (some ⟨g,0,none⟩) n c,.int .i64 i,.slice (some ⟨vb,0,none⟩) 1 1] w fun r w' =>
   r=.returned (.slice (some ⟨g,0,none⟩) (n+1) c)∧w'=(w.drew.setRow g R1).setRow g R2:=by
 have u22:∀ w,Sem.run Tryd.prog (underlying 23) w=.ok (TypeDesc.slice 36) w:=run_underlying Tryd.underlying23
 have hz2:¬ ((i:Int)=(n:Int)):=by omega
 have hov:∀ lb cb,(callFunc 56 #[.slice (some ⟨vb,0,none⟩) 1 1,.slice (some ⟨g,(i+1) * 2,none⟩) lb cb]).run Tryd.prog w=.ok (.value (.bool false)) w:=fun lb cb=>by
  rw [run_callFunc_extern Tryd.func56 (by kernel_rfl) (by kernel_rfl) (by kernel_rfl) (e:=Extern.SlicesOverlaps.overlaps #[23,23] #[4]) (by kernel_rfl),
   Lib.run_overlaps_apart w 23 4 36 Tryd.underlying23 2 (fun w=>by kernel_rfl) ⟨vb,0,none⟩ ⟨g,(i+1) * 2,none⟩ 1 1 lb cb hvb 36 e 2 (c * 2) (by simp [World.shape?,hv,hdl]) (by simp [World.shape?,hg,hcs]) (by omega) (by simp [World.frozen?,hv]) (by simp [World.frozen?,hv])]
  rfl
 have hl1:((cur.toList.drop (i * 2)).take ((n - i) * 2)).length=(n - i) * 2:=by rw [List.length_take,List.length_drop,Array.length_toList,hcs]; omega
 have hRs:R1.size=c * 2:=by
  rw [hR1]; simp; omega
 have hcell:∀ (W:World) (b:Nat) (xs:Array Value) (t:TypeId),W.heap[b]?=some (.cells xs t (0,0))→∀ j,W.cell? ⟨b,j,none⟩=xs[j]?:=fun W b xs t h j=>by simp [World.cell?,h]
 have hcp1:∀ ty dc sc,(Builtin.copy_ #[23,23] ty #[.slice (some ⟨g,(i+1) * 2,none⟩) (n - i) dc,.slice (some ⟨g,i * 2,none⟩) (n+1 - i) sc]).run Tryd.prog w.drew=.ok (goInt (n - i)) (w.drew.setRow g R1):=fun ty dc sc=>by
  have:=run_copy_z (P:=Tryd.prog) w.drew 23 23 ty 36 2 g ((i+1) * 2) (n - i) dc ⟨g,i * 2,none⟩ (n+1 - i) sc cur e ((cur.toList.drop (i * 2)).take ((n - i) * 2)) Tryd.underlying23 size_e hg
   (by rw [hl1]; simp only [Nat.min_def]; split <;> omega) (fun j v hj=>by
    rw [Addr.add_lit,hcell w.drew g cur e hg]
    rw [List.getElem?_take] at hj
    split at hj
    · rw [List.getElem?_drop] at hj
      simpa using hj
    · cases hj) (by rw [hl1,hcs]; omega) h1
  rw [this,hl1,← hR1]
  congr 2
  simp only [Nat.min_def]; split <;> omega
 have hW1:∀ W:World,W.heap=(w.drew.setRow g R1).heap→W.heap[g]?=some (.cells R1 e (0,0))∧W.heap[vb]?=some (.cells ds.toArray 36 (0,0)):=fun W hW=>by
  rw [hW]
  refine ⟨setRow_heap w.drew g cur R1 _ (0,0) hg,?_⟩
  show (w.drew.heap.modify g _)[vb]?=_
  rw [Array.getElem?_modify,if_neg (fun h=>hvb h.symm)]
  exact hv
 have hcp2:∀ (W:World),W.heap=(w.drew.setRow g R1).heap→∀ ty dc,(Builtin.copy_ #[23,23] ty #[.slice (some ⟨g,i * 2,none⟩) (n+1 - i) dc,.slice (some ⟨vb,0,none⟩) 1 1]).run Tryd.prog W=.ok (goInt 1) (W.setRow g R2):=fun W hW ty dc=>by
  obtain ⟨k1,k2⟩:=hW1 W hW
  have:=run_copy_z (P:=Tryd.prog) W 23 23 ty 36 2 g (i * 2) (n+1 - i) dc ⟨vb,0,none⟩ 1 1 R1 e ds Tryd.underlying23 size_e k1
   (by rw [hdl]; simp only [Nat.min_def]; split <;> omega) (fun j v hj=>by
    rw [Addr.add_lit,hcell W vb ds.toArray 36 k2,Nat.zero_add]
    simpa using hj) (by rw [hdl,hRs]; omega) hd1
  rw [this,hdl,← hR2]
  congr 2
  simp only [Nat.min_def]; split <;> omega
 clear hW1 hcell hRs hl1 hR1 hR2 h1 hv hg hcs hd1 hdl
 have hw1:IntKind.i64.wrap ((i:Int)+1)=(i:Int)+1:=by rw [IntKind.wrap_i64]; omega
 have hb1:(0:Int)≤(i:Int)+1:=by omega
 have hb2:¬ (c=i+1):=by omega
 have hb4:¬ (c=i):=by omega
 have htn:((i:Int)+1).toNat=i+1:=by omega
 have hin:i≤n:=by omega
 have hb3:(i:Int)≤(n:Int)+1:=by omega
 have mixed:Tryd.prog.follows Departure.mixedOrders=true:=by kernel_rfl
 go_enter Tryd.func43,Tryd.ntmps43
 go_wp2_with (simp only [hov])
 go_region_law_o (refine step_copy_runI rfl _ _ 23 23 rfl _ _ (by simp [Act.eval,Act.put]) (by simp [Act.eval,Act.put]) (hcp1 _ _ _) ?_)
 go_wp2_with (at_builtin; refine wpList_copy_runI _ rfl _ _ 23 23 rfl _ _ rfl rfl (hcp2 _ rfl _ _) ?_)
 go_ret
 exact ⟨rfl,rfl⟩
set_option maxHeartbeats 4000000 in
set_option maxRecDepth 100000 in
theorem ins_end (base : Nat) (s : Value) (n c vb : Nat) (a : Option Addr) (xs ds : List Value) (w : World) (hs : s = .slice a n c) (hown : w.ownsRow base 36 2 s n xs) (hbase : base ≤ w.heap.size) (hn : n + 1 ≤ 4294967295)
  (hv:w.heap[vb]?=some (.cells ds.toArray 36 (0,0))) (hdl:ds.length=2) (hd1:∀ v∈ds,v.oneCell'=true) :
  Calls Tryd.prog 43 #[.slice a n c,.int .i64 n,.slice (some ⟨vb,0,none⟩) 1 1] w fun r w'=>∃ v',r=.returned v'∧w'.ownsRow base 36 2 v' (n+1) (xs++ds)∧w.grownBy w' s.ownBlock∧(v'.ownBlock=s.ownBlock∨v'.ownBlock=some w.heap.size):=by
 have u22:∀ w,Sem.run Tryd.prog (underlying 23) w=.ok (TypeDesc.slice 36) w:=run_underlying Tryd.underlying23
 obtain ⟨i0,hi0,hz0,hzs,hzb⟩:=info_parts info_e
 have H1:=Lib.hid hown
 have H2:=Lib.hid hv
 have H3:=Lib.hid hdl
 have H4:=Lib.hid hd1
 have H5:=Lib.hid hs
 clear hown hv hdl hd1 hs
 go_enter Tryd.func43,Tryd.ntmps43
 go_wp2_with (at_builtin; refine wpList_append_own_at _ rfl _ _ 23 rfl base 36 i0 (.agg #[.bool false,.slice none 0 0]) 2 32 Tryd.underlying23 hi0 hz0 hzs hzb rfl (by omega) (.slice a n c) n xs rfl (H5.out▸H1.out) ⟨vb,0,none⟩ 1 1 ds rfl H3.out (fun j u hj=>by rw [Addr.add_lit]; simpa [World.cell?,H2.out] using hj) H4.out (by unfold maxLen; omega) (by omega) hbase ?_; intro v' w1 hown' hgrow hnil hat; have X:=Lib.hid (And.intro hown' (And.intro hgrow hat)); clear hown' hgrow hnil hat)
 all_goals
  go_ret
  exact ⟨_,rfl,X.out.1,by rw [H5.out]; exact X.out.2⟩
set_option maxHeartbeats 4000000 in
set_option maxRecDepth 100000 in
theorem ins_grow (g n i vb : Nat) (cur : Array Value) (e : TypeId) (ds : List Value) (w : World) (hi : i < n) (hn : n + 1 ≤ 4294967295)
  (hg:w.heap[g]?=some (.cells cur e (0,0))) (hcs:cur.size=n * 2) (h1:∀ v∈cur.toList,v.oneCell'=true)
  (hv:w.heap[vb]?=some (.cells ds.toArray 36 (0,0))) (hdl:ds.length=2) (hd1:∀ v∈ds,v.oneCell'=true) (G:Nat) (hG:G=grownCap w (n+1) n 36) (ROW R1 R2:Array Value)
  (hROW:ROW=(cur.toList.take (i * 2)).toArray++Builtin.zeroCells #[.bool false,.slice none 0 0] (n+1 - i)++Builtin.zeroCells #[.bool false,.slice none 0 0] (G - (n+1)))
  (hR1:R1=(ROW.toList.take (i * 2)++ds++ROW.toList.drop (i * 2+2)).toArray)
  (hR2:R2=(R1.toList.take ((i+1) * 2)++cur.toList.drop (i * 2)++R1.toList.drop ((i+1) * 2+(n - i) * 2)).toArray) :
  Calls Tryd.prog 43 #[.slice (some ⟨g,0,none⟩) n n,.int .i64 i,.slice (some ⟨vb,0,none⟩) 1 1] w fun r w' =>
   r=.returned (.slice (some ⟨w.heap.size,0,none⟩) (n+1) G)∧w'=(((w.alloc (.cells ROW 36)).drew.setRow w.heap.size R1).drew).setRow w.heap.size R2:=by
 have u22:∀ w,Sem.run Tryd.prog (underlying 23) w=.ok (TypeDesc.slice 36) w:=run_underlying Tryd.underlying23
 obtain ⟨i0,hi0,hz0,hzs,hzb⟩:=info_parts info_e
 have hz2:¬ ((i:Int)=(n:Int)):=by omega
 have hz3:(n:Int) < (n:Int)+1:=by omega
 have hgw:g < w.heap.size:=(Array.getElem?_eq_some_iff.1 hg).1
 have hvw:vb < w.heap.size:=(Array.getElem?_eq_some_iff.1 hv).1
 have hkk:(n:Int)+1 - (i:Int)=((n+1 - i:Nat):Int):=by omega
 have hik:i+(n+1 - i)=n+1:=by omega
 have hcell:∀ (W:World) (b:Nat) (xs:Array Value) (t:TypeId),W.heap[b]?=some (.cells xs t (0,0))→∀ j,W.cell? ⟨b,j,none⟩=xs[j]?:=fun W b xs t h j=>by simp [World.cell?,h]
 have hold:(Builtin.firstCells i0.size i (.slice (some ⟨g,0,none⟩) i n)).run Tryd.prog w.drew=.ok (cur.toList.take (i * 2)).toArray w.drew:=by
  rw [hzs]
  exact run_firstCells_some w.drew 2 i ⟨g,0,none⟩ i n (cur.toList.take (i * 2)) (by rw [List.length_take,Array.length_toList]; omega) (fun j v hj=>by
   rw [Addr.add_lit,hcell w.drew g cur e hg,Nat.zero_add]
   rw [List.getElem?_take] at hj
   split at hj
   · simpa using hj
   · cases hj)
 have hrz : ∀ ty, (Builtin.append_ #[23, 3] ty #[.slice (some ⟨g, 0, none⟩) i n, .int .i64 ((n : Int) + 1 - (i : Int))]).run Tryd.prog w =
     .ok (.slice (some ⟨w.heap.size,0,none⟩) (n+1) G) (w.drew.alloc (.cells ROW 36)):=fun ty=>by
  have h:=Lib.run_append_grow_zeros w 23 3 ty 36 i0 _ .i64 .i64 Tryd.underlying23 Tryd.underlying3 hi0 hz0 (some ⟨g,0,none⟩) i n (cur.toList.take (i * 2)) hold (n+1 - i) (by omega) (by omega) (by omega) (by omega) (by rw [hzb]; omega) (by rw [hzb,hik]; exact growslice_fits (by omega) (by omega))
  rw [hik,← hG] at h
  rw [hkk,h,hROW]
  rfl
 have hGn:n+1≤G:=by rw [hG]; exact grownCap_ge w _ _ _
 have hG63:G≤9223372036854775807:=by
  have:=grownCap_le_maxLen w (n+1) n 36 (by unfold maxLen; omega)
  rw [← hG] at this
  unfold maxLen at this
  omega
 have hRl:ROW.size=G * 2:=by
  rw [hROW]
  simp [Builtin.zeroCells,hcs]
  omega
 have hRs:R1.size=G * 2:=by rw [hR1]; simp [hRl,hdl]; omega
 have hnew:∀ W:World,W.heap=(w.alloc (.cells ROW 36)).heap→W.heap[w.heap.size]?=some (.cells ROW 36 (0,0))∧W.heap[vb]?=some (.cells ds.toArray 36 (0,0)):=fun W hW=>by
  rw [hW]
  exact ⟨heap_alloc_new w _,by rw [Go.heap_alloc_old w _ hvw]; exact hv⟩
 have hcpA:∀ (W:World),W.heap=(w.alloc (.cells ROW 36)).heap→∀ ty dc,(Builtin.copy_ #[23,23] ty #[.slice (some ⟨w.heap.size,i * 2,none⟩) (n+1 - i) dc,.slice (some ⟨vb,0,none⟩) 1 1]).run Tryd.prog W=.ok (goInt 1) (W.setRow w.heap.size R1):=fun W hW ty dc=>by
  obtain ⟨k1,k2⟩:=hnew W hW
  have:=run_copy_z (P:=Tryd.prog) W 23 23 ty 36 2 w.heap.size (i * 2) (n+1 - i) dc ⟨vb,0,none⟩ 1 1 ROW 36 ds Tryd.underlying23 size_e k1
   (by rw [hdl]; simp only [Nat.min_def]; split <;> omega) (fun j v hj=>by
    rw [Addr.add_lit,hcell W vb ds.toArray 36 k2,Nat.zero_add]
    simpa using hj) (by rw [hdl,hRl]; omega) hd1
  rw [this,hdl,← hR1]
  congr 2
  simp only [Nat.min_def]; split <;> omega
 have hcpB:∀ (W:World),W.heap=((w.alloc (.cells ROW 36)).setRow w.heap.size R1).heap→∀ ty dc sc,(Builtin.copy_ #[23,23] ty #[.slice (some ⟨w.heap.size,(i+1) * 2,none⟩) (n - i) dc,.slice (some ⟨g,i * 2,none⟩) (n - i) sc]).run Tryd.prog W=.ok (goInt (n - i)) (W.setRow w.heap.size R2):=fun W hW ty dc sc=>by
  have k1:W.heap[w.heap.size]?=some (.cells R1 36 (0,0)):=by
   rw [hW]; exact setRow_heap _ _ ROW R1 _ (0,0) (heap_alloc_new w _)
  have k2:W.heap[g]?=some (.cells cur e (0,0)):=by
   rw [hW]
   show ((w.alloc (.cells ROW 36)).heap.modify w.heap.size _)[g]?=_
   rw [Array.getElem?_modify,if_neg (by omega),Go.heap_alloc_old w _ hgw]
   exact hg
  have:=run_copy_z (P:=Tryd.prog) W 23 23 ty 36 2 w.heap.size ((i+1) * 2) (n - i) dc ⟨g,i * 2,none⟩ (n - i) sc R1 36 (cur.toList.drop (i * 2)) Tryd.underlying23 size_e k1
   (by rw [List.length_drop,Array.length_toList,hcs]; simp only [Nat.min_def]; split <;> omega) (fun j v hj=>by
    rw [Addr.add_lit,hcell W g cur e k2]
    rw [List.getElem?_drop] at hj
    simpa using hj) (by rw [List.length_drop,Array.length_toList,hcs,hRs]; omega) (fun v hv=>h1 v (List.mem_of_mem_drop hv))
  have hdl':(cur.toList.drop (i * 2)).length=(n - i) * 2:=by rw [List.length_drop,Array.length_toList,hcs]; omega
  rw [this,hdl',← hR2]
  congr 2
  simp only [Nat.min_def]; split <;> omega
 have hGi:¬ (G=i):=by omega
 have hGim:¬ (G=i+1):=by omega
 have hci:¬ (n=i):=by omega
 have hgN:g≠w.heap.size:=by omega
 have hw1:IntKind.i64.wrap ((i:Int)+1)=(i:Int)+1:=by rw [IntKind.wrap_i64]; omega
 have hb1:(0:Int)≤(i:Int)+1:=by omega
 have hin:i≤n:=by omega
 have htn:((i:Int)+1).toNat=i+1:=by omega
 have hb3:(i:Int)≤(n:Int):=by omega
 have hcpB':=fun ty dc sc=>hcpB ((w.alloc (.cells ROW 36)).drew.setRow w.heap.size R1).drew rfl ty dc sc
 have hcpA':=fun ty dc=>hcpA (w.alloc (.cells ROW 36)).drew rfl ty dc
 have mixed:Tryd.prog.follows Departure.mixedOrders=true:=by kernel_rfl
 clear hkk hik hold hROW hG hRl hRs hR1 hR2 hcell hnew hv hg hcs h1 hdl hd1
 go_enter Tryd.func43,Tryd.ntmps43
 go_wp2_with (first
  | (at_builtin; refine Lib.wpList_append_run _ rfl _ _ _ _ rfl _ _ rfl rfl _ _ (hrz _) ?_)
  | (simp only [hcpA']))
 go_region_law_o (refine step_copy_runI rfl _ _ 23 23 rfl _ _ (by simp [Act.eval,Act.put]) (by simp [Act.eval,Act.put]) (hcpB' _ _ _) ?_)
 go_wp2
 go_ret
 exact ⟨rfl,rfl⟩
end Go.Proofs.YtajoneenakjifaaDoor

/- Walked by hand: slices.Insert in a row of its own. -/
namespace Go.Proofs.YtajoneenakjifaaDoor
open Go.RowKit Go.Lib Go.VM
theorem setRow_grown (w:World) (g:Nat) (R:Array Value):w.grownBy (w.setRow g R) (some g):=by
 refine ⟨rfl,rfl,rfl,?_,fun k hk hne=>?_⟩
 · show _≤(w.heap.modify g _).size
   rw [Array.size_modify]; exact Nat.le_refl _
 · show (w.heap.modify g _)[k]?=_
   rw [Array.getElem?_modify,if_neg (fun h=>hne (by rw [h]))]
theorem ins_own (base : Nat) (s : Value) (n i vb : Nat) (xs ds : List Value) (w : World) (hi : i ≤ n) (hown : w.ownsRow base 36 2 s n xs) (hbase : base ≤ w.heap.size) (hn : n + 1 ≤ 4294967295) (hx1 : ∀ v ∈ xs, v.oneCell' = true)
  (hv:w.heap[vb]?=some (.cells ds.toArray 36 (0,0))) (hvb:∀ k,s.ownBlock=some k→vb≠k) (hdl:ds.length=2) (hd1:∀ v∈ds,v.oneCell'=true) :
  Calls Tryd.prog 43 #[s,.int .i64 i,.slice (some ⟨vb,0,none⟩) 1 1] w fun r w'=>∃ v',r=.returned v'∧w'.ownsRow base 36 2 v' (n+1) (xs.take (i * 2)++ds++xs.drop (i * 2))∧w.grownBy w' s.ownBlock∧(v'.ownBlock=s.ownBlock∨v'.ownBlock=some w.heap.size):=by
 by_cases hin:i=n
 · subst hin
   have hxl:=hown.1
   have hE:∀ (a:Option Addr) (c:Nat),s=.slice a i c→Calls Tryd.prog 43 #[s,.int .i64 i,.slice (some ⟨vb,0,none⟩) 1 1] w fun r w'=>∃ v',r=.returned v'∧w'.ownsRow base 36 2 v' (i+1) (xs.take (i * 2)++ds++xs.drop (i * 2))∧w.grownBy w' s.ownBlock∧(v'.ownBlock=s.ownBlock∨v'.ownBlock=some w.heap.size):=fun a c hs=>by
    have:=ins_end base s i c vb a xs ds w hs hown hbase hn hv hdl hd1
    rw [← hs] at this
    refine this.mono fun r w' ⟨v',e1,e2,e3,e4⟩=>⟨v',e1,?_,e3,e4⟩
    rw [List.take_of_length_le (by omega),List.drop_of_length_le (by omega),List.append_nil]
    exact e2
   rcases hown.2 with ⟨h,h0⟩ | ⟨g,cap,cur,h,hg,_⟩
   · subst h0; exact hE none 0 h
   · exact hE _ cap h
 · have hlt:i < n:=by omega
   rcases hown.2 with ⟨h,h0⟩ | ⟨g,cap,cur,rfl,hg,hh,hnc,hm,hs,ht⟩
   · omega
   · have hgw:g < w.heap.size:=(Array.getElem?_eq_some_iff.1 hh).1
     have hvg:vb≠g:=hvb g rfl
     have hAl:cur.toList.length=cap * 2:=by rw [Array.length_toList]; exact hs
     have htk:xs.take (i * 2)=cur.toList.take (i * 2):=by rw [← ht,List.take_take]; congr 1; omega
     have hdr:xs.drop (i * 2)=(cur.toList.drop (i * 2)).take ((n - i) * 2):=by rw [← ht,List.drop_take]; congr 1; omega
     have htl:(cur.toList.take (i * 2)).length=i * 2:=by rw [List.length_take]; omega
     have hdl':((cur.toList.drop (i * 2)).take ((n - i) * 2)).length=(n - i) * 2:=by rw [List.length_take,List.length_drop]; omega
     by_cases hroom:n+1≤cap
     · obtain ⟨R1,hR1⟩:∃ R1:Array Value,R1=(cur.toList.take ((i+1) * 2)++(cur.toList.drop (i * 2)).take ((n - i) * 2)++cur.toList.drop ((i+1) * 2+(n - i) * 2)).toArray:=⟨_,rfl⟩
       obtain ⟨R2,hR2⟩:∃ R2:Array Value,R2=(R1.toList.take (i * 2)++ds++R1.toList.drop (i * 2+2)).toArray:=⟨_,rfl⟩
       have hs1:=ins_shift g n cap i vb cur 36 ds w hlt hroom (by unfold maxLen at hm; omega) hvg hh hs (fun v hv=>hx1 v (List.mem_of_mem_drop (hdr▸hv))) hv hdl hd1 R1 R2 hR1 hR2
       have hR1s:R1.size=cap * 2:=by rw [hR1]; simp [hAl]; omega
       have hR1l:R1.toList.length=cap * 2:=by rw [Array.length_toList]; exact hR1s
       have hk1:R1.toList.take (i * 2)=cur.toList.take (i * 2):=by
        rw [hR1]
        simp only [List.append_assoc]
        rw [List.take_append_of_le_length (by rw [List.length_take,hAl]; omega),List.take_take,Nat.min_eq_left (by omega)]
       have hk2:R1.toList.drop (i * 2+2)=(cur.toList.drop (i * 2)).take ((n - i) * 2)++cur.toList.drop ((i+1) * 2+(n - i) * 2):=by
        rw [hR1]
        simp only [List.append_assoc]
        rw [List.drop_left' (by rw [List.length_take,hAl]; omega)]
       refine hs1.mono fun r w' ⟨e1,e2⟩=>⟨_,e1,⟨?_,.inr ⟨g,cap,R2,rfl,hg,by subst e2; exact setRow_heap _ g R1 R2 36 (0,0) (setRow_heap w.drew g cur R1 36 (0,0) hh),hroom,hm,?_,?_⟩⟩,?_,.inl rfl⟩
       · rw [htk,hdr]; simp only [List.length_append,htl,hdl',hdl]; omega
       · rw [hR2]; simp only [List.size_toArray,List.length_append,List.length_take,List.length_drop,hR1l,hdl]; omega
       · rw [htk,hdr,hR2]
         rw [hk1,hk2,← List.append_assoc]
         exact List.take_left' (by simp only [List.length_append,htl,hdl',hdl]; omega)
       · subst e2
         have h1:=setRow_grown w.drew g R1
         have h2:=setRow_grown (w.drew.setRow g R1) g R2
         refine ⟨rfl,rfl,rfl,Nat.le_trans h1.size h2.size,fun k hk hne=>?_⟩
         rw [h2.block k (Nat.lt_of_lt_of_le (by show k < w.heap.size; omega) h1.size) hne,h1.block k (by show k < w.heap.size; omega) hne]
         rfl
     · have hcn:cap=n:=by omega
       subst hcn
       obtain ⟨G,hG⟩:∃ G,G=grownCap w (cap+1) cap 36:=⟨_,rfl⟩
       have hG1:cap+1≤G:=by rw [hG]; exact grownCap_ge w _ _ _
       have hG2:G≤maxLen:=by rw [hG]; exact grownCap_le_maxLen w _ _ _ (by unfold maxLen; omega)
       obtain ⟨ROW,hROW⟩:∃ ROW:Array Value,ROW=(cur.toList.take (i * 2)).toArray++Builtin.zeroCells #[.bool false,.slice none 0 0] (cap+1 - i)++Builtin.zeroCells #[.bool false,.slice none 0 0] (G - (cap+1)):=⟨_,rfl⟩
       obtain ⟨R1,hR1⟩:∃ R1:Array Value,R1=(ROW.toList.take (i * 2)++ds++ROW.toList.drop (i * 2+2)).toArray:=⟨_,rfl⟩
       obtain ⟨R2,hR2⟩:∃ R2:Array Value,R2=(R1.toList.take ((i+1) * 2)++cur.toList.drop (i * 2)++R1.toList.drop ((i+1) * 2+(cap - i) * 2)).toArray:=⟨_,rfl⟩
       have hg1:=ins_grow g cap i vb cur 36 ds w hlt hn hh hs (fun v hv=>hx1 v (by rw [← ht,List.take_of_length_le (by omega)]; exact hv)) hv hdl hd1 G hG ROW R1 R2 hROW hR1 hR2
       have hRl:ROW.toList.length=G * 2:=by rw [hROW]; simp [hAl,Builtin.zeroCells]; omega
       have hR1l:R1.toList.length=G * 2:=by rw [hR1]; simp only [List.toList_toArray,List.length_append,List.length_take,List.length_drop,hRl,hdl]; omega
       have hdd:(cur.toList.drop (i * 2)).take ((cap - i) * 2)=cur.toList.drop (i * 2):=List.take_of_length_le (by rw [List.length_drop]; omega)
       rw [hdd] at hdl' hdr
       have hk0:ROW.toList.take (i * 2)=cur.toList.take (i * 2):=by
        rw [hROW]
        simp only [Array.toList_append,List.toList_toArray,List.append_assoc]
        exact List.take_left' htl
       have hk1:R1.toList.take ((i+1) * 2)=cur.toList.take (i * 2)++ds:=by
        rw [hR1,hk0]
        exact List.take_left' (by simp only [List.length_append,htl,hdl]; omega)
       refine hg1.mono fun r w' ⟨e1,e2⟩=>⟨_,e1,⟨?_,.inr ⟨w.heap.size,G,R2,rfl,hbase,by subst e2; exact setRow_heap _ _ R1 R2 36 (0,0) (setRow_heap _ _ ROW R1 36 (0,0) (heap_alloc_new w _)),hG1,hG2,?_,?_⟩⟩,?_,.inr rfl⟩
       · rw [htk,hdr]; simp only [List.length_append,htl,hdl',hdl]; omega
       · rw [hR2]; simp only [List.size_toArray,List.length_append,List.length_take,List.length_drop,hR1l,hAl]; omega
       · rw [htk,hdr,hR2,hk1]
         exact List.take_left' (by simp only [List.length_append,htl,hdl',hdl]; omega)
       · subst e2
         have h0:Below w.heap.size w (w.alloc (.cells ROW 36)):=(Below.refl _ w).alloc (Nat.le_refl _) _
         have h1:=setRow_grown (w.alloc (.cells ROW 36)).drew w.heap.size R1
         have h2:=setRow_grown ((w.alloc (.cells ROW 36)).drew.setRow w.heap.size R1).drew w.heap.size R2
         have hlt2:∀ k,k < w.heap.size→k < (w.alloc (.cells ROW 36)).heap.size:=fun k hk=>Nat.lt_of_lt_of_le hk h0.size
         refine ⟨rfl,rfl,rfl,Nat.le_trans h0.size (Nat.le_trans h1.size h2.size),fun k hk _=>?_⟩
         rw [h2.block k (Nat.lt_of_lt_of_le (hlt2 k hk) h1.size) (by intro e; cases e; omega)]
         show ((w.alloc (.cells ROW 36)).drew.setRow w.heap.size R1).heap[k]?=_
         rw [h1.block k (hlt2 k hk) (by intro e; cases e; omega)]
         exact h0.block k hk
end Go.Proofs.YtajoneenakjifaaDoor

/- Walked by hand: slices.Clone. -/
namespace Go.Proofs.YtajoneenakjifaaDoor
open Go.RowKit Go.Lib Go.VM
theorem info_i:(Tryd.prog.info? 3).map (fun i=>(i.zero,i.size,i.bytes))=some (some (.int .i64 0),1,8):=by kernel_rfl
set_option maxHeartbeats 2000000 in
set_option maxRecDepth 100000 in
/-- A copy of a row of numbers. -/
theorem clone_i (ad : Addr) (n c : Nat) (news : List Value) (w : World) (hl : news.length = n * 1) (hn : n ≤ 4294967295)
  (hc:∀ j u,news[j]?=some u→w.cell? (ad.add j)=some u) (h1:∀ u∈news,u.oneCell'=true) :
  Calls Tryd.prog 55 #[.slice (some ad) n c] w fun r w'=>∃ v',r=.returned v'∧w'.ownsRow w.heap.size 3 1 v' n news∧v'≠.slice none 0 0∧Below w.heap.size w w':=by
 obtain ⟨i0,hi0,hz0,hzs,hzb⟩:=info_parts info_i
 have A:Aside (∀ j u,news[j]?=some u→w.cell? (ad.add j)=some u):=hc
 have q22:∀ (w:World) (a:Option Addr) (n c n' c':Nat),(binOp .eql 22 (.slice a n c) (.slice none n' c')).run Tryd.prog w=.ok (.bool a.isNone) w:=fun w a n c n' c'=>Lib.run_eql_slice_nil w _ _ a n c n' c' Tryd.underlying22
 clear hc
 go_enter Tryd.func55,Tryd.ntmps55
 go_wp2_with (at_builtin; refine wpList_append_own _ rfl _ _ 22 rfl w.heap.size 3 i0 (.int .i64 0) 1 8 Tryd.underlying22 hi0 hz0 hzs hzb rfl (by omega) _ _ _ rfl (World.ownsRow_made w #[] 0 (Nat.le_refl _) (Nat.zero_le _) (by simp)) ad n c news rfl ?qc1 ?qc2 ?qc3 ?qc4 ?qc5 ?qc6 ?_)
 case qc1=>exact hl
 case qc2 =>
  intro j u hj
  exact Lib.cell?_alloc_some _ (A.out j u hj)
 case qc3=>exact h1
 case qc4=>rw [Nat.zero_add]; unfold maxLen; omega
 case qc5=>rw [Nat.zero_add]; omega
 case qc6=>simp
 intro v' w1 hown hgrow hnil
 go_wp2
 go_ret
 refine ⟨v',rfl,by simpa using hown,?_,?_⟩
 · exact hnil
 · exact ((Below.refl _ w).alloc (Nat.le_refl _) _).grown hgrow (by simp) (by intro k hk; simp [Value.ownBlock] at hk; omega)
theorem clone_inil (n c:Nat) (w:World):Calls Tryd.prog 55 #[.slice none n c] w fun r w'=>r=.returned (.slice none 0 0)∧w=w':=by
 have q22:∀ (w:World) (a:Option Addr) (n c n' c':Nat),(binOp .eql 22 (.slice a n c) (.slice none n' c')).run Tryd.prog w=.ok (.bool a.isNone) w:=fun w a n c n' c'=>Lib.run_eql_slice_nil w _ _ a n c n' c' Tryd.underlying22
 go_enter Tryd.func55,Tryd.ntmps55
 go_wp2
 go_ret
 exact ⟨rfl,rfl⟩
set_option maxHeartbeats 2000000 in
set_option maxRecDepth 100000 in
/-- A copy of a row of segments. -/
theorem clone_s (ad : Addr) (n c : Nat) (news : List Value) (w : World) (hl : news.length = n * 2) (hn : n ≤ 4294967295)
  (hc:∀ j u,news[j]?=some u→w.cell? (ad.add j)=some u) (h1:∀ u∈news,u.oneCell'=true) :
  Calls Tryd.prog 54 #[.slice (some ad) n c] w fun r w'=>∃ v',r=.returned v'∧w'.ownsRow w.heap.size 36 2 v' n news∧v'≠.slice none 0 0∧Below w.heap.size w w':=by
 obtain ⟨i0,hi0,hz0,hzs,hzb⟩:=info_parts info_e
 have A:Aside (∀ j u,news[j]?=some u→w.cell? (ad.add j)=some u):=hc
 have q22:∀ (w:World) (a:Option Addr) (n c n' c':Nat),(binOp .eql 23 (.slice a n c) (.slice none n' c')).run Tryd.prog w=.ok (.bool a.isNone) w:=fun w a n c n' c'=>Lib.run_eql_slice_nil w _ _ a n c n' c' Tryd.underlying23
 clear hc
 go_enter Tryd.func54,Tryd.ntmps54
 go_wp2_with (at_builtin; refine wpList_append_own _ rfl _ _ 23 rfl w.heap.size 36 i0 (.agg #[.bool false,.slice none 0 0]) 2 32 Tryd.underlying23 hi0 hz0 hzs hzb rfl (by omega) _ _ _ rfl (World.ownsRow_made w #[] 0 (Nat.le_refl _) (Nat.zero_le _) (by simp)) ad n c news rfl ?qc1 ?qc2 ?qc3 ?qc4 ?qc5 ?qc6 ?_)
 case qc1=>exact hl
 case qc2 =>
  intro j u hj
  exact Lib.cell?_alloc_some _ (A.out j u hj)
 case qc3=>exact h1
 case qc4=>rw [Nat.zero_add]; unfold maxLen; omega
 case qc5=>rw [Nat.zero_add]; omega
 case qc6=>simp
 intro v' w1 hown hgrow hnil
 go_wp2
 go_ret
 refine ⟨v',rfl,by simpa using hown,?_,?_⟩
 · exact hnil
 · exact ((Below.refl _ w).alloc (Nat.le_refl _) _).grown hgrow (by simp) (by intro k hk; simp [Value.ownBlock] at hk; omega)
theorem clone_snil (n c:Nat) (w:World):Calls Tryd.prog 54 #[.slice none n c] w fun r w'=>r=.returned (.slice none 0 0)∧w=w':=by
 have q22:∀ (w:World) (a:Option Addr) (n c n' c':Nat),(binOp .eql 23 (.slice a n c) (.slice none n' c')).run Tryd.prog w=.ok (.bool a.isNone) w:=fun w a n c n' c'=>Lib.run_eql_slice_nil w _ _ a n c n' c' Tryd.underlying23
 go_enter Tryd.func54,Tryd.ntmps54
 go_wp2
 go_ret
 exact ⟨rfl,rfl⟩
/-- A copy of a row of numbers,of whatever row. -/
theorem clone_int {w W : World} {l : List Int} {u : Value} (h : HC w (fun b => b < w.heap.size) (.sl (.int .i64)) l [u]) (hb : Below w.heap.size w W) (hl : l.length ≤ 4294967295) :
  Calls Tryd.prog 55 #[u] W fun r w'=>∃ v',r=.returned v'∧w'.ownsRow W.heap.size 3 1 v' l.length (intC l)∧Below W.heap.size W w':=by
 rcases hc_slice h with ⟨h0,rfl⟩ | ⟨a,cap,rows,rfl,h1,h2,h3,h4,h5⟩
 · subst h0
   refine (clone_inil 0 0 W).mono fun r w' ⟨e1,e2⟩=>⟨_,e1,World.ownsRow_nil _ _ _ _,by rw [← e2]; exact Below.refl _ _⟩
 · have e:=hrows_ints h4
   subst e
   refine (clone_i a l.length cap (intC l) W (by rw [intC_len]; omega) hl (fun j v hj=>?_) (intC_one l)).mono fun r w' ⟨v',e1,e2,_,e3⟩=>⟨v',e1,e2,e3⟩
   have:=h3 j v hj
   rw [← this]
   refine World.cell?_of_block ?_
   rw [bM]
   exact hb.block _ (h5 fun h0=>by rw [h0] at hj; simp at hj)
end Go.Proofs.YtajoneenakjifaaDoor

/- Walked by hand: owned: a copy of a path. -/
namespace Go.Proofs.YtajoneenakjifaaDoor
open Go.RowKit Go.Lib Go.VM
structure OwInv (w0:World) (L:List (Bool×List Int)) (us:List Value) (g n c:Nat) (wr:World) (xs:List Value) (kk:Nat):Prop where
 num:n=L.length
 len:xs.length=L.length
 row:wr.ownsRow w0.heap.size 36 2 (.slice (some ⟨g,0,none⟩) n c) n (segC L xs)
 done:∀ i (_:i < L.length) (_:i < xs.length),i < kk→wr.ownsRow w0.heap.size 3 1 xs[i] L[i].2.length (intC L[i].2)∧∀ k,xs[i].ownBlock=some k→g < k
 todo:∀ i (_:i < xs.length) (_:i < us.length),kk≤i→xs[i]=us[i]
 apart:∀ i j (_:i < xs.length) (_:j < xs.length),i < kk→j < kk→i≠j→∀ k,xs[i].ownBlock=some k→xs[j].ownBlock≠some k
 bel:Below w0.heap.size w0 wr
theorem OwInv.step {w0 : World} {L : List (Bool × List Int)} {us : List Value} {g n c : Nat} {wr w2 : World} {xs : List Value} {kk : Nat} {u : Value} (h : OwInv w0 L us g n c wr xs kk) (hk : kk < L.length) (hb : Below wr.heap.size wr w2)
  (hu:w2.ownsRow wr.heap.size 3 1 u L[kk].2.length (intC L[kk].2)):OwInv w0 L us g n c (w2.setCell ⟨g,kk * 2+1,none⟩ u) (xs.set kk u) (kk+1):=by
 have hgw:g < wr.heap.size:=(World.ownsRow.lt h.row g rfl).2
 have hg0:w0.heap.size≤g:=(World.ownsRow.lt h.row g rfl).1
 have hgr:wr.grownBy w2 none:=⟨hb.os,hb.tape,hb.output,hb.size,fun k hk _=>hb.block k hk⟩
 have hrow:=h.row.kept hgr (.inr (by simp [Value.ownBlock]))
 obtain ⟨s1,s2⟩:=hrow.stored (kk * 2+1) u
 rw [segC_set u h.len] at s1
 have hug:∀ k,u.ownBlock=some k→wr.heap.size≤k:=fun k hk=>(World.ownsRow.lt hu k hk).1
 have hne:∀ x:Value,x.ownBlock≠some g→x.ownBlock=none∨x.ownBlock≠some g:=fun x hx=>.inr hx
 have hnn:∀ x:Value,x.ownBlock=none∨x.ownBlock≠none:=fun x=>Classical.em _
 refine ⟨h.num,by simp [h.len],s1,fun i hi hi' hik=>?_,fun i hi hi' hik=>?_,fun i j hi hj hik hjk hij k hk'=>?_,?_⟩
 · have hx:i < xs.length:=by simpa using hi'
   by_cases e:kk=i
   · subst e
     rw [List.getElem_set_self]
     refine ⟨(hu.kept s2 (hne _ fun q=>?_)).mono h.bel.size,fun k hk'=>?_⟩
     · have:=hug g q; omega
     · have:=hug k hk'; omega
   · rw [List.getElem_set_ne e]
     obtain ⟨q1,q2⟩:=h.done i hi hx (by omega)
     refine ⟨(q1.kept hgr (hnn _)).kept s2 (hne _ fun q=>?_),q2⟩
     have:=q2 g q; omega
 · have hx:i < xs.length:=by simpa using hi
   rw [List.getElem_set_ne (by omega)]
   exact h.todo i hx hi' (by omega)
 · have hx:i < xs.length:=by simpa using hi
   have hy:j < xs.length:=by simpa using hj
   have hold:∀ q (hq:q < xs.length),q < kk→∀ b,u.ownBlock=some b→xs[q].ownBlock≠some b:=fun q hq hqk b hub hqb=>by
    have:=(World.ownsRow.lt (h.done q (by rw [← h.len]; exact hq) hq hqk).1 b hqb).2
    have:=hug b hub
    omega
   by_cases e1:kk=i
   · subst e1
     rw [List.getElem_set_self] at hk'
     rw [List.getElem_set_ne hij]
     exact hold j hy (by omega) k hk'
   · rw [List.getElem_set_ne e1] at hk'
     by_cases e2:kk=j
     · subst e2
       rw [List.getElem_set_self]
       exact fun hub=>hold i hx (by omega) k hub hk'
     · rw [List.getElem_set_ne e2]
       exact h.apart i j hx hy (by omega) (by omega) hij k hk'
 · refine (h.bel.trans (hb.mono h.bel.size)).trans ⟨s2.os,s2.tape,s2.output,s2.size,fun k hk'=>s2.block k (Nat.lt_of_lt_of_le hk' (Nat.le_trans h.bel.size hb.size)) (fun e=>by cases e; omega)⟩
theorem OwInv.deep {w0:World} {L:List (Bool×List Int)} {us:List Value} {g n c:Nat} {wr:World} {xs:List Value} (h:OwInv w0 L us g n c wr xs n):Deep wr w0.heap.size (.slice (some ⟨g,0,none⟩) n c) L xs:=by
 have hn:=h.num
 refine ⟨h.len,by have:=h.row; rw [← hn]; exact this,fun i hi hi'=>ownG_of (h.done i hi hi' (by omega)).1,fun i j hi hj hij=>h.apart i j hi hj (by have:=h.len; omega) (by have:=h.len; omega) hij,fun i hi k hk e=>?_⟩
 have:=(h.done i (by rw [← h.len]; exact hi) hi (by have:=h.len; omega)).2 k hk
 have e:some g=some k:=e
 cases e; omega
theorem slice_shape {w:World} {base:Nat} {e:TypeId} {z:Nat} {v:Value} {n:Nat} {xs:List Value} (h:w.ownsRow base e z v n xs):∃ o m c,v=.slice o m c:=by
 rcases owns_slice h with ⟨h,_⟩ | ⟨g,c,h⟩ <;> exact ⟨_,_,_,h⟩
/-- What a copy of a path comes to. -/
def OwPost (w:World) (a:Option Addr) (L:List (Bool×List Int)) (r:Ending) (w':World):Prop:=∃ v' vs,r=.returned v'∧Deep w' w.heap.size v' L vs∧(v'=.slice none 0 0↔a=none)∧Below w.heap.size w w'
set_option maxHeartbeats 4000000 in
set_option maxRecDepth 100000 in
theorem owned_ok (L : List (Bool × List Int)) (a : Option Addr) (n cap : Nat) (w : World) (hv : HV w (fun b => b < w.heap.size) (.sl tyS) L (.slice a n cap)) (hl : L.length ≤ 100000) (hi : ∀ p ∈ L, p.2.length ≤ 100000) :
  Calls Tryd.prog 42 #[.slice a n cap] w (OwPost w a L):=by
 have e54:∀ args w,(callFunc 54 args).run Tryd.prog w=.ok (.enter 54 args) w:=fun args w=>by kernel_rfl
 have e55:∀ args w,(callFunc 55 args).run Tryd.prog w=.ok (.enter 55 args) w:=fun args w=>by kernel_rfl
 rcases hc_slice (hv_one hv rfl) with ⟨h0,q⟩ | ⟨ad,cap',rows,q,h1,h2,h3,h4,h5⟩
 · cases q
   have h0:L=[]:=h0
   subst h0
   clear hv hl hi
   go_enter Tryd.func42,Tryd.ntmps42
   go_wp2_with (go_at_fn 54; refine (clone_snil 0 0 _).mono ?_; rintro r w1 ⟨rfl,rfl⟩)
   go_loopg [4,5,10] 0 (fun _ _ _ s10 wr=>s10=.int .i64 0∧w=wr)
   case atStart=>exact ⟨rfl,rfl⟩
   case round =>
    obtain ⟨rfl,rfl⟩:=hrel
    go_wp2
    go_ret
    unfold OwPost
    exact ⟨_,[],rfl,Deep.nil _ _,⟨fun _=>rfl,fun _=>rfl⟩,Below.refl _ _⟩
 · cases q
   obtain ⟨us,k1,rfl,k3⟩:=hrows_seg h4
   have u23:∀ w,Sem.run Tryd.prog (underlying 23) w=.ok (TypeDesc.slice 36) w:=run_underlying Tryd.underlying23
   have hone:∀ u∈us,u.oneCell'=true:=fun u hu=>by
    obtain ⟨i,hi',rfl⟩:=List.mem_iff_getElem.1 hu
    rcases hc_slice (k3 i (by rw [← k1]; exact hi') hi') with ⟨_,e⟩ | ⟨_,_,_,e,_⟩ <;> rw [e] <;> rfl
   have hcl:=clone_s ad L.length cap (segC L us) w (segC_len k1) (by omega) h3 (segC_one hone)
   have hst:∀ w1 g c1,w1.ownsRow w.heap.size 36 2 (.slice (some ⟨g,0,none⟩) L.length c1) L.length (segC L us)→Below w.heap.size w w1→OwInv w L us g L.length c1 w1 us 0:=fun w1 g c1 ho hb =>
    ⟨rfl,k1,ho,fun i _ _ h=>absurd h (Nat.not_lt_zero _),fun i _ _ _=>rfl,fun i j _ _ h=>absurd h (Nat.not_lt_zero _),hb⟩
   have hrd : ∀ wr g c1 xs kk, OwInv w L us g L.length c1 wr xs kk → (hk : kk < L.length) → ∃ (b : Bool) (o : Option Addr) (m c : Nat), L[kk].1 = b ∧ us[kk]'(by rw [k1]; exact hk) = .slice o m c ∧ wr.cell? ⟨g, kk * 2, none⟩ = some (.bool b) ∧ wr.cell? ⟨g, kk * 2 + 1, none⟩ = some (.slice o m c) ∧
       wr.frozen? ⟨g,kk * 2+1,none⟩=false∧g < wr.heap.size:=fun wr g c1 xs kk I hk=>by
    have hx:kk < xs.length:=by rw [I.len]; exact hk
    have hu:kk < us.length:=by rw [k1]; exact hk
    have e1:=I.row.cellAt (kk * 2) (by omega)
    have e2:=I.row.cellAt (kk * 2+1) (by omega)
    rw [segC_get0 I.len hk] at e1
    rw [segC_get1 I.len hx,I.todo kk hx hu (Nat.le_refl _)] at e2
    have hsh:∃ o m c,us[kk]=Value.slice o m c:=by
     rcases hc_slice (k3 kk hk hu) with ⟨_,e⟩ | ⟨_,_,_,e,_⟩ <;> exact ⟨_,_,_,e⟩
    obtain ⟨o,m,c,e⟩:=hsh
    exact ⟨_,o,m,c,rfl,e,e1,by rw [e2,e],I.row.frozenAt _,(World.ownsRow.lt I.row g rfl).2⟩
   have hcall:∀ wr g c1 xs kk (W:World),OwInv w L us g L.length c1 wr xs kk→Below wr.heap.size wr W→(hk:kk < L.length)→Calls Tryd.prog 55 #[us[kk]'(by rw [k1]; exact hk)] W fun r w'=>∃ v',r=.returned v'∧w'.ownsRow W.heap.size 3 1 v' L[kk].2.length (intC L[kk].2)∧Below W.heap.size W w':=fun wr g c1 xs kk W I hb hk =>
    clone_int (k3 kk hk (by rw [k1]; exact hk)) (I.bel.trans (hb.mono I.bel.size)) (by have:=hi _ (List.getElem_mem hk); omega)
   have HS:Aside _:=hst
   have HR:Aside _:=hrd
   have HP:Aside _:=hcall
   clear hst hrd hcall hv hi h4 h5 h3 hone k3
   go_enter Tryd.func42,Tryd.ntmps42
   go_wp2_with (go_at_fn 54; refine hcl.mono ?_; rintro r w1 ⟨v1,rfl,ho,hne,hb0⟩; obtain ⟨g,c1,rfl⟩:∃ g c,v1=.slice (some ⟨g,0,none⟩) L.length c:=(by rcases ho.2 with ⟨q,_⟩ | ⟨g,c,cur,q,_⟩; exact absurd q hne; exact ⟨g,c,q⟩); have HI:=Lib.hid (And.intro ho hb0); clear ho hb0 hne)
   go_loopg [4,5,10] L.length (fun gg _ _ s10 wr=>∃ (kk:Nat) (xs:List Value),s10=.int .i64 kk∧kk≤L.length∧L.length - kk≤gg∧Aside (OwInv w L us g L.length c1 wr xs kk))
   case atStart=>exact ⟨0,us,rfl,by omega,by omega,HS.out _ _ _ HI.out.1 HI.out.2⟩
   case round =>
    obtain ⟨kk,xs,rfl,hkl,hgg,I⟩:=hrel
    by_cases hlt:kk < L.length
    · have hltz:(kk:Int) < (L.length:Int):=by omega
      obtain ⟨b,o,m,c,eb,eu,l0,l1,l2,hgr⟩:=HR.out wr g c1 xs kk I.out hlt
      have hcl2:=HP.out wr g c1 xs kk (wr.alloc (.cells #[.bool b,.slice o m c] 36)) I.out ((Below.refl _ _).alloc (Nat.le_refl _) _) hlt
      rw [eu] at hcl2
      have HC:Aside (∀ w2,Below (wr.alloc (.cells #[.bool b,.slice o m c] 36)).heap.size (wr.alloc (.cells #[.bool b,.slice o m c] 36)) w2→w2.cell? ⟨g,kk * 2+1,none⟩=some (.slice o m c)∧w2.frozen? ⟨g,kk * 2+1,none⟩=false):=fun w2 hb=>by
       have hsz:(wr.alloc (.cells #[.bool b,.slice o m c] 36)).heap.size=wr.heap.size+1:=Array.size_push _
       exact ⟨by rw [hb.cell (p:=⟨g,kk * 2+1,none⟩) (by rw [hsz]; exact Nat.lt_succ_of_lt hgr),World.cell?_of_block (a:=⟨g,kk * 2+1,none⟩) (Go.heap_alloc_old wr _ hgr)]; exact l1,
        by rw [hb.frozen (p:=⟨g,kk * 2+1,none⟩) (by rw [hsz]; exact Nat.lt_succ_of_lt hgr),World.frozen?_of_block (a:=⟨g,kk * 2+1,none⟩) (Go.heap_alloc_old wr _ hgr)]; exact l2⟩
      have HB:Aside (eb=eb∧Below wr.heap.size wr (wr.alloc (.cells #[.bool b,.slice o m c] 36))):=⟨rfl,(Below.refl _ _).alloc (Nat.le_refl _) _⟩
      clear eu l2
      go_wp2_with (go_at_fn 55; refine hcl2.mono ?_; rintro r w2 ⟨v2,rfl,ho,hb⟩; obtain ⟨o2,m2,c2,rfl⟩:=slice_shape ho; obtain ⟨p1,p2⟩:=HC.out w2 hb; have K:=Lib.hid (And.intro ho hb); clear ho hb)
      go_roundg (L.length - (kk+1))
      case measure=>omega
      case rel =>
       refine ⟨kk+1,xs.set kk (.slice o2 m2 c2),by go_num,by omega,Nat.le_refl _,(show Aside _ from ?_)⟩
       exact I.out.step hlt (HB.out.2.trans (K.out.2.mono HB.out.2.size)) (K.out.1.mono HB.out.2.size)
    · obtain rfl:kk=L.length:=by omega
      have hltz:¬ (L.length:Int) < (L.length:Int):=by omega
      go_wp2
      go_ret
      unfold OwPost
      exact ⟨_,xs,rfl,I.out.deep,⟨(fun h=>by cases h),(fun h=>by cases h)⟩,I.out.bel⟩
end Go.Proofs.YtajoneenakjifaaDoor

/- Walked by hand: slices.Repeat of one number. -/
namespace Go.Proofs.YtajoneenakjifaaDoor
open Go.RowKit Go.Lib Go.VM
/-- The row that a repetition fills: the first m cells are written. -/
def repRow (k:Int) (n m:Nat):Array Value:=(List.replicate m (Value.int .i64 k)++List.replicate (n - m) (Value.int .i64 0)).toArray
theorem repRow_size {k:Int} {n m:Nat} (h:m≤n):(repRow k n m).size=n:=by simp [repRow]; omega
theorem repRow_copy {k:Int} {n m q:Nat} (h:m≤n) (hq:q≤n - m):((repRow k n m).toList.take m++List.replicate q (Value.int .i64 k)++(repRow k n m).toList.drop (m+(List.replicate q (Value.int .i64 k)).length)).toArray=repRow k n (m+q):=by
 unfold repRow
 congr 1
 simp only [List.toList_toArray,List.length_replicate]
 rw [List.take_left' (by simp),List.drop_append,List.length_replicate,List.drop_of_length_le (by simp),List.nil_append,List.drop_replicate,List.replicate_append_replicate]
 congr 2
 omega
theorem repRow_made (k:Int) (n:Nat):madeCells (Value.int .i64 0).cells (n * 1)=repRow k n 0:=by
 apply Array.ext'
 show (madeCells #[Value.int .i64 0] (n * 1)).toList=_
 rw [toList_madeCells_one]
 simp [repRow]
structure RepInv (k:Int) (n:Nat) (w:World) (g:Nat) (wr:World) (m:Nat):Prop where
 row:wr.heap[g]?=some (.cells (repRow k n m) 3 (0,0))
 hm:0 < m∧m≤n
 lo:w.heap.size≤g
 bel:Below w.heap.size w wr
set_option maxHeartbeats 4000000 in
set_option maxRecDepth 100000 in
theorem repeat_ok (k : Int) (n b : Nat) (w : World) (hn : 0 < n) (hn2 : n ≤ 100000) (hb : w.heap[b]? = some (.cells #[.int .i64 k] 3 (0, 0))) :
  Calls Tryd.prog 44 #[.slice (some ⟨b,0,none⟩) 1 1,.int .i64 n] w fun r w'=>∃ v',r=.returned v'∧w'.ownsRow w.heap.size 3 1 v' n (intC (List.replicate n k))∧Below w.heap.size w w':=by
 have e58:∀ args w,(callFunc 58 args).run Tryd.prog w=.ok (.enter 58 args) w:=fun args w=>by kernel_rfl
 have hMul:=fun W=>Tryd.bits_Mul 1 n (by decide) (by omega) W
 have hd0:1 * n / 18446744073709551616=0:=by omega
 have hm0:1 * n % 18446744073709551616=n:=by omega
 have hlo:¬ (n:Int) < 0:=by omega
 have hbig:¬ (n:Int) > 9223372036854775807:=by omega
 have hw1:IntKind.u64.wrap (n:Int)=n:=by rw [IntKind.wrap_u64]; omega
 have hw2:IntKind.i64.wrap (n:Int)=n:=by rw [IntKind.wrap_i64]; omega
 simp only [hd0,hm0] at hMul
 obtain ⟨i0,hi0,hz0,hzs,hzb⟩:=info_parts info_i
 have hcell:∀ (W:World) (b:Nat) (xs:Array Value) (t:TypeId),W.heap[b]?=some (.cells xs t (0,0))→∀ j,W.cell? ⟨b,j,none⟩=xs[j]?:=fun W b xs t h j=>by simp [World.cell?,h]
 have hbw:b < w.heap.size:=(Array.getElem?_eq_some_iff.1 hb).1
 have hmk:∀ W:World,(Instr.makeSlice 22 (.int .i64 n) (.int .i64 n)).run Tryd.prog W=.ok (.slice (some ⟨W.heap.size,0,none⟩) n n) (W.alloc (.cells (repRow k n 0) 3)):=fun W=>by
  have hr:=run_make (P:=Tryd.prog) W 22 3 i0 (.int .i64 0) Tryd.underlying22 hi0 hz0 .i64 .i64 n n (by omega) (Int.le_refl _) (by rw [hzb]; omega) (by omega)
  simp only [Int.toNat_natCast,hzs] at hr
  rw [hr]
  rw [repRow_made k n]
 have hsz1:(Tryd.prog.info? 3).map (·.size)=some 1:=by rw [hi0]; simp [hzs]
 have hcp0:∀ ty dc sc,(Builtin.copy_ #[22,22] ty #[.slice (some ⟨w.heap.size,0,none⟩) n dc,.slice (some ⟨b,0,none⟩) 1 sc]).run Tryd.prog (w.alloc (.cells (repRow k n 0) 3))=.ok (goInt 1) ((w.alloc (.cells (repRow k n 0) 3)).setRow w.heap.size (repRow k n 1)):=fun ty dc sc=>by
  have:=run_copy_z (P:=Tryd.prog) (w.alloc (.cells (repRow k n 0) 3)) 22 22 ty 3 1 w.heap.size 0 n dc ⟨b,0,none⟩ 1 sc (repRow k n 0) 3 [.int .i64 k] Tryd.underlying22 hsz1 (heap_alloc_new w _)
   (by simp only [Nat.min_def]; split <;> simp <;> omega) (fun j v hj=>by
    rw [Addr.add_lit,hcell _ b #[.int .i64 k] 3 (by rw [Go.heap_alloc_old w _ hbw]; exact hb),Nat.zero_add]
    simpa using hj) (by rw [repRow_size (by omega)]; simp; omega) (fun v hv=>by simp at hv; subst hv; rfl)
  rw [this]
  have hmin:Nat.min 1 n=1:=by simp only [Nat.min_def]; split <;> omega
  rw [hmin]
  have:=repRow_copy (k:=k) (n:=n) (m:=0) (q:=1) (Nat.zero_le _) (by omega)
  simp only [List.replicate_one,Nat.zero_add] at this
  rw [Nat.zero_add,this]; rfl
 have hcp:∀ g (wr:World) m q,RepInv k n w g wr m→Nat.min m (n - m)=q→∀ ty dc sc,(Builtin.copy_ #[22,22] ty #[.slice (some ⟨g,m,none⟩) (n - m) dc,.slice (some ⟨g,0,none⟩) m sc]).run Tryd.prog wr.drew=.ok (goInt q) (wr.drew.setRow g (repRow k n (m+q))):=fun g wr m q I hq ty dc sc=>by
  have hq1:q≤m:=by rw [← hq]; exact Nat.min_le_left _ _
  have hq2:q≤n - m:=by rw [← hq]; exact Nat.min_le_right _ _
  have h1:=run_copy_z (P:=Tryd.prog) wr.drew 22 22 ty 3 1 g m (n - m) dc ⟨g,0,none⟩ m sc (repRow k n m) 3 (List.replicate q (.int .i64 k)) Tryd.underlying22 hsz1 I.row
   (by rw [hq]; simp) (fun j v hj=>by
    rw [Addr.add_lit,hcell wr.drew g (repRow k n m) 3 I.row,Nat.zero_add]
    rw [List.getElem?_replicate] at hj
    split at hj
    · cases hj
      have:j < m:=by omega
      simp [repRow,List.getElem?_append,this]
    · cases hj) (by rw [repRow_size I.hm.2]; simp; have:=I.hm; omega) (fun v hv=>by rw [(List.mem_replicate.1 hv).2]; rfl)
  rw [repRow_copy I.hm.2 hq2,hq] at h1
  exact h1
 have hstep:∀ g (wr:World) m q,RepInv k n w g wr m→m < n→Nat.min m (n - m)=q→0 < q∧q≤n - m∧RepInv k n w g (wr.drew.setRow g (repRow k n (m+q))) (m+q):=fun g wr m q I hlt hq=>by
  have hq1:q≤m:=by rw [← hq]; exact Nat.min_le_left _ _
  have hq2:q≤n - m:=by rw [← hq]; exact Nat.min_le_right _ _
  have hm:=I.hm
  have hq0:0 < q:=by rw [← hq]; simp only [Nat.min_def]; split <;> omega
  have hs:=setRow_grown wr.drew g (repRow k n (m+q))
  exact ⟨hq0,hq2,setRow_heap _ _ _ _ 3 (0,0) I.row,by omega,I.lo,(show Below w.heap.size w wr.drew from ⟨I.bel.os,I.bel.tape,I.bel.output,I.bel.size,I.bel.block⟩).grown hs I.bel.size (fun j hj=>by cases hj; exact I.lo)⟩
 have hst:RepInv k n w w.heap.size ((w.alloc (.cells (repRow k n 0) 3)).setRow w.heap.size (repRow k n 1)) 1:=by
  have hs:=setRow_grown (w.alloc (.cells (repRow k n 0) 3)) w.heap.size (repRow k n 1)
  exact ⟨setRow_heap _ _ _ _ 3 (0,0) (heap_alloc_new w _),by omega,Nat.le_refl _,((Below.refl _ w).alloc (Nat.le_refl _) _).grown hs (by show _≤(w.heap.push _).size; simp) (fun j hj=>by cases hj; exact Nat.le_refl _)⟩
 have hend:∀ g (wr:World),RepInv k n w g wr n→wr.ownsRow w.heap.size 3 1 (.slice (some ⟨g,0,none⟩) n n) n (intC (List.replicate n k)):=fun g wr I=>by
  refine ⟨by simp [intC],.inr ⟨g,n,repRow k n n,rfl,I.lo,I.row,Nat.le_refl _,by unfold maxLen; omega,by rw [repRow_size (Nat.le_refl _)]; simp,?_⟩⟩
  simp [repRow,intC]
 have HS:Aside _:=hst
 have HC:Aside _:=hcp
 have HT:Aside _:=hstep
 have HE:Aside _:=hend
 clear hst hcp hstep hend hcell hd0 hm0
 go_enter Tryd.func44,Tryd.ntmps44
 go_wp2_with (go_at_fn 58; refine (hMul _).mono ?_; rintro e w' ⟨rfl,hw⟩; rw [hw])
 go_loopg [8] n (fun gg s8 wr=>∃ m:Nat,s8=.int .i64 m∧n - m≤gg∧Aside (RepInv k n w w.heap.size wr m))
 case atStart=>exact ⟨1,rfl,by omega,HS.out⟩
 case round =>
  obtain ⟨m,rfl,hgg,I⟩:=hrel
  have hmn:m≤n:=I.out.hm.2
  by_cases hlt:m < n
  · have hltz:(m:Int) < (n:Int):=by omega
    obtain ⟨q,hq⟩:∃ q,Nat.min m (n - m)=q:=⟨_,rfl⟩
    obtain ⟨hq0,hq2,hN⟩:=HT.out w.heap.size wr m q I.out hlt hq
    have hcp:=HC.out w.heap.size wr m q I.out hq
    have N:Aside _:=hN
    have hb1:(m:Int)≤(n:Int):=by omega
    have hb2:(0:Int)≤(m:Int):=by omega
    have hnm:¬ (n=m):=by omega
    have hwr:IntKind.i64.wrap ((m:Int)+(q:Int))=((m+q:Nat):Int):=by rw [IntKind.wrap_i64]; omega
    have mixed:Tryd.prog.follows Departure.mixedOrders=true:=by kernel_rfl
    clear hN hq
    go_wp2
    go_region_law_o (refine step_copy_runI rfl _ _ 22 22 rfl _ _ (by simp [Act.eval,Act.put]) (by simp [Act.eval,Act.put]) (hcp _ _ _) ?_)
    go_wp2
    go_roundg (n - (m+q))
    case measure=>omega
    case rel=>exact ⟨m+q,by go_num,Nat.le_refl _,N.out⟩
  · obtain rfl:m=n:=by omega
    have hltz:¬ (m:Int) < (m:Int):=by omega
    go_wp2
    go_ret
    exact ⟨_,rfl,HE.out _ _ I.out,I.out.bel⟩
end Go.Proofs.YtajoneenakjifaaDoor
