/- Walked by hand: slices.Insert of one element. -/
import Derived.Test.YtgfmodmeimhhpaaDoorChecked
import Derived.Test.YtgfmodmeimhhpaaDoorHIL
import Derived.Shelf.RegionOpenPlain
import Derived.WalkKit
import Derived.Lib.Walk
import Derived.Lib.SliceRun
import Derived.Lib.JoinLaws
import Derived.Lib.AppendZeros
import Derived.Lib.OwnBridge
import Derived.Laws.Externs
import Derived.Lib.Hide
import Derived.Maps.AppendAt
namespace Go.Proofs.YtgfmodmeimhhpaaDoor
open Go.RowKit Go.Lib Go.VM
theorem info_e:(Tryd.prog.info? 63).map (fun i=>(i.zero,i.size,i.bytes))=some (some (.agg #[.bool false,.slice none 0 0]),2,32):=by kernel_rfl
theorem size_e:(Tryd.prog.info? 63).map (·.size)=some 2:=by kernel_rfl
theorem wp_copy_runI {P : Program} (w : World) {o : Oper} {a : Act} {K : Act → World → Prop} {Q : Exit → Act → World → Prop} (d s : Operand) (t t' : TypeId)
  (ho:o.op=.call { callee:=.builtin .copy,args:=#[d,s],argTypes:=#[t,t'] }) (v u:Value) (hd:a.eval d=v) (hs:a.eval s=u) {v':Value} {w':World}
  (hr:(Builtin.copy_ #[t,t'] o.type #[v,u]).run P w=.ok v' w') (h:K (a.put o.dst v') w'):o.wp P a w K Q:=by
 unfold Oper.wp execOp
 simp only [ho,resolve,invoke,builtin,Sem.run_bind,Sem.run_pure,Result.andThen_ok,List.map_toArray,List.map_cons,List.map_nil,hd,hs,hr]
 exact h
theorem wpList_copy_runI {P : Program} (w : World) {ops : Array Oper} {rest : List Oper} {o : Oper} {a : Act} {Q : Exit → Act → World → Prop} (hgd : o.guard = none) (d s : Operand) (t t' : TypeId)
  (ho:o.op=.call { callee:=.builtin .copy,args:=#[d,s],argTypes:=#[t,t'] }) (v u:Value) (hd:a.eval d=v) (hs:a.eval s=u) {v':Value} {w':World}
  (hr:(Builtin.copy_ #[t,t'] o.type #[v,u]).run P w=.ok v' w') (h:wpList P ops Q rest (a.put o.dst v') w'):wpList P ops Q (o::rest) a w :=
 wpList_plain hgd fun _ hK=>wp_copy_runI w d s t t' ho v u hd hs hr (hK _ _ h)
theorem step_copy_runI {P : Program} {ops : Array Oper} {o : Oper} {a : Act} {w : World} {K : Act → World → Prop} {Q : Exit → Act → World → Prop} {E : Prop}
  (hg:o.guard=none) (d x:Operand) (dT sT:TypeId) (hop:o.op=Op.call { callee:=Callee.builtin Builtin.copy,args:=#[d,x],argTypes:=#[dT,sT] })
  (v u:Value) (hd:a.eval d=v) (hx:a.eval x=u) {v':Value} {w':World} (hr:(Builtin.copy_ #[dT,sT] o.type #[v,u]).run P w=.ok v' w') (hK:K (a.put o.dst v') w') :
  if Region.wanted o (yielded ops a.tmps)=true then Oper.wp P o a w K Q else E:=by
 have hw:Region.wanted o (yielded ops a.tmps)=true:=by simp [Region.wanted,hg]
 rw [if_pos hw]
 unfold Oper.wp
 simp [execOp,hop,resolve,invoke,builtin,hd,hx,hr,Result.andThen]
 exact hK
set_option maxHeartbeats 4000000 in
set_option maxRecDepth 100000 in
theorem ins_shift (g n c i vb : Nat) (cur : Array Value) (e : TypeId) (ds : List Value) (w : World) (hi : i < n) (hroom : n + 1 ≤ c) (hc63 : c ≤ 9223372036854775807) (hvb : vb ≠ g)
  (hg:w.heap[g]?=some (.cells cur e (0,0))) (hcs:cur.size=c * 2) (h1:∀ v∈(cur.toList.drop (i * 2)).take ((n - i) * 2),v.oneCell'=true)
  (hv:w.heap[vb]?=some (.cells ds.toArray 63 (0,0))) (hdl:ds.length=2) (hd1:∀ v∈ds,v.oneCell'=true) (R1 R2:Array Value)
  (hR1:R1=(cur.toList.take ((i+1) * 2)++(cur.toList.drop (i * 2)).take ((n - i) * 2)++cur.toList.drop ((i+1) * 2+(n - i) * 2)).toArray)
  (hR2:R2=(R1.toList.take (i * 2)++ds++R1.toList.drop (i * 2+2)).toArray) :
  Calls Tryd.prog 50 #[.slice (some ⟨g,0,none⟩) n c,.int .i64 i,.slice (some ⟨vb,0,none⟩) 1 1] w fun r w' =>
   r=.returned (.slice (some ⟨g,0,none⟩) (n+1) c)∧w'=(w.drew.setRow g R1).setRow g R2:=by
 have u22:∀ w,Sem.run Tryd.prog (underlying 43) w=.ok (TypeDesc.slice 63) w:=run_underlying Tryd.underlying43
 have hz2:¬ ((i:Int)=(n:Int)):=by omega
 have hov:∀ lb cb,(callFunc 75 #[.slice (some ⟨vb,0,none⟩) 1 1,.slice (some ⟨g,(i+1) * 2,none⟩) lb cb]).run Tryd.prog w=.ok (.value (.bool false)) w:=fun lb cb=>by
  rw [run_callFunc_extern Tryd.func75 (by kernel_rfl) (by kernel_rfl) (by kernel_rfl) (e:=Extern.SlicesOverlaps.overlaps #[43,43] #[4]) (by kernel_rfl),
   Lib.run_overlaps_apart w 43 4 63 Tryd.underlying43 2 (fun w=>by kernel_rfl) ⟨vb,0,none⟩ ⟨g,(i+1) * 2,none⟩ 1 1 lb cb hvb 63 e 2 (c * 2) (by simp [World.shape?,hv,hdl]) (by simp [World.shape?,hg,hcs]) (by omega) (by simp [World.frozen?,hv]) (by simp [World.frozen?,hv])]
  rfl
 have hl1:((cur.toList.drop (i * 2)).take ((n - i) * 2)).length=(n - i) * 2:=by rw [List.length_take,List.length_drop,Array.length_toList,hcs]; omega
 have hRs:R1.size=c * 2:=by
  rw [hR1]; simp; omega
 have hcell:∀ (W:World) (b:Nat) (xs:Array Value) (t:TypeId),W.heap[b]?=some (.cells xs t (0,0))→∀ j,W.cell? ⟨b,j,none⟩=xs[j]?:=fun W b xs t h j=>by simp [World.cell?,h]
 have hcp1:∀ ty dc sc,(Builtin.copy_ #[43,43] ty #[.slice (some ⟨g,(i+1) * 2,none⟩) (n - i) dc,.slice (some ⟨g,i * 2,none⟩) (n+1 - i) sc]).run Tryd.prog w.drew=.ok (goInt (n - i)) (w.drew.setRow g R1):=fun ty dc sc=>by
  have:=run_copy_z (P:=Tryd.prog) w.drew 43 43 ty 63 2 g ((i+1) * 2) (n - i) dc ⟨g,i * 2,none⟩ (n+1 - i) sc cur e ((cur.toList.drop (i * 2)).take ((n - i) * 2)) Tryd.underlying43 size_e hg
   (by rw [hl1]; simp only [Nat.min_def]; split <;> omega) (fun j v hj=>by
    rw [Addr.add_lit,hcell w.drew g cur e hg]
    rw [List.getElem?_take] at hj
    split at hj
    · rw [List.getElem?_drop] at hj
      simpa using hj
    · cases hj) (by rw [hl1,hcs]; omega) h1
  rw [this,hl1,← hR1]
  congr 2
  simp only [Nat.min_def]; split <;> omega
 have hW1:∀ W:World,W.heap=(w.drew.setRow g R1).heap→W.heap[g]?=some (.cells R1 e (0,0))∧W.heap[vb]?=some (.cells ds.toArray 63 (0,0)):=fun W hW=>by
  rw [hW]
  refine ⟨setRow_heap w.drew g cur R1 _ (0,0) hg,?_⟩
  show (w.drew.heap.modify g _)[vb]?=_
  rw [Array.getElem?_modify,if_neg (fun h=>hvb h.symm)]
  exact hv
 have hcp2:∀ (W:World),W.heap=(w.drew.setRow g R1).heap→∀ ty dc,(Builtin.copy_ #[43,43] ty #[.slice (some ⟨g,i * 2,none⟩) (n+1 - i) dc,.slice (some ⟨vb,0,none⟩) 1 1]).run Tryd.prog W=.ok (goInt 1) (W.setRow g R2):=fun W hW ty dc=>by
  obtain ⟨k1,k2⟩:=hW1 W hW
  have:=run_copy_z (P:=Tryd.prog) W 43 43 ty 63 2 g (i * 2) (n+1 - i) dc ⟨vb,0,none⟩ 1 1 R1 e ds Tryd.underlying43 size_e k1
   (by rw [hdl]; simp only [Nat.min_def]; split <;> omega) (fun j v hj=>by
    rw [Addr.add_lit,hcell W vb ds.toArray 63 k2,Nat.zero_add]
    simpa using hj) (by rw [hdl,hRs]; omega) hd1
  rw [this,hdl,← hR2]
  congr 2
  simp only [Nat.min_def]; split <;> omega
 clear hW1 hcell hRs hl1 hR1 hR2 h1 hv hg hcs hd1 hdl
 have hw1:IntKind.i64.wrap ((i:Int)+1)=(i:Int)+1:=by rw [IntKind.wrap_i64]; omega
 have hb1:(0:Int)≤(i:Int)+1:=by omega
 have hb2:¬ (c=i+1):=by omega
 have hb4:¬ (c=i):=by omega
 have htn:((i:Int)+1).toNat=i+1:=by omega
 have hin:i≤n:=by omega
 have hb3:(i:Int)≤(n:Int)+1:=by omega
 have mixed:Tryd.prog.follows Departure.mixedOrders=true:=by kernel_rfl
 go_enter Tryd.func50,Tryd.ntmps50
 go_wp2_with (simp only [hov])
 go_region_law_o (refine step_copy_runI rfl _ _ 43 43 rfl _ _ (by simp [Act.eval,Act.put]) (by simp [Act.eval,Act.put]) (hcp1 _ _ _) ?_)
 go_wp2_with (at_builtin; refine wpList_copy_runI _ rfl _ _ 43 43 rfl _ _ rfl rfl (hcp2 _ rfl _ _) ?_)
 go_ret
 exact ⟨rfl,rfl⟩
set_option maxHeartbeats 4000000 in
set_option maxRecDepth 100000 in
theorem ins_end (base : Nat) (s : Value) (n c vb : Nat) (a : Option Addr) (xs ds : List Value) (w : World) (hs : s = .slice a n c) (hown : w.ownsRow base 63 2 s n xs) (hbase : base ≤ w.heap.size) (hn : n + 1 ≤ 4294967295)
  (hv:w.heap[vb]?=some (.cells ds.toArray 63 (0,0))) (hdl:ds.length=2) (hd1:∀ v∈ds,v.oneCell'=true) :
  Calls Tryd.prog 50 #[.slice a n c,.int .i64 n,.slice (some ⟨vb,0,none⟩) 1 1] w fun r w'=>∃ v',r=.returned v'∧w'.ownsRow base 63 2 v' (n+1) (xs++ds)∧w.grownBy w' s.ownBlock∧(v'.ownBlock=s.ownBlock∨v'.ownBlock=some w.heap.size):=by
 have u22:∀ w,Sem.run Tryd.prog (underlying 43) w=.ok (TypeDesc.slice 63) w:=run_underlying Tryd.underlying43
 obtain ⟨i0,hi0,hz0,hzs,hzb⟩:=info_parts info_e
 have H1:=Lib.hid hown
 have H2:=Lib.hid hv
 have H3:=Lib.hid hdl
 have H4:=Lib.hid hd1
 have H5:=Lib.hid hs
 clear hown hv hdl hd1 hs
 go_enter Tryd.func50,Tryd.ntmps50
 go_wp2_with (at_builtin; refine wpList_append_own_at _ rfl _ _ 43 rfl base 63 i0 (.agg #[.bool false,.slice none 0 0]) 2 32 Tryd.underlying43 hi0 hz0 hzs hzb rfl (by omega) (.slice a n c) n xs rfl (H5.out▸H1.out) ⟨vb,0,none⟩ 1 1 ds rfl H3.out (fun j u hj=>by rw [Addr.add_lit]; simpa [World.cell?,H2.out] using hj) H4.out (by unfold maxLen; omega) (by omega) hbase ?_; intro v' w1 hown' hgrow hnil hat; have X:=Lib.hid (And.intro hown' (And.intro hgrow hat)); clear hown' hgrow hnil hat)
 all_goals
  go_ret
  exact ⟨_,rfl,X.out.1,by rw [H5.out]; exact X.out.2⟩
set_option maxHeartbeats 4000000 in
set_option maxRecDepth 100000 in
theorem ins_grow (g n i vb : Nat) (cur : Array Value) (e : TypeId) (ds : List Value) (w : World) (hi : i < n) (hn : n + 1 ≤ 4294967295)
  (hg:w.heap[g]?=some (.cells cur e (0,0))) (hcs:cur.size=n * 2) (h1:∀ v∈cur.toList,v.oneCell'=true)
  (hv:w.heap[vb]?=some (.cells ds.toArray 63 (0,0))) (hdl:ds.length=2) (hd1:∀ v∈ds,v.oneCell'=true) (G:Nat) (hG:G=grownCap w (n+1) n 63) (ROW R1 R2:Array Value)
  (hROW:ROW=(cur.toList.take (i * 2)).toArray++Builtin.zeroCells #[.bool false,.slice none 0 0] (n+1 - i)++Builtin.zeroCells #[.bool false,.slice none 0 0] (G - (n+1)))
  (hR1:R1=(ROW.toList.take (i * 2)++ds++ROW.toList.drop (i * 2+2)).toArray)
  (hR2:R2=(R1.toList.take ((i+1) * 2)++cur.toList.drop (i * 2)++R1.toList.drop ((i+1) * 2+(n - i) * 2)).toArray) :
  Calls Tryd.prog 50 #[.slice (some ⟨g,0,none⟩) n n,.int .i64 i,.slice (some ⟨vb,0,none⟩) 1 1] w fun r w' =>
   r=.returned (.slice (some ⟨w.heap.size,0,none⟩) (n+1) G)∧w'=(((w.alloc (.cells ROW 63)).drew.setRow w.heap.size R1).drew).setRow w.heap.size R2:=by
 have u22:∀ w,Sem.run Tryd.prog (underlying 43) w=.ok (TypeDesc.slice 63) w:=run_underlying Tryd.underlying43
 obtain ⟨i0,hi0,hz0,hzs,hzb⟩:=info_parts info_e
 have hz2:¬ ((i:Int)=(n:Int)):=by omega
 have hz3:(n:Int) < (n:Int)+1:=by omega
 have hgw:g < w.heap.size:=(Array.getElem?_eq_some_iff.1 hg).1
 have hvw:vb < w.heap.size:=(Array.getElem?_eq_some_iff.1 hv).1
 have hkk:(n:Int)+1 - (i:Int)=((n+1 - i:Nat):Int):=by omega
 have hik:i+(n+1 - i)=n+1:=by omega
 have hcell:∀ (W:World) (b:Nat) (xs:Array Value) (t:TypeId),W.heap[b]?=some (.cells xs t (0,0))→∀ j,W.cell? ⟨b,j,none⟩=xs[j]?:=fun W b xs t h j=>by simp [World.cell?,h]
 have hold:(Builtin.firstCells i0.size i (.slice (some ⟨g,0,none⟩) i n)).run Tryd.prog w.drew=.ok (cur.toList.take (i * 2)).toArray w.drew:=by
  rw [hzs]
  exact run_firstCells_some w.drew 2 i ⟨g,0,none⟩ i n (cur.toList.take (i * 2)) (by rw [List.length_take,Array.length_toList]; omega) (fun j v hj=>by
   rw [Addr.add_lit,hcell w.drew g cur e hg,Nat.zero_add]
   rw [List.getElem?_take] at hj
   split at hj
   · simpa using hj
   · cases hj)
 have hrz : ∀ ty, (Builtin.append_ #[43, 3] ty #[.slice (some ⟨g, 0, none⟩) i n, .int .i64 ((n : Int) + 1 - (i : Int))]).run Tryd.prog w =
     .ok (.slice (some ⟨w.heap.size,0,none⟩) (n+1) G) (w.drew.alloc (.cells ROW 63)):=fun ty=>by
  have h:=Lib.run_append_grow_zeros w 43 3 ty 63 i0 _ .i64 .i64 Tryd.underlying43 Tryd.underlying3 hi0 hz0 (some ⟨g,0,none⟩) i n (cur.toList.take (i * 2)) hold (n+1 - i) (by omega) (by omega) (by omega) (by omega) (by rw [hzb]; omega) (by rw [hzb,hik]; exact growslice_fits (by omega) (by omega))
  rw [hik,← hG] at h
  rw [hkk,h,hROW]
  rfl
 have hGn:n+1≤G:=by rw [hG]; exact grownCap_ge w _ _ _
 have hG63:G≤9223372036854775807:=by
  have:=grownCap_le_maxLen w (n+1) n 63 (by unfold maxLen; omega)
  rw [← hG] at this
  unfold maxLen at this
  omega
 have hRl:ROW.size=G * 2:=by
  rw [hROW]
  simp [Builtin.zeroCells,hcs]
  omega
 have hRs:R1.size=G * 2:=by rw [hR1]; simp [hRl,hdl]; omega
 have hnew:∀ W:World,W.heap=(w.alloc (.cells ROW 63)).heap→W.heap[w.heap.size]?=some (.cells ROW 63 (0,0))∧W.heap[vb]?=some (.cells ds.toArray 63 (0,0)):=fun W hW=>by
  rw [hW]
  exact ⟨heap_alloc_new w _,by rw [Go.heap_alloc_old w _ hvw]; exact hv⟩
 have hcpA:∀ (W:World),W.heap=(w.alloc (.cells ROW 63)).heap→∀ ty dc,(Builtin.copy_ #[43,43] ty #[.slice (some ⟨w.heap.size,i * 2,none⟩) (n+1 - i) dc,.slice (some ⟨vb,0,none⟩) 1 1]).run Tryd.prog W=.ok (goInt 1) (W.setRow w.heap.size R1):=fun W hW ty dc=>by
  obtain ⟨k1,k2⟩:=hnew W hW
  have:=run_copy_z (P:=Tryd.prog) W 43 43 ty 63 2 w.heap.size (i * 2) (n+1 - i) dc ⟨vb,0,none⟩ 1 1 ROW 63 ds Tryd.underlying43 size_e k1
   (by rw [hdl]; simp only [Nat.min_def]; split <;> omega) (fun j v hj=>by
    rw [Addr.add_lit,hcell W vb ds.toArray 63 k2,Nat.zero_add]
    simpa using hj) (by rw [hdl,hRl]; omega) hd1
  rw [this,hdl,← hR1]
  congr 2
  simp only [Nat.min_def]; split <;> omega
 have hcpB:∀ (W:World),W.heap=((w.alloc (.cells ROW 63)).setRow w.heap.size R1).heap→∀ ty dc sc,(Builtin.copy_ #[43,43] ty #[.slice (some ⟨w.heap.size,(i+1) * 2,none⟩) (n - i) dc,.slice (some ⟨g,i * 2,none⟩) (n - i) sc]).run Tryd.prog W=.ok (goInt (n - i)) (W.setRow w.heap.size R2):=fun W hW ty dc sc=>by
  have k1:W.heap[w.heap.size]?=some (.cells R1 63 (0,0)):=by
   rw [hW]; exact setRow_heap _ _ ROW R1 _ (0,0) (heap_alloc_new w _)
  have k2:W.heap[g]?=some (.cells cur e (0,0)):=by
   rw [hW]
   show ((w.alloc (.cells ROW 63)).heap.modify w.heap.size _)[g]?=_
   rw [Array.getElem?_modify,if_neg (by omega),Go.heap_alloc_old w _ hgw]
   exact hg
  have:=run_copy_z (P:=Tryd.prog) W 43 43 ty 63 2 w.heap.size ((i+1) * 2) (n - i) dc ⟨g,i * 2,none⟩ (n - i) sc R1 63 (cur.toList.drop (i * 2)) Tryd.underlying43 size_e k1
   (by rw [List.length_drop,Array.length_toList,hcs]; simp only [Nat.min_def]; split <;> omega) (fun j v hj=>by
    rw [Addr.add_lit,hcell W g cur e k2]
    rw [List.getElem?_drop] at hj
    simpa using hj) (by rw [List.length_drop,Array.length_toList,hcs,hRs]; omega) (fun v hv=>h1 v (List.mem_of_mem_drop hv))
  have hdl':(cur.toList.drop (i * 2)).length=(n - i) * 2:=by rw [List.length_drop,Array.length_toList,hcs]; omega
  rw [this,hdl',← hR2]
  congr 2
  simp only [Nat.min_def]; split <;> omega
 have hGi:¬ (G=i):=by omega
 have hGim:¬ (G=i+1):=by omega
 have hci:¬ (n=i):=by omega
 have hgN:g≠w.heap.size:=by omega
 have hw1:IntKind.i64.wrap ((i:Int)+1)=(i:Int)+1:=by rw [IntKind.wrap_i64]; omega
 have hb1:(0:Int)≤(i:Int)+1:=by omega
 have hin:i≤n:=by omega
 have htn:((i:Int)+1).toNat=i+1:=by omega
 have hb3:(i:Int)≤(n:Int):=by omega
 have hcpB':=fun ty dc sc=>hcpB ((w.alloc (.cells ROW 63)).drew.setRow w.heap.size R1).drew rfl ty dc sc
 have hcpA':=fun ty dc=>hcpA (w.alloc (.cells ROW 63)).drew rfl ty dc
 have mixed:Tryd.prog.follows Departure.mixedOrders=true:=by kernel_rfl
 clear hkk hik hold hROW hG hRl hRs hR1 hR2 hcell hnew hv hg hcs h1 hdl hd1
 go_enter Tryd.func50,Tryd.ntmps50
 go_wp2_with (first
  | (at_builtin; refine Lib.wpList_append_run _ rfl _ _ _ _ rfl _ _ rfl rfl _ _ (hrz _) ?_)
  | (simp only [hcpA']))
 go_region_law_o (refine step_copy_runI rfl _ _ 43 43 rfl _ _ (by simp [Act.eval,Act.put]) (by simp [Act.eval,Act.put]) (hcpB' _ _ _) ?_)
 go_wp2
 go_ret
 exact ⟨rfl,rfl⟩
end Go.Proofs.YtgfmodmeimhhpaaDoor
