/- Walked by hand: slices.DeleteFunc (rows of two). -/
import Derived.Test.YtghpknbkecolnaaGreatDoorHDF
namespace Go.Proofs.YtghpknbkecolnaaGreatDoor
open Go.RowKit Go.Lib Go.VM
theorem flat_take2:∀ (xs:List (List Value)) (j:Nat),(∀ x∈xs,x.length=2)→xs.flatten.take (j * 2)=(xs.take j).flatten
 | [],j,_=>by simp
 | x::r,0,_=>by simp
 | x::r,j+1,h=>by
  have hx:=h x (by simp)
  rw [List.flatten_cons,List.take_succ_cons,List.flatten_cons,← flat_take2 r j fun y hy=>h y (by simp [hy]),show (j+1) * 2=x.length+j * 2 by omega,List.take_append,List.take_of_length_le (by omega),Nat.add_sub_cancel_left]
theorem flat_len2 (xs:List (List Value)) (h:∀ x∈xs,x.length=2):xs.flatten.length=xs.length * 2:=by
 induction xs with
 | nil=>rfl
 | cons x r ih=>rw [List.flatten_cons,List.length_append,ih fun y hy=>h y (by simp [hy]),h x (by simp),List.length_cons]; omega
theorem flat_get2 (xs:List (List Value)) (h:∀ x∈xs,x.length=2) (j k:Nat) (hj:j < xs.length) (hk:k < 2):xs.flatten[j * 2+k]?=(xs[j])[k]?:=by
 induction xs generalizing j with
 | nil=>simp at hj
 | cons x r ih =>
  have hx:=h x (by simp)
  rw [List.flatten_cons]
  cases j with
  | zero=>rw [List.getElem?_append_left (by omega)]; simp
  | succ j =>
   rw [List.getElem?_append_right (by omega),show (j+1) * 2+k - x.length=j * 2+k by omega,ih (fun y hy=>h y (by simp [hy])) j (by simpa using hj)]
   simp
theorem idx_cases (p:List Value→Bool):∀ (l:List (List Value)) (i:Nat),(Lib.idxByFrom (fun _ y=>p y) ([]:List Value) l i=-1∧∀ x∈l,p x=false)∨∃ k,k < l.length∧Lib.idxByFrom (fun _ y=>p y) ([]:List Value) l i=((i+k:Nat):Int)∧p l[k]! = true∧∀ x∈l.take k,p x=false
 | [],_=>.inl ⟨rfl,fun x hx=>by cases hx⟩
 | y::r,i=>by
  cases h:p y with
  | true=>exact .inr ⟨0,by simp,by simp [Lib.idxByFrom,h],by simpa using h,fun x hx=>by simp at hx⟩
  | false =>
   rcases idx_cases p r (i+1) with ⟨e,ha⟩ | ⟨k,hk,e,ht,ha⟩
   · exact .inl ⟨by simp [Lib.idxByFrom,h,e],fun x hx=>by rcases List.mem_cons.1 hx with rfl | hx; exact h; exact ha x hx⟩
   · refine .inr ⟨k+1,by simpa using hk,?_,by simpa using ht,fun x hx=>?_⟩
     · simp only [Lib.idxByFrom,h]
       rw [show (if false=true then (i:Int) else Lib.idxByFrom (fun _ y=>p y) ([]:List Value) r (i+1))=Lib.idxByFrom (fun _ y=>p y) ([]:List Value) r (i+1) from rfl,e]
       congr 1; omega
     · rw [List.take_succ_cons] at hx
       rcases List.mem_cons.1 hx with rfl | hx
       · exact h
       · exact ha x hx
/-- Where the search has come to. -/
structure DelInv (p:List Value→Bool) (xs:List (List Value)) (cur:Array Value) (g:Nat) (e:TypeId) (w wr:World) (i j:Nat):Prop where
 gr:w.grownBy wr (some g)
 row:∃ dk:Array Value,wr.heap[g]?=some (.cells dk e (0,0))∧dk.size=cur.size∧dk.toList.take (i * 2)=((xs.take j).filter fun x=>!p x).flatten∧∀ k,j * 2≤k→dk[k]?=cur[k]?
 ij:i=((xs.take j).filter fun x=>!p x).length∧i < j
theorem grownBy_refl (w:World) (r:Option Nat):w.grownBy w r:=⟨rfl,rfl,rfl,Nat.le_refl _,fun _ _ _=>rfl⟩
theorem grownBy_trans {a b c:World} {r:Option Nat} (h:a.grownBy b r) (k:b.grownBy c r):a.grownBy c r:=⟨k.os.trans h.os,k.tape.trans h.tape,k.output.trans h.output,Nat.le_trans h.size k.size,fun i hi hr=>(k.block i (Nat.lt_of_lt_of_le hi h.size) hr).trans (h.block i hi hr)⟩
theorem grownBy_below {a b:World} {r:Option Nat} (h:Below a.heap.size a b):a.grownBy b r:=⟨h.os,h.tape,h.output,h.size,fun i hi _=>h.block i hi⟩
theorem take_keep {p:List Value→Bool} {xs:List (List Value)} {j:Nat} {x:List Value} (hj:j < xs.length) (hx:xs[j]! = x) (hp:p x=false):((xs.take (j+1)).filter fun x=>!p x)=((xs.take j).filter fun x=>!p x)++[x]:=by
 rw [List.take_succ_eq_append_getElem hj,List.filter_append]
 rw [getElem!_pos xs j hj] at hx
 rw [hx]
 simp [hp]
theorem take_skip {p:List Value→Bool} {xs:List (List Value)} {j:Nat} {x:List Value} (hj:j < xs.length) (hx:xs[j]! = x) (hp:p x=true):((xs.take (j+1)).filter fun x=>!p x)=((xs.take j).filter fun x=>!p x):=by
 rw [List.take_succ_eq_append_getElem hj,List.filter_append]
 rw [getElem!_pos xs j hj] at hx
 rw [hx]
 simp [hp]
theorem DelInv.skip {p : List Value → Bool} {xs : List (List Value)} {cur : Array Value} {g : Nat} {e : TypeId} {w wr w1 : World} {i j : Nat} {x : List Value} (h : DelInv p xs cur g e w wr i j) (hj : j < xs.length) (hx : xs[j]! = x) (hp : p x = true)
  (hgr:wr.grownBy w1 (some g)) (hg:w1.heap[g]?=wr.heap[g]?):DelInv p xs cur g e w w1 i (j+1):=by
 obtain ⟨gr,⟨dk,d1,d2,d3,d4⟩,d5,d6⟩:=h
 exact ⟨grownBy_trans gr hgr,⟨dk,by rw [hg]; exact d1,d2,by rw [take_skip hj hx hp]; exact d3,fun k hk=>d4 k (by omega)⟩,by rw [take_skip hj hx hp]; exact d5,by omega⟩
theorem setCell_row (w:World) (g i:Nat) (dk:Array Value) (e:TypeId) (v:Value) (h:w.heap[g]?=some (.cells dk e (0,0))):(w.setCell ⟨g,i,none⟩ v).heap[g]?=some (.cells (dk.setIfInBounds i v) e (0,0))∧w.grownBy (w.setCell ⟨g,i,none⟩ v) (some g):=by
 rw [setCell_eq_setRow w g i dk e (0,0) v h]
 refine ⟨setRow_heap w g dk _ e (0,0) h,rfl,rfl,rfl,?_,fun k hk hne=>?_⟩
 · show _≤(w.heap.modify g _).size
   rw [Array.size_modify]; exact Nat.le_refl _
 · show (w.heap.modify g _)[k]?=_
   rw [Array.getElem?_modify,if_neg (fun h=>hne (by rw [h]))]
theorem DelInv.keep {p : List Value → Bool} {xs : List (List Value)} {cur : Array Value} {g : Nat} {e : TypeId} {w wr w1 : World} {i j : Nat} {a b : Value} (h : DelInv p xs cur g e w wr i j) (hj : j < xs.length) (hx : xs[j]! = [a, b]) (hp : p [a, b] = false)
  (hgr:wr.grownBy w1 (some g)) (hg:w1.heap[g]?=wr.heap[g]?) (hcs:xs.length * 2≤cur.size):DelInv p xs cur g e w ((w1.setCell ⟨g,i * 2,none⟩ a).setCell ⟨g,i * 2+1,none⟩ b) (i+1) (j+1):=by
 obtain ⟨gr,⟨dk,d1,d2,d3,d4⟩,d5,d6⟩:=h
 obtain ⟨r1,r2⟩:=setCell_row w1 g (i * 2) dk e a (by rw [hg]; exact d1)
 obtain ⟨r3,r4⟩:=setCell_row _ g (i * 2+1) _ e b r1
 refine ⟨grownBy_trans gr (grownBy_trans hgr (grownBy_trans r2 r4)),⟨_,r3,by simp [d2],?_,fun k hk=>?_⟩,?_,by omega⟩
 · rw [take_keep hj hx hp,List.flatten_append,← d3]
   have hlt:i * 2+1 < dk.toList.length:=by rw [Array.length_toList]; omega
   simp only [Array.toList_setIfInBounds,List.flatten_cons,List.flatten_nil,List.append_nil]
   apply List.ext_getElem?
   intro k
   simp only [List.getElem?_take,List.getElem?_set,List.length_set,List.getElem?_append,List.length_take]
   have hmin:min (i * 2) dk.toList.length=i * 2:=Nat.min_eq_left (by omega)
   rw [hmin]
   by_cases h1:k < i * 2
   · rw [if_pos (by omega),if_neg (by omega),if_neg (by omega),if_pos h1,if_pos h1]
   · by_cases h2:k=i * 2
     · subst h2
       rw [if_pos (by omega),if_neg (by omega),if_pos rfl,if_pos (by omega),if_neg h1,Nat.sub_self]; rfl
     · by_cases h3:k=i * 2+1
       · subst h3
         rw [if_pos (by omega),if_pos rfl,if_pos (by omega),if_neg h1,show i * 2+1 - i * 2=1 by omega]; rfl
       · rw [if_neg (by omega),if_neg h1,List.getElem?_eq_none (by simp; omega)]
 · have hk1:i * 2≠k:=by omega
   have hk2:i * 2+1≠k:=by omega
   simp only [Array.getElem?_setIfInBounds,hk1,hk2,if_false]
   exact d4 k (by omega)
 · rw [take_keep hj hx hp,List.length_append,← d5]; rfl
set_option maxHeartbeats 4000000 in
set_option maxRecDepth 100000 in
theorem del_fn (f : Nat) (lb : Array Value) (p : List Value → Bool) (ok : World → Prop) (el : List Value → Prop) (eg : ∀ args w, (callFunc f args).run Tryz.prog w = .ok (.enter f args) w) (hp : PredG f lb p ok el)
  (g n c:Nat) (cur:Array Value) (e:TypeId) (xs:List (List Value)) (w:World) (hob:∀ W,w.grownBy W (some g)→ok W) (hlen:xs.length=n) (hel:∀ x∈xs,el x∧x.length=2∧∀ v∈x,∃ y:Int,v=.int .i64 y) (hn:n≤4294967295)
  (hg:w.heap[g]?=some (.cells cur e (0,0))) (hcs:cur.size=c * 2) (hnc:n≤c) (hx:cur.toList.take (n * 2)=xs.flatten) :
  Calls Tryz.prog 73 #[.slice (some ⟨g,0,none⟩) n c,.func (.func f) #[] lb] w fun r w'=>r=.returned (.slice (some ⟨g,0,none⟩) (xs.filter fun x=>!p x).length c)∧w.grownBy w' (some g) ∧
   ∃ cur':Array Value,w'.heap[g]?=some (.cells cur' e (0,0))∧cur'.size=c * 2∧cur'.toList.take ((xs.filter fun x=>!p x).length * 2)=(xs.filter fun x=>!p x).flatten:=by
 have u22:∀ w,Sem.run Tryz.prog (underlying 22) w=.ok (TypeDesc.slice 41) w:=run_underlying Tryz.underlying22
 have e99:∀ args w,(callFunc 99 args).run Tryz.prog w=.ok (.enter 99 args) w:=fun args w=>by kernel_rfl
 have hl2:∀ x∈xs,x.length=2:=fun x hx=>(hel x hx).2.1
 have hxl:∀ j,j < xs.length→el xs[j]! ∧ xs[j]!.length=2:=fun j hj=>by rw [getElem!_pos xs j hj]; exact ⟨(hel _ (List.getElem_mem _)).1,hl2 _ (List.getElem_mem _)⟩
 have hgw:g < w.heap.size:=(Array.getElem?_eq_some_iff.1 hg).1
 have hcell:∀ j,j < xs.length→∀ k v,(xs[j]!)[k]?=some v→w.cell? ⟨g,j * 2+k,none⟩=some v:=fun j hj k v hk=>by
  have hk2:k < 2:=by
   have:=(List.getElem?_eq_some_iff.1 hk).1
   rw [(hxl j hj).2] at this; exact this
  have h1:=flat_get2 xs hl2 j k hj hk2
  rw [← hx,List.getElem?_take,if_pos (by omega)] at h1
  rw [getElem!_pos xs j hj] at hk
  simp only [World.cell?,hg]
  simpa [hk] using h1
 have hIF:=idx_fn f lb p ok el eg hp g n c xs w (fun W hW=>hob W (grownBy_below hW)) hlen (fun x hx=>⟨(hel x hx).1,hl2 x hx⟩) hgw hn hcell
 rcases idx_cases p xs 0 with ⟨e1,hall⟩ | ⟨k0,hk0,e1,ht,hall⟩
 · have e2:Lib.idxBy (fun _ y=>p y) xs []=-1:=e1
   rw [e2] at hIF
   have hfil:(xs.filter fun x=>!p x)=xs:=List.filter_eq_self.2 fun x hx=>by rw [hall x hx]; rfl
   rw [hfil,hlen]
   have X:=Lib.hid (And.intro hg (And.intro hcs hx))
   clear hg hcs hx hcell hob hp hl2 hel hxl e1 e2 hall hfil hlen
   go_enter Tryz.func73,Tryz.ntmps73
   go_wp2_with (go_at_fn 99; refine hIF.mono ?_; rintro r w' ⟨rfl,hb'⟩)
   go_ret
   exact ⟨rfl,grownBy_below hb',cur,by rw [hb'.block g hgw]; exact X.out.1,X.out.2.1,X.out.2.2⟩
 · have e2:Lib.idxBy (fun _ y=>p y) xs []=(k0:Int):=by unfold Lib.idxBy; rw [e1]; simp
   rw [e2] at hIF
   subst hlen
   have hk0f:((xs.take (k0+1)).filter fun x=>!p x)=xs.take k0:=by
    rw [List.take_succ_eq_append_getElem hk0,List.filter_append,List.filter_eq_self.2 fun x hx=>by rw [hall x hx]; rfl]
    rw [getElem!_pos xs k0 hk0] at ht
    simp [ht]
   have hst:∀ wr:World,Below w.heap.size w wr→DelInv p xs cur g e w wr k0 (k0+1):=fun wr hb=>by
    refine ⟨grownBy_below hb,⟨cur,by rw [hb.block g hgw]; exact hg,rfl,?_,fun k _=>rfl⟩,by rw [hk0f]; simp; omega⟩
    rw [hk0f,← flat_take2 xs k0 hl2,← hx,List.take_take]
    congr 1; omega
   have hrd:∀ (wr:World) (i j:Nat),DelInv p xs cur g e w wr i j→j < xs.length→∃ (a b:Int) (o0 o1:Value),xs[j]! = [.int .i64 a,.int .i64 b]∧wr.cell? ⟨g,j * 2,none⟩=some (.int .i64 a)∧wr.cell? ⟨g,j * 2+1,none⟩=some (.int .i64 b)∧wr.cell? ⟨g,i * 2,none⟩=some o0∧wr.cell? ⟨g,i * 2+1,none⟩=some o1∧wr.frozen? ⟨g,i * 2,none⟩=false∧wr.frozen? ⟨g,i * 2+1,none⟩=false∧g < wr.heap.size:=fun wr i j hI hj=>by
    obtain ⟨gr,⟨dk,d1,d2,d3,d4⟩,d5,d6⟩:=hI
    have hjs:j * 2+1 < dk.size:=by rw [d2,hcs]; omega
    have hc0:∀ k v,(xs[j]!)[k]?=some v→dk[j * 2+k]?=some v:=fun k v hk=>by
     have h1:=hcell j hj k v hk
     rw [d4 _ (by omega)]
     simpa [World.cell?,hg] using h1
    have hone:∀ v∈xs[j]!,∃ y:Int,v=.int .i64 y:=by rw [getElem!_pos xs j hj]; exact (hel _ (List.getElem_mem _)).2.2
    have h2:=(hxl j hj).2
    match hxj:xs[j]!,h2,hc0,hone with
    | [a,b],_,hc0,hone =>
     obtain ⟨a,rfl⟩:=hone a (by simp)
     obtain ⟨b,rfl⟩:=hone b (by simp)
     refine ⟨a,b,dk[i * 2]'(by omega),dk[i * 2+1]'(by omega),rfl,?_,?_,?_,?_,by simp [World.frozen?,d1],by simp [World.frozen?,d1],(Array.getElem?_eq_some_iff.1 d1).1⟩
     · simp only [World.cell?,d1]; exact hc0 0 _ rfl
     · simp only [World.cell?,d1]; exact hc0 1 _ rfl
     · simp only [World.cell?,d1]; exact Array.getElem?_eq_getElem _
     · simp only [World.cell?,d1]; exact Array.getElem?_eq_getElem _
   have hpc:∀ (wr W:World) (i j:Nat),DelInv p xs cur g e w wr i j→wr.grownBy W (some g)→j < xs.length→Calls Tryz.prog f (#[.agg (xs[j]!).toArray]++lb) W fun r w'=>r=.returned (.bool (p xs[j]!))∧Below W.heap.size W w':=fun wr W i j hI hW hj=>hp W _ (hob W (grownBy_trans hI.gr hW)) (hxl j hj).1
   have HD:Aside (cur.size=c * 2∧xs.length≤c):=⟨hcs,hnc⟩
   have HL:Aside (xs.length * 2≤cur.size):=by show _≤_; omega
   have HS:Aside _:=hst
   have HR:Aside _:=hrd
   have HP:Aside _:=hpc
   have HX:Aside _:=hxl
   clear hst hrd hpc hx hxl hcell hob hp hel hl2 e1 e2 hall ht hk0f hg hcs
   go_enter Tryz.func73,Tryz.ntmps73
   go_wp2_with (go_at_fn 99; refine hIF.mono ?_; rintro r w' ⟨rfl,hb0⟩)
   go_loopg [5,6,7] xs.length (fun gg s5 s6 _ wr=>∃ (i j:Nat),s5=.int .i64 i∧s6=.int .i64 j∧j≤xs.length∧xs.length - j≤gg∧Aside (DelInv p xs cur g e w wr i j))
   case atStart=>exact ⟨k0,k0+1,rfl,by go_num,by omega,by omega,HS.out _ hb0⟩
   case round =>
    obtain ⟨i,j,rfl,rfl,hjd,hgg,I⟩:=hrel
    by_cases hlt:j < xs.length
    · have hltz:(j:Int) < (xs.length:Int):=by omega
      have hij:i < j:=I.out.ij.2
      obtain ⟨a,b,o0,o1,hy,l0,l1,l2,l3,l4,l5,hgr⟩:=HR.out wr i j I.out hlt
      have hgrW:wr.grownBy (wr.alloc (.cells #[.int .i64 a,.int .i64 b] 41)) (some g):=grownBy_below ((Below.refl _ _).alloc (Nat.le_refl _) _)
      have hcall:=HP.out wr _ i j I.out hgrW hlt
      rw [hy] at hcall
      have B:Aside (xs[j]! = [.int .i64 a,.int .i64 b]):=hy
      have hcl:∀ w1,Below (wr.alloc (.cells #[.int .i64 a,.int .i64 b] 41)).heap.size (wr.alloc (.cells #[.int .i64 a,.int .i64 b] 41)) w1→w1.cell? ⟨wr.heap.size,0,none⟩=some (.int .i64 a)∧w1.cell? ⟨wr.heap.size,1,none⟩=some (.int .i64 b)∧w1.cell? ⟨g,i * 2,none⟩=some o0∧w1.cell? ⟨g,i * 2+1,none⟩=some o1∧w1.frozen? ⟨g,i * 2,none⟩=false∧w1.frozen? ⟨g,i * 2+1,none⟩=false:=fun w1 hb=>by
       have hsz:(wr.alloc (.cells #[.int .i64 a,.int .i64 b] 41)).heap.size=wr.heap.size+1:=Array.size_push _
       have hc:∀ o,(wr.alloc (.cells #[.int .i64 a,.int .i64 b] 41)).cell? ⟨g,o,none⟩=wr.cell? ⟨g,o,none⟩:=fun o=>World.cell?_of_block (Go.heap_alloc_old wr _ hgr)
       have hf:∀ o,(wr.alloc (.cells #[.int .i64 a,.int .i64 b] 41)).frozen? ⟨g,o,none⟩=wr.frozen? ⟨g,o,none⟩:=fun o=>World.frozen?_of_block (Go.heap_alloc_old wr _ hgr)
       have hn0:=World.cell?_alloc_at (w:=wr) #[.int .i64 a,.int .i64 b] 41 wr.heap.size 0 rfl
       have hn1:=World.cell?_alloc_at (w:=wr) #[.int .i64 a,.int .i64 b] 41 wr.heap.size 1 rfl
       exact ⟨by rw [hb.cell (p:=⟨wr.heap.size,0,none⟩) (by rw [hsz]; exact Nat.lt_succ_self _),hn0]; rfl,by rw [hb.cell (p:=⟨wr.heap.size,1,none⟩) (by rw [hsz]; exact Nat.lt_succ_self _),hn1]; rfl,
        by rw [hb.cell (p:=⟨g,i * 2,none⟩) (by rw [hsz]; exact Nat.lt_succ_of_lt hgr),hc]; exact l2,by rw [hb.cell (p:=⟨g,i * 2+1,none⟩) (by rw [hsz]; exact Nat.lt_succ_of_lt hgr),hc]; exact l3,
        by rw [hb.frozen (p:=⟨g,i * 2,none⟩) (by rw [hsz]; exact Nat.lt_succ_of_lt hgr),hf]; exact l4,by rw [hb.frozen (p:=⟨g,i * 2+1,none⟩) (by rw [hsz]; exact Nat.lt_succ_of_lt hgr),hf]; exact l5⟩
      have HC:Aside _:=hcl
      have HG:Aside _:=hgrW
      have HN:Aside (g < (wr.alloc (.cells #[.int .i64 a,.int .i64 b] 41)).heap.size∧(wr.alloc (.cells #[.int .i64 a,.int .i64 b] 41)).heap[g]?=wr.heap[g]?):=⟨Nat.lt_of_lt_of_le hgr (Nat.le_of_lt (by show _ < (wr.heap.push _).size; rw [Array.size_push]; exact Nat.lt_succ_self _)),Go.heap_alloc_old wr _ hgr⟩
      clear hy hcl l2 l3 l4 l5 hgrW
      cases hq:p [.int .i64 a,.int .i64 b] with
      | false =>
       rw [hq] at hcall
       go_wp2_with (go_at_fn f; refine hcall.mono ?_; rintro r w1 ⟨rfl,hb1⟩; obtain ⟨m0,m1,m2,m3,m4,m5⟩:=HC.out w1 hb1)
       go_roundg (xs.length - (j+1))
       case measure=>omega
       case rel =>
        refine ⟨i+1,j+1,by go_num,by go_num,by omega,Nat.le_refl _,(show Aside _ from ?_)⟩
        exact I.out.keep hlt B.out hq (grownBy_trans HG.out (grownBy_below hb1)) (by rw [hb1.block g HN.out.1]; exact HN.out.2) HL.out
      | true =>
       rw [hq] at hcall
       go_wp2_with (go_at_fn f; refine hcall.mono ?_; rintro r w1 ⟨rfl,hb1⟩; obtain ⟨m0,m1,m2,m3,m4,m5⟩:=HC.out w1 hb1)
       go_roundg (xs.length - (j+1))
       case measure=>omega
       case rel =>
        exact ⟨i,j+1,rfl,by go_num,by omega,Nat.le_refl _,(show Aside _ from I.out.skip hlt B.out hq (grownBy_trans HG.out (grownBy_below hb1)) (by rw [hb1.block g HN.out.1]; exact HN.out.2))⟩
    · obtain rfl:j=xs.length:=by omega
      have hltz:¬ (xs.length:Int) < (xs.length:Int):=by omega
      obtain ⟨gr,⟨dk,d1,d2,d3,d4⟩,d5,d6⟩:=I.out
      rw [List.take_length] at d3 d5
      have hdc:dk.size=c * 2:=by rw [d2]; exact HD.out.1
      have hnc:=HD.out.2
      have hci:¬ (c=i):=by omega
      have hin:i≤xs.length:=by omega
      obtain ⟨dk',hdk'⟩:∃ dk':Array Value,dk'=(dk.toList.take (i * 2)++(Builtin.zeroCells (Value.agg #[.int .i64 0,.int .i64 0]).cells (xs.length - i)).toList++dk.toList.drop (i * 2+(xs.length - i) * 2)).toArray:=⟨_,rfl⟩
      have hzs:(Builtin.zeroCells (Value.agg #[.int .i64 0,.int .i64 0]).cells (xs.length - i)).size=(xs.length - i) * 2:=by simp [Builtin.zeroCells,Value.cells]
      have hcl:∀ ty,(Builtin.clear_ #[22] ty #[.slice (some ⟨g,i * 2,none⟩) (xs.length - i) (c - i)]).run Tryz.prog wr=.ok (.tuple #[]) (wr.setRow g dk'):=fun ty=>by
       have:=run_clear_z (P:=Tryz.prog) wr 22 41 ty (.agg #[.int .i64 0,.int .i64 0]) 2 g (i * 2) (xs.length - i) (c - i) dk e Tryz.underlying22 (fun w=>by kernel_rfl) hzs (fun v hv=>by
        have:∀ v∈(Builtin.zeroCells (Value.agg #[.int .i64 0,.int .i64 0]).cells (xs.length - i)).toList,v=.int .i64 0:=by
         intro v hv
         simp only [Builtin.zeroCells,Value.cells,Array.toList_map,List.mem_map] at hv
         obtain ⟨k,_,rfl⟩:=hv
         have hk:k % 2=0∨k % 2=1:=by omega
         show (#[Value.int .i64 0,Value.int .i64 0])[k % 2]! = _
         rcases hk with hk | hk <;> rw [hk] <;> rfl
        rw [this v hv]; rfl) d1 (by omega)
       rw [this,← hdk']
      have hd's:dk'.size=c * 2:=by rw [hdk']; simp [hzs]; omega
      have hd't:dk'.toList.take (i * 2)=dk.toList.take (i * 2):=by
       rw [hdk']
       simp only [List.append_assoc]
       rw [List.take_append_of_le_length (by rw [List.length_take,Array.length_toList]; omega),List.take_take,Nat.min_self]
      have X:Aside (w.grownBy (wr.setRow g dk') (some g)∧(wr.setRow g dk').heap[g]?=some (.cells dk' e (0,0))∧dk'.size=c * 2∧i=(xs.filter fun x=>!p x).length∧dk'.toList.take (i * 2)=(xs.filter fun x=>!p x).flatten):=by
       refine ⟨grownBy_trans gr ⟨rfl,rfl,rfl,?_,fun k hk hne=>?_⟩,setRow_heap wr g dk dk' e (0,0) d1,hd's,d5,by rw [hd't]; exact d3⟩
       · show _≤(wr.heap.modify g _).size
         rw [Array.size_modify]; exact Nat.le_refl _
       · show (wr.heap.modify g _)[k]?=_
         rw [Array.getElem?_modify,if_neg (fun h=>hne (by rw [h]))]
      clear d1 d2 d3 d4 d5 hdc hdk' hzs hd's hd't gr
      go_wp2
      go_ret
      obtain ⟨x1,x2,x3,x4,x5⟩:=X.out
      exact ⟨by rw [← x4]; rfl,x1,dk',x2,x3,by rw [← x4]; exact x5⟩
end Go.Proofs.YtghpknbkecolnaaGreatDoor
