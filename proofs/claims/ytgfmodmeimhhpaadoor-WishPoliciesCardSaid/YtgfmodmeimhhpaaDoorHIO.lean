/- Walked by hand: slices.Insert in a row of its own. -/
import Derived.Test.YtgfmodmeimhhpaaDoorHIN
namespace Go.Proofs.YtgfmodmeimhhpaaDoor
open Go.RowKit Go.Lib Go.VM
theorem setRow_grown (w:World) (g:Nat) (R:Array Value):w.grownBy (w.setRow g R) (some g):=by
 refine ⟨rfl,rfl,rfl,?_,fun k hk hne=>?_⟩
 · show _≤(w.heap.modify g _).size
   rw [Array.size_modify]; exact Nat.le_refl _
 · show (w.heap.modify g _)[k]?=_
   rw [Array.getElem?_modify,if_neg (fun h=>hne (by rw [h]))]
theorem ins_own (base : Nat) (s : Value) (n i vb : Nat) (xs ds : List Value) (w : World) (hi : i ≤ n) (hown : w.ownsRow base 63 2 s n xs) (hbase : base ≤ w.heap.size) (hn : n + 1 ≤ 4294967295) (hx1 : ∀ v ∈ xs, v.oneCell' = true)
  (hv:w.heap[vb]?=some (.cells ds.toArray 63 (0,0))) (hvb:∀ k,s.ownBlock=some k→vb≠k) (hdl:ds.length=2) (hd1:∀ v∈ds,v.oneCell'=true) :
  Calls Tryd.prog 50 #[s,.int .i64 i,.slice (some ⟨vb,0,none⟩) 1 1] w fun r w'=>∃ v',r=.returned v'∧w'.ownsRow base 63 2 v' (n+1) (xs.take (i * 2)++ds++xs.drop (i * 2))∧w.grownBy w' s.ownBlock∧(v'.ownBlock=s.ownBlock∨v'.ownBlock=some w.heap.size):=by
 by_cases hin:i=n
 · subst hin
   have hxl:=hown.1
   have hE:∀ (a:Option Addr) (c:Nat),s=.slice a i c→Calls Tryd.prog 50 #[s,.int .i64 i,.slice (some ⟨vb,0,none⟩) 1 1] w fun r w'=>∃ v',r=.returned v'∧w'.ownsRow base 63 2 v' (i+1) (xs.take (i * 2)++ds++xs.drop (i * 2))∧w.grownBy w' s.ownBlock∧(v'.ownBlock=s.ownBlock∨v'.ownBlock=some w.heap.size):=fun a c hs=>by
    have:=ins_end base s i c vb a xs ds w hs hown hbase hn hv hdl hd1
    rw [← hs] at this
    refine this.mono fun r w' ⟨v',e1,e2,e3,e4⟩=>⟨v',e1,?_,e3,e4⟩
    rw [List.take_of_length_le (by omega),List.drop_of_length_le (by omega),List.append_nil]
    exact e2
   rcases hown.2 with ⟨h,h0⟩ | ⟨g,cap,cur,h,hg,_⟩
   · subst h0; exact hE none 0 h
   · exact hE _ cap h
 · have hlt:i < n:=by omega
   rcases hown.2 with ⟨h,h0⟩ | ⟨g,cap,cur,rfl,hg,hh,hnc,hm,hs,ht⟩
   · omega
   · have hgw:g < w.heap.size:=(Array.getElem?_eq_some_iff.1 hh).1
     have hvg:vb≠g:=hvb g rfl
     have hAl:cur.toList.length=cap * 2:=by rw [Array.length_toList]; exact hs
     have htk:xs.take (i * 2)=cur.toList.take (i * 2):=by rw [← ht,List.take_take]; congr 1; omega
     have hdr:xs.drop (i * 2)=(cur.toList.drop (i * 2)).take ((n - i) * 2):=by rw [← ht,List.drop_take]; congr 1; omega
     have htl:(cur.toList.take (i * 2)).length=i * 2:=by rw [List.length_take]; omega
     have hdl':((cur.toList.drop (i * 2)).take ((n - i) * 2)).length=(n - i) * 2:=by rw [List.length_take,List.length_drop]; omega
     by_cases hroom:n+1≤cap
     · obtain ⟨R1,hR1⟩:∃ R1:Array Value,R1=(cur.toList.take ((i+1) * 2)++(cur.toList.drop (i * 2)).take ((n - i) * 2)++cur.toList.drop ((i+1) * 2+(n - i) * 2)).toArray:=⟨_,rfl⟩
       obtain ⟨R2,hR2⟩:∃ R2:Array Value,R2=(R1.toList.take (i * 2)++ds++R1.toList.drop (i * 2+2)).toArray:=⟨_,rfl⟩
       have hs1:=ins_shift g n cap i vb cur 63 ds w hlt hroom (by unfold maxLen at hm; omega) hvg hh hs (fun v hv=>hx1 v (List.mem_of_mem_drop (hdr▸hv))) hv hdl hd1 R1 R2 hR1 hR2
       have hR1s:R1.size=cap * 2:=by rw [hR1]; simp [hAl]; omega
       have hR1l:R1.toList.length=cap * 2:=by rw [Array.length_toList]; exact hR1s
       have hk1:R1.toList.take (i * 2)=cur.toList.take (i * 2):=by
        rw [hR1]
        simp only [List.append_assoc]
        rw [List.take_append_of_le_length (by rw [List.length_take,hAl]; omega),List.take_take,Nat.min_eq_left (by omega)]
       have hk2:R1.toList.drop (i * 2+2)=(cur.toList.drop (i * 2)).take ((n - i) * 2)++cur.toList.drop ((i+1) * 2+(n - i) * 2):=by
        rw [hR1]
        simp only [List.append_assoc]
        rw [List.drop_left' (by rw [List.length_take,hAl]; omega)]
       refine hs1.mono fun r w' ⟨e1,e2⟩=>⟨_,e1,⟨?_,.inr ⟨g,cap,R2,rfl,hg,by subst e2; exact setRow_heap _ g R1 R2 63 (0,0) (setRow_heap w.drew g cur R1 63 (0,0) hh),hroom,hm,?_,?_⟩⟩,?_,.inl rfl⟩
       · rw [htk,hdr]; simp only [List.length_append,htl,hdl',hdl]; omega
       · rw [hR2]; simp only [List.size_toArray,List.length_append,List.length_take,List.length_drop,hR1l,hdl]; omega
       · rw [htk,hdr,hR2]
         rw [hk1,hk2,← List.append_assoc]
         exact List.take_left' (by simp only [List.length_append,htl,hdl',hdl]; omega)
       · subst e2
         have h1:=setRow_grown w.drew g R1
         have h2:=setRow_grown (w.drew.setRow g R1) g R2
         refine ⟨rfl,rfl,rfl,Nat.le_trans h1.size h2.size,fun k hk hne=>?_⟩
         rw [h2.block k (Nat.lt_of_lt_of_le (by show k < w.heap.size; omega) h1.size) hne,h1.block k (by show k < w.heap.size; omega) hne]
         rfl
     · have hcn:cap=n:=by omega
       subst hcn
       obtain ⟨G,hG⟩:∃ G,G=grownCap w (cap+1) cap 63:=⟨_,rfl⟩
       have hG1:cap+1≤G:=by rw [hG]; exact grownCap_ge w _ _ _
       have hG2:G≤maxLen:=by rw [hG]; exact grownCap_le_maxLen w _ _ _ (by unfold maxLen; omega)
       obtain ⟨ROW,hROW⟩:∃ ROW:Array Value,ROW=(cur.toList.take (i * 2)).toArray++Builtin.zeroCells #[.bool false,.slice none 0 0] (cap+1 - i)++Builtin.zeroCells #[.bool false,.slice none 0 0] (G - (cap+1)):=⟨_,rfl⟩
       obtain ⟨R1,hR1⟩:∃ R1:Array Value,R1=(ROW.toList.take (i * 2)++ds++ROW.toList.drop (i * 2+2)).toArray:=⟨_,rfl⟩
       obtain ⟨R2,hR2⟩:∃ R2:Array Value,R2=(R1.toList.take ((i+1) * 2)++cur.toList.drop (i * 2)++R1.toList.drop ((i+1) * 2+(cap - i) * 2)).toArray:=⟨_,rfl⟩
       have hg1:=ins_grow g cap i vb cur 63 ds w hlt hn hh hs (fun v hv=>hx1 v (by rw [← ht,List.take_of_length_le (by omega)]; exact hv)) hv hdl hd1 G hG ROW R1 R2 hROW hR1 hR2
       have hRl:ROW.toList.length=G * 2:=by rw [hROW]; simp [hAl,Builtin.zeroCells]; omega
       have hR1l:R1.toList.length=G * 2:=by rw [hR1]; simp only [List.toList_toArray,List.length_append,List.length_take,List.length_drop,hRl,hdl]; omega
       have hdd:(cur.toList.drop (i * 2)).take ((cap - i) * 2)=cur.toList.drop (i * 2):=List.take_of_length_le (by rw [List.length_drop]; omega)
       rw [hdd] at hdl' hdr
       have hk0:ROW.toList.take (i * 2)=cur.toList.take (i * 2):=by
        rw [hROW]
        simp only [Array.toList_append,List.toList_toArray,List.append_assoc]
        exact List.take_left' htl
       have hk1:R1.toList.take ((i+1) * 2)=cur.toList.take (i * 2)++ds:=by
        rw [hR1,hk0]
        exact List.take_left' (by simp only [List.length_append,htl,hdl]; omega)
       refine hg1.mono fun r w' ⟨e1,e2⟩=>⟨_,e1,⟨?_,.inr ⟨w.heap.size,G,R2,rfl,hbase,by subst e2; exact setRow_heap _ _ R1 R2 63 (0,0) (setRow_heap _ _ ROW R1 63 (0,0) (heap_alloc_new w _)),hG1,hG2,?_,?_⟩⟩,?_,.inr rfl⟩
       · rw [htk,hdr]; simp only [List.length_append,htl,hdl',hdl]; omega
       · rw [hR2]; simp only [List.size_toArray,List.length_append,List.length_take,List.length_drop,hR1l,hAl]; omega
       · rw [htk,hdr,hR2,hk1]
         exact List.take_left' (by simp only [List.length_append,htl,hdl',hdl]; omega)
       · subst e2
         have h0:Below w.heap.size w (w.alloc (.cells ROW 63)):=(Below.refl _ w).alloc (Nat.le_refl _) _
         have h1:=setRow_grown (w.alloc (.cells ROW 63)).drew w.heap.size R1
         have h2:=setRow_grown ((w.alloc (.cells ROW 63)).drew.setRow w.heap.size R1).drew w.heap.size R2
         have hlt2:∀ k,k < w.heap.size→k < (w.alloc (.cells ROW 63)).heap.size:=fun k hk=>Nat.lt_of_lt_of_le hk h0.size
         refine ⟨rfl,rfl,rfl,Nat.le_trans h0.size (Nat.le_trans h1.size h2.size),fun k hk _=>?_⟩
         rw [h2.block k (Nat.lt_of_lt_of_le (hlt2 k hk) h1.size) (by intro e; cases e; omega)]
         show ((w.alloc (.cells ROW 63)).drew.setRow w.heap.size R1).heap[k]?=_
         rw [h1.block k (hlt2 k hk) (by intro e; cases e; omega)]
         exact h0.block k hk
end Go.Proofs.YtgfmodmeimhhpaaDoor
