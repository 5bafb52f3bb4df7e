/- Walked by hand: the document's Parse. -/
import Derived.Test.YtajoneenakjifaaGreatDoorHPQ
namespace Go.Proofs.YtajoneenakjifaaGreatDoor
open Go.RowKit Go.Lib Go.VM Go.Txt
theorem split_ok (s : ByteArray) (c : UInt8) (w : World) (hw : w.ShapedOpen Tryz.prog) (hs : s.data.toList.length ≤ 100000) :
  Calls Tryz.prog 27 #[.string s,.string ⟨#[c]⟩] w fun e w'=>∃ A,e=.returned (.slice (some ⟨A,0,none⟩) (parts c s.data.toList).length (parts c s.data.toList).length) ∧
   w'.ownsRow w.heap.size 9 1 (.slice (some ⟨A,0,none⟩) (parts c s.data.toList).length (parts c s.data.toList).length) (parts c s.data.toList).length ((parts c s.data.toList).map fun x=>Value.string ⟨x.toArray⟩)∧Below w.heap.size w w':=by
 have hsz:s.size=s.data.toList.length:=bsz s
 have hlen:=Lib.splitB_all ⟨#[c]⟩ (Nat.le_refl 1) 0 _ s rfl
 have hdat:(Lib.splitB ⟨#[c]⟩ 0 (Lib.countB s ⟨#[c]⟩) s).map (·.data.toList)=parts c s.data.toList:=by
  rw [← split_parts]; exact Lib.splitB_data ⟨#[c]⟩ 0 _ s
 have hl:(parts c s.data.toList).length=Lib.countB s ⟨#[c]⟩+1:=by rw [← hdat,List.length_map,hlen]
 have hv:(parts c s.data.toList).map (fun x=>Value.string ⟨x.toArray⟩)=(Lib.splitB ⟨#[c]⟩ 0 (Lib.countB s ⟨#[c]⟩) s).map Value.string:=by
  rw [← hdat,List.map_map]
  exact List.map_congr_left fun b _=>rfl
 have hle:=Lib.countB_le ⟨#[c]⟩ (Nat.le_refl 1) s.size s (Nat.le_refl _)
 refine (Tryz.strings_Split_shaped s ⟨#[c]⟩ w hw (by omega) (Nat.le_refl 1)).mono fun e w' ⟨h1,h2⟩=>⟨w.heap.size,by rw [h1,hl],?_,?_⟩
 · subst h2
   have:=World.ownsRow_lit (base:=w.heap.size) (e:=9) (size:=1) w ((Lib.splitB ⟨#[c]⟩ 0 (Lib.countB s ⟨#[c]⟩) s).map Value.string).toArray (parts c s.data.toList).length (Nat.le_refl _) (by unfold maxLen; omega) (by simp [hlen,hl])
   rw [hv]
   exact this
 · subst h2
   exact (Below.refl _ w).alloc (Nat.le_refl _) _
def cost (ws:List (List UInt8)):Nat:=(ws.map fun w=>w.length+1).sum
/-- A path that is being read. -/
structure RI (w1 wr:World) (v:Value) (L:List Seg) (vs:List Value):Prop where
 deep:Deep wr w1.heap.size v L vs
 nil:L=[]→v=.slice none 0 0
 bel:Below w1.heap.size w1 wr
theorem RI.beg {w1 wr w2 w' : World} {v v' : Value} {L : List Seg} {vs : List Value} {b : Bool} (h : RI w1 wr v L vs) (hb2 : Below wr.heap.size wr w2) (ho : w'.ownsRow w1.heap.size 39 2 v' (L.length + 1) (segC L vs ++ [.bool b, .slice none 0 0])) (hg : w2.grownBy w' v.ownBlock) (hat : v'.ownBlock = v.ownBlock ∨ v'.ownBlock = some w2.heap.size) :
  RI w1 w' v' (L++[(b,[])]) (vs++[.slice none 0 0]):=by
 have hD:=h.deep.below hb2
 have d1:=hD.push (b:=b) (l:=[]) (u:=.slice none 0 0) (w':=w') (v':=v') (ownG_of (e:=3) (World.ownsRow_nil _ _ _ _)) (fun j hj k hk e=>by cases e) (fun k hk e=>by cases hk) ho hg (hat.imp id fun q=>⟨_,q,Nat.le_refl _⟩)
 have hb:Below w1.heap.size w1 w2:=h.bel.trans (hb2.mono h.bel.size)
 exact ⟨d1,fun e=>by simp at e,hb.grown hg hb.size fun j hj=>(World.ownsRow.lt h.deep.row j hj).1⟩
theorem RI.add {w1 wr w2 w' : World} {g c kk : Nat} {L : List Seg} {vs : List Value} {n : Int} {u' : Value} (h : RI w1 wr (.slice (some ⟨g, 0, none⟩) (kk + 1) c) L vs) (hkk : L.length = kk + 1) (hx : kk < vs.length) (hb2 : Below wr.heap.size wr w2) (hg : w2.grownBy w' vs[kk].ownBlock)
  (hu:ownG w' w1.heap.size 1 u' ((lastS L).2++[n]).length (intC ((lastS L).2++[n]))) (hat:u'.ownBlock=vs[kk].ownBlock∨u'.ownBlock=some w2.heap.size) :
  RI w1 (w'.setCell ⟨g,kk * 2+1,none⟩ u') (.slice (some ⟨g,0,none⟩) (kk+1) c) (addN L n) (vs.set kk u'):=by
 have hD:=h.deep.below hb2
 have hxL:kk < L.length:=by omega
 have e1:L.length - 1=kk:=by omega
 have e0:L[kk]=lastS L:=by rw [lastS_get (by omega)]; congr 1; omega
 obtain ⟨d1,d2⟩:=hD.setIn (i:=kk) (u:=u') (l:=(lastS L).2++[n]) (w':=w') hxL hg hu (fun k hk=>hat.imp (fun q=>by rw [← q]; exact hk) fun q=>by rw [hk] at q; cases q; exact Nat.le_refl _)
 rw [e0] at d1
 have ep:addN L n=L.set kk ((lastS L).1,(lastS L).2++[n]):=by unfold addN; rw [e1]
 have hgb:∀ k,vs[kk].ownBlock=some k→w1.heap.size≤k:=fun k hk=>((h.deep.ins kk hxL hx).lt k hk).1
 have hb:Below w1.heap.size w1 w2:=h.bel.trans (hb2.mono h.bel.size)
 refine ⟨by rw [ep]; exact d1,fun e=>?_,?_⟩
 · have:=congrArg List.length e
   unfold addN at this
   rw [List.length_set,List.length_nil] at this; omega
 · refine (hb.grown hg hb.size fun j hj=>hgb j hj).grown d2 (Nat.le_trans hb.size hg.size) fun j hj=>?_
   cases hj
   exact (World.ownsRow.lt h.deep.row g rfl).1
theorem tot_cons (s:Seg) (L:List Seg):tot (s::L)=s.2.length+tot L:=by simp [tot]
theorem tot_set (n:Int):∀ (L:List Seg) (k:Nat) (hk:k < L.length),tot (L.set k (L[k].1,L[k].2++[n]))=tot L+1
 | [],k,hk=>by simp at hk
 | s::L,0,_=>by
  show tot ((s.1,s.2++[n])::L)=_
  rw [tot_cons,tot_cons,List.length_append]; simp; omega
 | s::L,k+1,hk=>by
  have hk':k < L.length:=by simpa using hk
  show tot (s::L.set k (L[k].1,L[k].2++[n]))=_
  rw [tot_cons,tot_cons,tot_set n L k hk']; omega
theorem addN_eq {L:List Seg} {kk:Nat} (h:L.length=kk+1) (n:Int):addN L n=L.set kk ((lastS L).1,(lastS L).2++[n])∧L[kk]'(by omega)=lastS L:=by
 have e1:L.length - 1=kk:=by omega
 exact ⟨by unfold addN; rw [e1],by rw [lastS_get (by omega)]; congr 1; omega⟩
theorem tot_mem:∀ {L:List Seg} {s:Seg},s∈L→s.2.length≤tot L
 | q::L,s,h=>by
  rw [tot_cons]
  rcases List.mem_cons.1 h with rfl | h
  · omega
  · have:=tot_mem h; omega
structure RO (w1:World) (ws:List (List UInt8)) (wr:World) (v:Value) (L:List Seg) (vs:List Value) (i:Nat):Prop where
 ri:RI w1 wr v L vs
 fold:foldR (ws.drop i) L=foldR ws []
 meas:tot L+cost (ws.drop i)≤901
 len:L.length≤i
structure RN (w1:World) (ws xs:List (List UInt8)) (B i:Nat) (R:Option (List Seg)) (wr:World) (v:Value) (L:List Seg) (vs:List Value) (j:Nat):Prop where
 ri:RI w1 wr v L vs
 ne:0 < L.length
 fold:foldX (xs.drop j) L=R
 meas:tot L+(xs.length - j)+cost (ws.drop (i+1))≤901
 len:L.length≤i+1
 cells:∀ k (hk:k < xs.length),wr.cell? ⟨B,k,none⟩=some (.string ⟨xs[k].toArray⟩)
 va:v.ownBlock≠some B
 ra:∀ r (hr:r < vs.length),vs[r].ownBlock≠some B
 lt:B < wr.heap.size
theorem RN.cut {w1 : World} {ws xs : List (List UInt8)} {B i : Nat} {R : Option (List Seg)} {wr : World} {v : Value} {L : List Seg} {vs : List Value} {j : Nat} (h : RN w1 ws xs B i R wr v L vs j) (hj : j < xs.length) (hd : (dec xs[j]).2 = true) :
  ∃ g kk c o1 m1 c1,v=.slice (some ⟨g,0,none⟩) (kk+1) c∧kk≤i∧∀ w2,Below wr.heap.size wr w2→w2.cell? ⟨g,kk * 2+1,none⟩=some (.slice o1 m1 c1)∧(w2.alloc (.cells #[.int .i64 (dec xs[j]).1] 3)).cell? ⟨g,kk * 2+1,none⟩=some (.slice o1 m1 c1) ∧
    ∀ ty,∃ v7 w7,(Builtin.append_ #[23,23] ty #[.slice o1 m1 c1,.slice (some ⟨w2.heap.size,0,none⟩) 1 1]).run Tryz.prog (w2.alloc (.cells #[.int .i64 (dec xs[j]).1] 3))=.ok v7 w7∧(∃ o m c,v7=.slice o m c)∧w7.cell? ⟨g,kk * 2+1,none⟩=some (.slice o1 m1 c1)∧w7.frozen? ⟨g,kk * 2+1,none⟩=false ∧
      ∃ L' vs',RN w1 ws xs B i R (w7.setCell ⟨g,kk * 2+1,none⟩ v7) v L' vs' (j+1):=by
 obtain ⟨kk,hkk⟩:∃ kk,L.length=kk+1:=⟨L.length - 1,by have:=h.ne; omega⟩
 have hxL:kk < L.length:=by omega
 have hx:kk < vs.length:=by rw [h.ri.deep.len]; exact hxL
 obtain ⟨ea,e0⟩:=addN_eq hkk (dec xs[j]).1
 obtain ⟨g,c,hv⟩:∃ g c,v=.slice (some ⟨g,0,none⟩) (kk+1) c:=by
  rcases h.ri.deep.row.2 with ⟨_,q⟩ | ⟨g,c,_,q,_⟩
  · omega
  · exact ⟨g,c,by rw [q,hkk]⟩
 subst hv
 obtain ⟨o1,m1,c1,hsh⟩:=(h.ri.deep.ins kk hxL hx).shape3
 obtain ⟨n,en⟩:∃ n,(dec xs[j]).1=n:=⟨_,rfl⟩
 have hf:=h.fold
 rw [List.drop_eq_getElem_cons hj,foldX,if_pos hd] at hf
 rw [en] at hf ea ⊢
 have hrow:=h.ri.deep.row
 rw [hkk] at hrow
 have hgw:=(World.ownsRow.lt hrow g rfl).2
 have r1:wr.cell? ⟨g,kk * 2+1,none⟩=some (.slice o1 m1 c1):=by rw [hrow.cellAt (kk * 2+1) (by omega),segC_get1 h.ri.deep.len hx,hsh]
 have hm:=h.meas
 refine ⟨g,kk,c,o1,m1,c1,rfl,by have:=h.len; omega,fun w2 hb2=>⟨by rw [hb2.cell (p:=⟨g,kk * 2+1,none⟩) hgw]; exact r1,?_,fun ty=>?_⟩⟩
 · rw [World.cell?_of_block (w:=w2) (a:=⟨g,kk * 2+1,none⟩) (Go.heap_alloc_old w2 _ (Nat.lt_of_lt_of_le hgw hb2.size)),hb2.cell (p:=⟨g,kk * 2+1,none⟩) hgw]; exact r1
 · have h3:Below wr.heap.size wr (w2.alloc (.cells #[.int .i64 n] 3)):=hb2.alloc hb2.size _
   have hi3:=(h.ri.deep.ins kk hxL hx).kept (grown_none h3 none) (Classical.em _)
   rw [e0,hsh] at hi3
   have hlen:(lastS L).2.length≤901:=by rw [← e0]; have:=tot_mem (List.getElem_mem hxL); omega
   have hsz:(w2.alloc (.cells #[.int .i64 n] 3)).heap.size=w2.heap.size+1:=Array.size_push _
   have hu:ownG (w2.alloc (.cells #[.int .i64 n] 3)) w2.heap.size 1 (.slice (some ⟨w2.heap.size,0,none⟩) 1 1) [n].length (intC [n]) :=
    ownG_of (World.ownsRow_lit (base:=w2.heap.size) (e:=3) (size:=1) w2 #[.int .i64 n] 1 (Nat.le_refl _) (by decide) rfl)
   obtain ⟨v7,w7,q1,q2,q3,q4⟩:=app_G (w2.alloc (.cells #[.int .i64 n] 3)) w1.heap.size (.slice o1 m1 c1) (lastS L).2 hi3 (.slice (some ⟨w2.heap.size,0,none⟩) 1 1) [n] (owns_hc hu) (Nat.le_trans h.ri.bel.size h3.size) (by simp; omega) ty
   have hgl:=Nat.lt_of_lt_of_le hgw h3.size
   have hgne:some g≠(Value.slice o1 m1 c1).ownBlock:=fun e=>h.ri.deep.out kk hx g (by rw [hsh]; exact e.symm) rfl
   have hkb:=q3.block g hgl hgne
   have hBl:=Nat.lt_of_lt_of_le h.lt h3.size
   have hBne:some B≠(Value.slice o1 m1 c1).ownBlock:=fun e=>h.ra kk hx (by rw [hsh]; exact e.symm)
   have hBg:B≠g:=fun e=>h.va (by rw [e]; rfl)
   have hBk:(w7.setCell ⟨g,kk * 2+1,none⟩ v7).heap[B]?=wr.heap[B]?:=by
    rw [heap_setCell_other w7 ⟨g,kk * 2+1,none⟩ B v7 hBg,q3.block B hBl hBne,h3.block B h.lt]
   refine ⟨v7,w7,q1,q2.shape3,?_,?_,addN L n,vs.set kk v7,h.ri.add hkk hx h3 (by rw [hsh]; exact q3) q2 (by rw [hsh]; exact q4),?_,hf,?_,?_,fun k hk=>?_,h.va,fun r hr=>?_,?_⟩
   · rw [World.cell?_of_block (w:=w2.alloc (.cells #[.int .i64 n] 3)) (a:=⟨g,kk * 2+1,none⟩) hkb,World.cell?_of_block (w:=w2) (a:=⟨g,kk * 2+1,none⟩) (Go.heap_alloc_old w2 _ (Nat.lt_of_lt_of_le hgw hb2.size)),hb2.cell (p:=⟨g,kk * 2+1,none⟩) hgw]; exact r1
   · rw [World.frozen?_of_block (w:=w2.alloc (.cells #[.int .i64 n] 3)) (a:=⟨g,kk * 2+1,none⟩) hkb,h3.frozen (p:=⟨g,kk * 2+1,none⟩) hgw]
     exact hrow.frozenAt _
   · rw [ea,List.length_set]; exact h.ne
   · have:=tot_set n L kk hxL
     rw [e0] at this
     rw [ea,this]
     omega
   · rw [ea,List.length_set]; exact h.len
   · rw [World.cell?_of_block (w:=wr) (a:=⟨B,k,none⟩) hBk]; exact h.cells k hk
   · have hr':r < vs.length:=by simpa using hr
     by_cases e:kk=r
     · subst e
       rw [List.getElem_set_self]
       rcases q4 with q | q
       · rw [q]; exact fun e=>hBne e.symm
       · rw [q]
         intro e
         have:=h3.size
         have e:(w2.alloc (.cells #[.int .i64 n] 3)).heap.size=B:=Option.some.inj e
         omega
     · rw [List.getElem_set_ne e]; exact h.ra r hr'
   · have e1:(w7.setCell ⟨g,kk * 2+1,none⟩ v7).heap.size=w7.heap.size:=by simp [World.setCell]
     rw [e1]
     exact Nat.lt_of_lt_of_le hBl q3.size
end Go.Proofs.YtajoneenakjifaaGreatDoor

/- Walked by hand: the document's Parse, whole. -/
namespace Go.Proofs.YtajoneenakjifaaGreatDoor
open Go.RowKit Go.Lib Go.VM Go.Txt
theorem cost_cons (w:List UInt8) (ws:List (List UInt8)):cost (w::ws)=w.length+1+cost ws:=by simp [cost]
theorem cost_parts (c:UInt8):∀ s:List UInt8,cost (parts c s)=s.length+1
 | []=>rfl
 | b::l=>by
  by_cases h:b=c
  · subst h
    have e:parts b (b::l)=[]::parts b l:=by rw [parts,if_pos rfl]
    rw [e,cost_cons,cost_parts b l]; simp; omega
  · obtain ⟨x,t,h1,h2⟩:=parts_hd c b l h
    have:=cost_parts c l
    rw [h1,cost_cons] at this
    rw [h2,cost_cons]
    simp; omega
theorem trimS_len (w cs:List UInt8):(Lib.trimS w cs).length≤w.length:=by
 unfold Lib.trimS Lib.trimLeftS Lib.trimRightS
 have h1:=(List.dropWhile_sublist (l:=(w.reverse.dropWhile (cs.contains ·)).reverse) (cs.contains ·)).length_le
 have h2:=(List.dropWhile_sublist (l:=w.reverse) (cs.contains ·)).length_le
 rw [List.length_reverse] at h1 h2
 omega
theorem begR_tot (L:List Seg) (w:List UInt8):tot (begR L w)=tot L∧0 < (begR L w).length∧(begR L w).length≤L.length+1:=by
 unfold begR
 split
 · exact ⟨by simp [tot],by simp,by simp⟩
 · rename_i h
   refine ⟨rfl,?_,by omega⟩
   cases L with
   | nil=>simp at h
   | cons=>simp
theorem RO.start {w1 wr w7 w8 w9 : World} {ws xs : List (List UInt8)} {v v7 : Value} {L : List Seg} {vs vs7 : List Value} {i B : Nat} (h : RO w1 ws wr v L vs i) (hi : i < ws.length) (hxs : xs = parts 44 (Lib.trimS ws[i] [123, 125])) (h7 : RI w1 w7 v7 (begR L ws[i]) vs7) (hb8 : Below w7.heap.size w7 w8)
  (ho:w9.ownsRow w8.heap.size 9 1 (.slice (some ⟨B,0,none⟩) xs.length xs.length) xs.length (xs.map fun x=>Value.string ⟨x.toArray⟩)) (hb9:Below w8.heap.size w8 w9) :
  RN w1 ws xs B i (wordR L ws[i]) w9 v7 (begR L ws[i]) vs7 0:=by
 obtain ⟨b1,b2,b3⟩:=begR_tot L ws[i]
 have hB:=World.ownsRow.lt ho B rfl
 have hb79:=hb8.trans (hb9.mono hb8.size)
 have hm:=h.meas
 rw [List.drop_eq_getElem_cons hi,cost_cons] at hm
 have hx:xs.length≤ws[i].length+1:=by
  have:=trimS_len ws[i] [123,125]
  have h2:=cost_parts 44 (Lib.trimS ws[i] [123,125])
  rw [← hxs] at h2
  have h3:xs.length≤cost xs:=by
   clear h2 hxs ho
   induction xs with
   | nil=>simp
   | cons x xs ih=>rw [cost_cons]; simp; omega
  omega
 have hl:=h.len
 refine ⟨⟨h7.deep.below hb79,h7.nil,h7.bel.trans (hb79.mono h7.bel.size)⟩,b2,by rw [List.drop_zero,hxs]; rfl,by rw [b1]; omega,by omega,fun k hk=>?_,fun e=>?_,fun r hr e=>?_,hB.2⟩
 · rw [ho.cellAt k (by omega),List.getElem?_map,List.getElem?_eq_getElem hk]; rfl
 · have:=(World.ownsRow.lt h7.deep.row B e).2
   have:=hb8.size
   omega
 · have:=((h7.deep.ins r (by rw [← h7.deep.len]; exact hr) hr).lt B e).2
   have:=hb8.size
   omega
theorem RN.fin {w1 wr0 wr:World} {ws xs:List (List UInt8)} {v0 v:Value} {L0 L:List Seg} {vs0 vs:List Value} {i B:Nat} (h0:RO w1 ws wr0 v0 L0 vs0 i) (hi:i < ws.length) (h:RN w1 ws xs B i (wordR L0 ws[i]) wr v L vs xs.length):RO w1 ws wr v L vs (i+1):=by
 have hf:=h.fold
 rw [List.drop_length] at hf
 have hw:wordR L0 ws[i]=some L:=hf.symm
 have h1:=h0.fold
 rw [List.drop_eq_getElem_cons hi] at h1
 simp only [foldR,hw] at h1
 exact ⟨h.ri,h1,by have:=h.meas; omega,h.len⟩
theorem RN.bad {w1 wr0 wr:World} {ws xs:List (List UInt8)} {v0 v:Value} {L0 L:List Seg} {vs0 vs:List Value} {i B j:Nat} (h0:RO w1 ws wr0 v0 L0 vs0 i) (hi:i < ws.length) (h:RN w1 ws xs B i (wordR L0 ws[i]) wr v L vs j) (hj:j < xs.length) (hd:(dec xs[j]).2=false):foldR ws []=none:=by
 have hf:=h.fold
 rw [List.drop_eq_getElem_cons hj,foldX,if_neg (by rw [hd]; simp)] at hf
 have h1:=h0.fold
 rw [List.drop_eq_getElem_cons hi] at h1
 simp only [foldR,← hf] at h1
 exact h1.symm
theorem beg_app {w1 wr : World} {v : Value} {L : List Seg} {vs : List Value} (h : RI w1 wr v L vs) (hl : L.length ≤ 100000) (b : Bool) (ty : TypeId) :
  ∃ v7 w7,(Builtin.append_ #[22,22] ty #[v,.slice (some ⟨wr.heap.size,0,none⟩) 1 1]).run Tryz.prog (wr.alloc (.cells #[.bool b,.slice none 0 0] 39))=.ok v7 w7∧RI w1 w7 v7 (L++[(b,[])]) (vs++[.slice none 0 0]):=by
 obtain ⟨i0,hi0,hz0,hzs,hzb⟩:=info_parts info_e
 have h3:Below wr.heap.size wr (wr.alloc (.cells #[.bool b,.slice none 0 0] 39)):=(Below.refl _ wr).alloc (Nat.le_refl _) _
 have hD:=h.deep.below h3
 obtain ⟨v7,w7,q1,q2,q3,_,q5⟩:=run_append_own_at (P:=Tryz.prog) (wr.alloc (.cells #[.bool b,.slice none 0 0] 39)) w1.heap.size 22 ty 39 i0 (.agg #[.bool false,.slice none 0 0]) 2 32 Tryz.underlying22 hi0 hz0 hzs hzb rfl (by decide) v L.length (segC L vs) hD.row ⟨wr.heap.size,0,none⟩ 1 1 [.bool b,.slice none 0 0] rfl
  (fun j x hj=>by
   rw [Addr.add_lit,Nat.zero_add]
   simp only [World.cell?]
   rw [heap_alloc_new wr (.cells #[.bool b,.slice none 0 0] 39)]
   simpa using hj)
  (fun x hx=>by simp at hx; rcases hx with rfl | rfl <;> rfl) (by unfold maxLen; omega) (by omega) (Nat.le_trans h.bel.size h3.size)
 exact ⟨v7,w7,q1,h.beg h3 q2 q3 q5⟩
end Go.Proofs.YtajoneenakjifaaGreatDoor

/- Walked by hand: the document's Parse: its loops. -/
namespace Go.Proofs.YtajoneenakjifaaGreatDoor
open Go.RowKit Go.Lib Go.VM Go.Txt
set_option maxHeartbeats 16000000 in
set_option maxRecDepth 100000 in
theorem ref_walk (s : ByteArray) (w : World) (hΩ : ∀ w' : World, (∀ b, b < w.heap.size → w'.heap[b]? = w.heap[b]?) → OmA w') (hs : s.data.toList.length ≤ 900) (hs0 : s.data.toList ≠ []) :
  Calls Tryz.prog 12 #[.string s] w (PaPost w (refD s.data.toList)):=by
 have e27:∀ args w,(callFunc 27 args).run Tryz.prog w=.ok (.enter 27 args) w:=fun args w=>by kernel_rfl
 have e28:∀ args w,(callFunc 28 args).run Tryz.prog w=.ok (.enter 28 args) w:=fun args w=>by kernel_rfl
 have e29:∀ args w,(callFunc 29 args).run Tryz.prog w=.ok (.enter 29 args) w:=fun args w=>by kernel_rfl
 have e30:∀ args w,(callFunc 30 args).run Tryz.prog w=.ok (.enter 30 args) w:=fun args w=>by kernel_rfl
 have e19:∀ args w,(callFunc 19 args).run Tryz.prog w=.ok (.enter 19 args) w:=fun args w=>by kernel_rfl
 have e8:∀ args w,(callFunc 8 args).run Tryz.prog w=.ok (.enter 8 args) w:=fun args w=>by kernel_rfl
 have hC:=callsOk w hΩ
 have hsz:s.size=s.data.toList.length:=bsz s
 have h27:=split_ok s 32 w (zOm hΩ (Below.refl _ w) w fun _ _=>rfl).1 (by omega)
 have hlt:¬ ((s.size:Nat):Int) > 65536:=by omega
 obtain ⟨ws,hws⟩:∃ ws,ws=parts 32 s.data.toList:=⟨_,rfl⟩
 rw [← hws] at h27
 have hcost:cost ws≤901:=by rw [hws,cost_parts]; omega
 have hwl:∀ (l:List (List UInt8)),l.length≤cost l∧∀ x∈l,x.length≤cost l:=fun l=>by
  induction l with
  | nil=>exact ⟨Nat.zero_le _,fun x hx=>by simp at hx⟩
  | cons a l ih =>
   rw [cost_cons]
   refine ⟨by have:=ih.1; simp; omega,fun x hx=>?_⟩
   rcases List.mem_cons.1 hx with rfl | hx
   · omega
   · have:=ih.2 x hx; omega
 have hR:refD s.data.toList=parseW (foldR ws []) s.data.toList:=by unfold refD; rw [if_neg (by simpa using hs0),hws]
 rw [hR]
 have HF:Aside (ws.length≤901∧∀ x∈ws,x.length≤901):=⟨by have:=(hwl ws).1; omega,fun x hx=>by have:=(hwl ws).2 x hx; omega⟩
 have hse:(s.toList==([]:List UInt8))=false:=by rw [ByteArray.toList_eq]; exact beq_eq_false_iff_ne.2 hs0
 have hse2:(s.toList==(ByteArray.mk #[]).toList)=false:=by rw [ByteArray.toList_eq,ByteArray.toList_eq]; exact beq_eq_false_iff_ne.2 hs0
 have hxs:∀ (w1 wr:World) A i,w1.ownsRow w.heap.size 9 1 (.slice (some ⟨A,0,none⟩) ws.length ws.length) ws.length (ws.map fun x=>Value.string ⟨x.toArray⟩)→Below w1.heap.size w1 wr→(hi:i < ws.length)→wr.cell? ⟨A,i,none⟩=some (.string ⟨(ws[i]).toArray⟩):=fun w1 wr A i ho hb hi=>by
  have hA:=(World.ownsRow.lt ho A rfl).2
  rw [hb.cell (p:=⟨A,i,none⟩) hA,ho.cellAt i (by omega),List.getElem?_map,List.getElem?_eq_getElem hi]
  rfl
 have HX:Aside _:=hxs
 have HSP:Aside (∀ (W:World) (x:List UInt8),Below w.heap.size w W→x.length≤901→_):=fun W x hb hx=>split_ok ⟨x.toArray⟩ 44 W (zOm hΩ hb W fun _ _=>rfl).1 (by show x.length≤_; omega)
 have HTR:Aside (∀ (W:World) (x:List UInt8),x.length≤901→_):=fun W x hx=>Tryz.strings_Trim_laid ⟨x.toArray⟩ ⟨#[123,125]⟩ W (by show x.length≤_; omega) (by decide) (fun j b hj=>by
  have hj:([123,125]:List UInt8)[j]?=some b:=hj
  have hm:=List.mem_of_getElem? hj
  simp at hm
  rcases hm with rfl | rfl <;> decide)
 have HDC:Aside _:=hC.dcm
 have H19:Aside _:=hC.rvalid
 have H8:Aside _:=hC.rprint
 have HP:Aside (∀ (W:World) (x:List UInt8),_):=fun W x=>Tryz.strings_HasPrefix ⟨x.toArray⟩ ⟨#[123]⟩ W
 have HCO:Aside (cost ws≤901):=hcost
 have HWL:Aside _:=hwl
 have HS0:Aside (s.data.toList≠[]):=hs0
 clear hC hsz hs hs0 hΩ hxs hws hcost hwl hR
 go_enter Tryz.func12,Tryz.ntmps12
 go_wp2_with (go_at_fn 27; refine h27.mono ?_; rintro r w1 ⟨A,rfl,ho,hb⟩; have H1:=Lib.hid (And.intro ho hb); clear ho hb)
 go_loopg [4,18] ws.length (fun gg s4 s18 wr=>∃ (v:Value) (i:Nat) (L:List Seg) (vs:List Value),v=s4∧s18=.int .i64 i∧i≤ws.length∧ws.length - i≤gg∧Aside (RO w1 ws wr s4 L vs i))
 case atStart=>exact ⟨_,0,[],[],rfl,rfl,Nat.zero_le _,by omega,⟨⟨Deep.nil _ _,fun _=>rfl,Below.refl _ _⟩,rfl,(by show 0+cost ws≤901; have:=HCO.out; omega),Nat.le_refl _⟩⟩
 case round =>
  obtain ⟨v,i,L,vs,rfl,rfl,hin,hgg,I⟩:=hrel
  have hbw:Below w.heap.size w wr:=H1.out.2.trans (I.out.ri.bel.mono H1.out.2.size)
  by_cases hlt:i < ws.length
  · have hltz:(i:Int) < (ws.length:Int):=by omega
    have hw901:ws.length≤901:=HF.out.1
    have l0:=HX.out w1 wr A i H1.out.1 I.out.ri.bel hlt
    obtain ⟨T,eT⟩:∃ T,Lib.trimS ws[i] [123,125]=T:=⟨_,rfl⟩
    obtain ⟨xs,exs⟩:∃ xs,xs=parts 44 T:=⟨_,rfl⟩
    obtain ⟨b,eb⟩:∃ b,setR ws[i]=b:=⟨_,rfl⟩
    have hwi:(ws[i]).length≤901:=HF.out.2 _ (List.getElem_mem hlt)
    have hTl:T.length≤901:=by rw [← eT]; have:=trimS_len ws[i] [123,125]; omega
    have h28:Calls Tryz.prog 28 #[.string ⟨(ws[i]).toArray⟩,.string ⟨#[123]⟩] wr fun e w'=>e=.returned (.bool b)∧w'=wr:=by
     have:=HP.out wr ws[i]
     rw [← eb]; exact this
    have h29:∀ W,Calls Tryz.prog 29 #[.string ⟨(ws[i]).toArray⟩,.string ⟨#[123,125]⟩] W fun e w'=>e=.returned (.string ⟨T.toArray⟩)∧Below W.heap.size W w':=fun W=>by
     have:=HTR.out W ws[i] hwi
     rw [← eT]; exact this
    have h27b:∀ W,Below w.heap.size w W→Calls Tryz.prog 27 #[.string ⟨T.toArray⟩,.string ⟨#[44]⟩] W fun e w'=>∃ A,e=.returned (.slice (some ⟨A,0,none⟩) xs.length xs.length)∧w'.ownsRow W.heap.size 9 1 (.slice (some ⟨A,0,none⟩) xs.length xs.length) xs.length (xs.map fun x=>Value.string ⟨x.toArray⟩)∧Below W.heap.size W w':=fun W hb=>by
     rw [exs]; exact HSP.out W T hb hTl
    have hst:∀ w7 v7 vs7 w8 w9 B,RI w1 w7 v7 (begR L ws[i]) vs7→Below w7.heap.size w7 w8→w9.ownsRow w8.heap.size 9 1 (.slice (some ⟨B,0,none⟩) xs.length xs.length) xs.length (xs.map fun x=>Value.string ⟨x.toArray⟩)→Below w8.heap.size w8 w9→RN w1 ws xs B i (wordR L ws[i]) w9 v7 (begR L ws[i]) vs7 0:=fun w7 v7 vs7 w8 w9 B h7 h8 ho h9=>I.out.start hlt (by rw [exs,eT]) h7 h8 ho h9
    have hbg:∀ ty,∃ v7 w7,(Builtin.append_ #[22,22] ty #[v,.slice (some ⟨wr.heap.size,0,none⟩) 1 1]).run Tryz.prog (wr.alloc (.cells #[.bool b,.slice none 0 0] 39))=.ok v7 w7∧RI w1 w7 v7 (L++[(b,[])]) (vs++[.slice none 0 0]):=fun ty=>beg_app I.out.ri (by have:=I.out.len; omega) b ty
    have HXL:Aside (xs.length≤902∧∀ x∈xs,x.length≤902):=by
     have h1:=HWL.out xs
     have h2:cost xs≤902:=by rw [exs,cost_parts]; omega
     exact ⟨by omega,fun x hx=>by have:=h1.2 x hx; omega⟩
    have HA:Aside _:=hbg
    have H27:Aside _:=h27b
    have H29:Aside _:=h29
    have HST:Aside _:=hst
    have HB1:Aside (∀ W,Below w1.heap.size w1 W→Below w.heap.size w W):=fun W hb=>H1.out.2.trans (hb.mono H1.out.2.size)
    clear hbg h27b h29 hst exs eT hwi hTl
    have hcond:(b=true)∨(b=false∧L=[])∨(b=false∧L≠[]∧(lastS L).1=true)∨(b=false∧L≠[]∧(lastS L).1=false):=by
     cases b
     · by_cases h:L=[]
       · exact .inr (.inl ⟨rfl,h⟩)
       · cases h2:(lastS L).1
         · exact .inr (.inr (.inr ⟨rfl,h,rfl⟩))
         · exact .inr (.inr (.inl ⟨rfl,h,rfl⟩))
     · exact .inl rfl
    have hshp:L≠[]→∃ g kk c,v=.slice (some ⟨g,0,none⟩) (kk+1) c∧kk≤901∧wr.cell? ⟨g,kk * 2,none⟩=some (.bool (lastS L).1):=fun hL=>by
     have hpos:=List.length_pos_iff.2 hL
     obtain ⟨kk,hkk⟩:∃ kk,L.length=kk+1:=⟨L.length - 1,by omega⟩
     obtain ⟨g,c,hv⟩:∃ g c,v=.slice (some ⟨g,0,none⟩) (kk+1) c:=by
      rcases I.out.ri.deep.row.2 with ⟨_,q⟩ | ⟨g,c,_,q,_⟩
      · omega
      · exact ⟨g,c,by rw [q,hkk]⟩
     have hrow:=I.out.ri.deep.row
     rw [hv,hkk] at hrow
     refine ⟨g,kk,c,hv,by have:=I.out.len; omega,?_⟩
     rw [hrow.cellAt (kk * 2) (by omega),segC_get0 I.out.ri.deep.len (by omega),(addN_eq hkk 0).2]
    have hbeg:(b=true∨L=[]∨(lastS L).1=true)→begR L ws[i]=L++[(b,[])]:=fun h=>by
     unfold begR
     rw [eb]
     refine if_pos ?_
     rcases h with h | h | h
     · rw [h]; simp
     · rw [h]; simp
     · rw [h]; simp
    have hnbeg:b=false→L≠[]→(lastS L).1=false→begR L ws[i]=L:=fun h1 h2 h3=>by
     unfold begR
     rw [eb]
     refine if_neg ?_
     rw [h1,h3]
     simpa using h2
    clear eb
    have HBGB:Aside _:=hbeg
    have HNB:Aside _:=hnbeg
    have HSH:Aside _:=hshp
    clear hbeg hnbeg hshp
    rcases hcond with rfl | ⟨rfl,hL⟩ | ⟨rfl,hL,hl⟩ | ⟨rfl,hL,hl⟩
    · have HBG:Aside (begR L ws[i]=L++[(true,[])]):=HBGB.out (.inl rfl)
      go_wp2_with (first
       | (go_at_fn 28; refine h28.mono ?_; rintro r w2 ⟨rfl,rfl⟩)
       | (at_builtin; refine wpList_append_ex (by rfl) _ _ 22 22 (by rfl) _ _ (by rfl) (by rfl) (HA.out _) ?_; rintro v7 w7 hp7; rw [← HBG.out] at hp7; have K7:=Lib.hid hp7; clear hp7)
       | (go_at_fn 29; refine (H29.out _).mono ?_; rintro r w8 ⟨rfl,hb8⟩; have K8:=Lib.hid hb8; clear hb8)
       | (go_at_fn 27; refine (H27.out _ (HB1.out _ (K7.out.bel.trans (K8.out.mono K7.out.bel.size)))).mono ?_; rintro r w9 ⟨B,rfl,ho9,hb9⟩; have K9:=Lib.hid (HST.out _ _ _ _ _ _ K7.out K8.out ho9 hb9); clear ho9 hb9))
      go_loopg [50] xs.length (fun gg s50 wr2=>∃ (j:Nat) (M:List Seg) (us:List Value),s50=.int .i64 j∧j≤xs.length∧xs.length - j≤gg∧Aside (RN w1 ws xs B i (wordR L ws[i]) wr2 v7 M us j))
      case atStart=>exact ⟨0,_,_,rfl,Nat.zero_le _,by omega,(show Aside _ from K9.out)⟩
      case round =>
       obtain ⟨j,M,us,rfl,hjn,hgj,N⟩:=hrel
       by_cases hjt:j < xs.length
       · have hjz:(j:Int) < (xs.length:Int):=by omega
         have m0:=N.out.cells j hjt
         have hbj:Below w.heap.size w wr:=HB1.out _ N.out.ri.bel
         have hx902:xs.length≤902:=HXL.out.1
         have h30:=HDC.out ⟨(xs[j]).toArray⟩ wr hbj (by show (xs[j]).length≤_; have:=HXL.out.2 _ (List.getElem_mem hjt); omega)
         obtain ⟨n,en⟩:∃ n,(dec xs[j]).1=n:=⟨_,rfl⟩
         cases eo:(dec xs[j]).2 with
         | false =>
          have HBD:Aside (parseW (foldR ws []) s.data.toList=([],2)):=by rw [N.out.bad I.out hlt hjt eo]; rfl
          have h30:Calls Tryz.prog 30 #[.string ⟨(xs[j]).toArray⟩] wr fun e W'=>e=.returned (.tuple #[.int .i64 n,.bool false])∧Below wr.heap.size wr W':=by rw [← en,← eo]; exact h30
          clear eo en
          go_wp2_with (go_at_fn 30; refine h30.mono ?_; rintro r w10 ⟨rfl,hb10⟩; have K10:=Lib.hid hb10; clear hb10)
          go_ret2
          unfold PaPost
          rw [HBD.out]
          exact ⟨_,[],rfl,Deep.nil _ _,fun _=>rfl,hbj.trans (K10.out.mono hbj.size)⟩
         | true =>
          obtain ⟨g,kk,c,o1,m1,c1,hv,hkk,hcut⟩:=N.out.cut hjt eo
          have h30:Calls Tryz.prog 30 #[.string ⟨(xs[j]).toArray⟩] wr fun e W'=>e=.returned (.tuple #[.int .i64 n,.bool true])∧Below wr.heap.size wr W':=by rw [← en,← eo]; exact h30
          rw [en] at hcut
          have HC:Aside _:=hcut
          have hkw1:IntKind.i64.wrap ((kk:Int)+1 - 1)=kk:=by rw [IntKind.wrap_i64]; omega
          have hkw2:IntKind.i64.wrap (kk:Int)=kk:=by rw [IntKind.wrap_i64]; omega
          have hk0:(0:Int)≤(kk:Int):=by omega
          have hk1:(kk:Int) < (kk:Int)+1:=by omega
          have mixed:Tryz.prog.follows Departure.mixedOrders=true:=by kernel_rfl
          clear eo en hcut
          cases hv
          go_wp2_with (first
           | (go_at_fn 30; refine h30.mono ?_; rintro r w10 ⟨rfl,hb10⟩; obtain ⟨y0,y1,hA⟩:=HC.out w10 hb10; have HA2:Aside _:=hA; clear hA hb10)
           | (at_builtin; refine wpList_append_ex (by rfl) _ _ 23 23 (by rfl) _ _ (by rfl) (by rfl) (HA2.out _) ?_; rintro v11 w11 ⟨⟨o7,m7,c7,rfl⟩,z0,z1,M',us',hp⟩; have K11:=Lib.hid hp; clear hp))
          all_goals
           go_roundg (xs.length - (j+1))
           case measure=>omega
           case rel=>exact ⟨j+1,_,_,by go_num,by omega,Nat.le_refl _,(show Aside _ from K11.out)⟩
       · obtain rfl:j=xs.length:=by omega
         have hjz:¬ ((xs.length:Int) < (xs.length:Int)):=by omega
         have HR:Aside (RO w1 ws wr v7 M us (i+1)):=RN.fin I.out hlt N.out
         go_wp2
         go_roundg (ws.length - (i+1))
         case measure=>omega
         case rel=>exact ⟨_,i+1,_,_,rfl,by go_num,by omega,Nat.le_refl _,HR⟩
    · have HBG:Aside (begR L ws[i]=L++[(false,[])]):=HBGB.out (.inr (.inl hL))
      have hv:v=.slice none 0 0:=I.out.ri.nil hL
      clear hL
      subst hv
      go_wp2_with (first
       | (go_at_fn 28; refine h28.mono ?_; rintro r w2 ⟨rfl,rfl⟩)
       | (at_builtin; refine wpList_append_ex (by rfl) _ _ 22 22 (by rfl) _ _ (by rfl) (by rfl) (HA.out _) ?_; rintro v7 w7 hp7; rw [← HBG.out] at hp7; have K7:=Lib.hid hp7; clear hp7)
       | (go_at_fn 29; refine (H29.out _).mono ?_; rintro r w8 ⟨rfl,hb8⟩; have K8:=Lib.hid hb8; clear hb8)
       | (go_at_fn 27; refine (H27.out _ (HB1.out _ (K7.out.bel.trans (K8.out.mono K7.out.bel.size)))).mono ?_; rintro r w9 ⟨B,rfl,ho9,hb9⟩; have K9:=Lib.hid (HST.out _ _ _ _ _ _ K7.out K8.out ho9 hb9); clear ho9 hb9))
      go_loopg [50] xs.length (fun gg s50 wr2=>∃ (j:Nat) (M:List Seg) (us:List Value),s50=.int .i64 j∧j≤xs.length∧xs.length - j≤gg∧Aside (RN w1 ws xs B i (wordR L ws[i]) wr2 v7 M us j))
      case atStart=>exact ⟨0,_,_,rfl,Nat.zero_le _,by omega,(show Aside _ from K9.out)⟩
      case round =>
       obtain ⟨j,M,us,rfl,hjn,hgj,N⟩:=hrel
       by_cases hjt:j < xs.length
       · have hjz:(j:Int) < (xs.length:Int):=by omega
         have m0:=N.out.cells j hjt
         have hbj:Below w.heap.size w wr:=HB1.out _ N.out.ri.bel
         have hx902:xs.length≤902:=HXL.out.1
         have h30:=HDC.out ⟨(xs[j]).toArray⟩ wr hbj (by show (xs[j]).length≤_; have:=HXL.out.2 _ (List.getElem_mem hjt); omega)
         obtain ⟨n,en⟩:∃ n,(dec xs[j]).1=n:=⟨_,rfl⟩
         cases eo:(dec xs[j]).2 with
         | false =>
          have HBD:Aside (parseW (foldR ws []) s.data.toList=([],2)):=by rw [N.out.bad I.out hlt hjt eo]; rfl
          have h30:Calls Tryz.prog 30 #[.string ⟨(xs[j]).toArray⟩] wr fun e W'=>e=.returned (.tuple #[.int .i64 n,.bool false])∧Below wr.heap.size wr W':=by rw [← en,← eo]; exact h30
          clear eo en
          go_wp2_with (go_at_fn 30; refine h30.mono ?_; rintro r w10 ⟨rfl,hb10⟩; have K10:=Lib.hid hb10; clear hb10)
          go_ret2
          unfold PaPost
          rw [HBD.out]
          exact ⟨_,[],rfl,Deep.nil _ _,fun _=>rfl,hbj.trans (K10.out.mono hbj.size)⟩
         | true =>
          obtain ⟨g,kk,c,o1,m1,c1,hv,hkk,hcut⟩:=N.out.cut hjt eo
          have h30:Calls Tryz.prog 30 #[.string ⟨(xs[j]).toArray⟩] wr fun e W'=>e=.returned (.tuple #[.int .i64 n,.bool true])∧Below wr.heap.size wr W':=by rw [← en,← eo]; exact h30
          rw [en] at hcut
          have HC:Aside _:=hcut
          have hkw1:IntKind.i64.wrap ((kk:Int)+1 - 1)=kk:=by rw [IntKind.wrap_i64]; omega
          have hkw2:IntKind.i64.wrap (kk:Int)=kk:=by rw [IntKind.wrap_i64]; omega
          have hk0:(0:Int)≤(kk:Int):=by omega
          have hk1:(kk:Int) < (kk:Int)+1:=by omega
          have mixed:Tryz.prog.follows Departure.mixedOrders=true:=by kernel_rfl
          clear eo en hcut
          cases hv
          go_wp2_with (first
           | (go_at_fn 30; refine h30.mono ?_; rintro r w10 ⟨rfl,hb10⟩; obtain ⟨y0,y1,hA⟩:=HC.out w10 hb10; have HA2:Aside _:=hA; clear hA hb10)
           | (at_builtin; refine wpList_append_ex (by rfl) _ _ 23 23 (by rfl) _ _ (by rfl) (by rfl) (HA2.out _) ?_; rintro v11 w11 ⟨⟨o7,m7,c7,rfl⟩,z0,z1,M',us',hp⟩; have K11:=Lib.hid hp; clear hp))
          all_goals
           go_roundg (xs.length - (j+1))
           case measure=>omega
           case rel=>exact ⟨j+1,_,_,by go_num,by omega,Nat.le_refl _,(show Aside _ from K11.out)⟩
       · obtain rfl:j=xs.length:=by omega
         have hjz:¬ ((xs.length:Int) < (xs.length:Int)):=by omega
         have HR:Aside (RO w1 ws wr v7 M us (i+1)):=RN.fin I.out hlt N.out
         go_wp2
         go_roundg (ws.length - (i+1))
         case measure=>omega
         case rel=>exact ⟨_,i+1,_,_,rfl,by go_num,by omega,Nat.le_refl _,HR⟩
    · have HBG:Aside (begR L ws[i]=L++[(false,[])]):=HBGB.out (.inr (.inr hl))
      obtain ⟨g,kk,c,hv,hkk,r0⟩:=HSH.out hL
      rw [hl] at r0
      have hkw1:IntKind.i64.wrap ((kk:Int)+1 - 1)=kk:=by rw [IntKind.wrap_i64]; omega
      have hkw2:IntKind.i64.wrap (kk:Int)=kk:=by rw [IntKind.wrap_i64]; omega
      have hk0:(0:Int)≤(kk:Int):=by omega
      have hk1:(kk:Int) < (kk:Int)+1:=by omega
      have hkz:((kk:Int)+1==0)=false:=beq_eq_false_iff_ne.2 (by omega)
      clear hL hl
      subst hv
      go_wp2_with (first
       | (go_at_fn 28; refine h28.mono ?_; rintro r w2 ⟨rfl,rfl⟩)
       | (at_builtin; refine wpList_append_ex (by rfl) _ _ 22 22 (by rfl) _ _ (by rfl) (by rfl) (HA.out _) ?_; rintro v7 w7 hp7; rw [← HBG.out] at hp7; have K7:=Lib.hid hp7; clear hp7)
       | (go_at_fn 29; refine (H29.out _).mono ?_; rintro r w8 ⟨rfl,hb8⟩; have K8:=Lib.hid hb8; clear hb8)
       | (go_at_fn 27; refine (H27.out _ (HB1.out _ (K7.out.bel.trans (K8.out.mono K7.out.bel.size)))).mono ?_; rintro r w9 ⟨B,rfl,ho9,hb9⟩; have K9:=Lib.hid (HST.out _ _ _ _ _ _ K7.out K8.out ho9 hb9); clear ho9 hb9))
      go_loopg [50] xs.length (fun gg s50 wr2=>∃ (j:Nat) (M:List Seg) (us:List Value),s50=.int .i64 j∧j≤xs.length∧xs.length - j≤gg∧Aside (RN w1 ws xs B i (wordR L ws[i]) wr2 v7 M us j))
      case atStart=>exact ⟨0,_,_,rfl,Nat.zero_le _,by omega,(show Aside _ from K9.out)⟩
      case round =>
       obtain ⟨j,M,us,rfl,hjn,hgj,N⟩:=hrel
       by_cases hjt:j < xs.length
       · have hjz:(j:Int) < (xs.length:Int):=by omega
         have m0:=N.out.cells j hjt
         have hbj:Below w.heap.size w wr:=HB1.out _ N.out.ri.bel
         have hx902:xs.length≤902:=HXL.out.1
         have h30:=HDC.out ⟨(xs[j]).toArray⟩ wr hbj (by show (xs[j]).length≤_; have:=HXL.out.2 _ (List.getElem_mem hjt); omega)
         obtain ⟨n,en⟩:∃ n,(dec xs[j]).1=n:=⟨_,rfl⟩
         cases eo:(dec xs[j]).2 with
         | false =>
          have HBD:Aside (parseW (foldR ws []) s.data.toList=([],2)):=by rw [N.out.bad I.out hlt hjt eo]; rfl
          have h30:Calls Tryz.prog 30 #[.string ⟨(xs[j]).toArray⟩] wr fun e W'=>e=.returned (.tuple #[.int .i64 n,.bool false])∧Below wr.heap.size wr W':=by rw [← en,← eo]; exact h30
          clear eo en
          go_wp2_with (go_at_fn 30; refine h30.mono ?_; rintro r w10 ⟨rfl,hb10⟩; have K10:=Lib.hid hb10; clear hb10)
          go_ret2
          unfold PaPost
          rw [HBD.out]
          exact ⟨_,[],rfl,Deep.nil _ _,fun _=>rfl,hbj.trans (K10.out.mono hbj.size)⟩
         | true =>
          obtain ⟨g,kk,c,o1,m1,c1,hv,hkk,hcut⟩:=N.out.cut hjt eo
          have h30:Calls Tryz.prog 30 #[.string ⟨(xs[j]).toArray⟩] wr fun e W'=>e=.returned (.tuple #[.int .i64 n,.bool true])∧Below wr.heap.size wr W':=by rw [← en,← eo]; exact h30
          rw [en] at hcut
          have HC:Aside _:=hcut
          have hkw1:IntKind.i64.wrap ((kk:Int)+1 - 1)=kk:=by rw [IntKind.wrap_i64]; omega
          have hkw2:IntKind.i64.wrap (kk:Int)=kk:=by rw [IntKind.wrap_i64]; omega
          have hk0:(0:Int)≤(kk:Int):=by omega
          have hk1:(kk:Int) < (kk:Int)+1:=by omega
          have mixed:Tryz.prog.follows Departure.mixedOrders=true:=by kernel_rfl
          clear eo en hcut
          cases hv
          go_wp2_with (first
           | (go_at_fn 30; refine h30.mono ?_; rintro r w10 ⟨rfl,hb10⟩; obtain ⟨y0,y1,hA⟩:=HC.out w10 hb10; have HA2:Aside _:=hA; clear hA hb10)
           | (at_builtin; refine wpList_append_ex (by rfl) _ _ 23 23 (by rfl) _ _ (by rfl) (by rfl) (HA2.out _) ?_; rintro v11 w11 ⟨⟨o7,m7,c7,rfl⟩,z0,z1,M',us',hp⟩; have K11:=Lib.hid hp; clear hp))
          all_goals
           go_roundg (xs.length - (j+1))
           case measure=>omega
           case rel=>exact ⟨j+1,_,_,by go_num,by omega,Nat.le_refl _,(show Aside _ from K11.out)⟩
       · obtain rfl:j=xs.length:=by omega
         have hjz:¬ ((xs.length:Int) < (xs.length:Int)):=by omega
         have HR:Aside (RO w1 ws wr v7 M us (i+1)):=RN.fin I.out hlt N.out
         go_wp2
         go_roundg (ws.length - (i+1))
         case measure=>omega
         case rel=>exact ⟨_,i+1,_,_,rfl,by go_num,by omega,Nat.le_refl _,HR⟩
    · have K7:Hid (RI w1 wr v (begR L ws[i]) vs):=Lib.hid (by rw [HNB.out rfl hL hl]; exact I.out.ri)
      obtain ⟨g,kk,c,hv,hkk,r0⟩:=HSH.out hL
      rw [hl] at r0
      have hkw1:IntKind.i64.wrap ((kk:Int)+1 - 1)=kk:=by rw [IntKind.wrap_i64]; omega
      have hkw2:IntKind.i64.wrap (kk:Int)=kk:=by rw [IntKind.wrap_i64]; omega
      have hk0:(0:Int)≤(kk:Int):=by omega
      have hk1:(kk:Int) < (kk:Int)+1:=by omega
      have hkz:((kk:Int)+1==0)=false:=beq_eq_false_iff_ne.2 (by omega)
      clear hL hl
      subst hv
      go_wp2_with (first
       | (go_at_fn 28; refine h28.mono ?_; rintro r w2 ⟨rfl,rfl⟩)
       | (go_at_fn 29; refine (H29.out _).mono ?_; rintro r w8 ⟨rfl,hb8⟩; have K8:=Lib.hid hb8; clear hb8)
       | (go_at_fn 27; refine (H27.out _ (HB1.out _ (K7.out.bel.trans (K8.out.mono K7.out.bel.size)))).mono ?_; rintro r w9 ⟨B,rfl,ho9,hb9⟩; have K9:=Lib.hid (HST.out _ _ _ _ _ _ K7.out K8.out ho9 hb9); clear ho9 hb9))
      go_loopg [50] xs.length (fun gg s50 wr2=>∃ (j:Nat) (M:List Seg) (us:List Value),s50=.int .i64 j∧j≤xs.length∧xs.length - j≤gg∧Aside (RN w1 ws xs B i (wordR L ws[i]) wr2 (.slice (some ⟨g,0,none⟩) (kk+1) c) M us j))
      case atStart=>exact ⟨0,_,_,rfl,Nat.zero_le _,by omega,(show Aside _ from K9.out)⟩
      case round =>
       obtain ⟨j,M,us,rfl,hjn,hgj,N⟩:=hrel
       by_cases hjt:j < xs.length
       · have hjz:(j:Int) < (xs.length:Int):=by omega
         have m0:=N.out.cells j hjt
         have hbj:Below w.heap.size w wr:=HB1.out _ N.out.ri.bel
         have hx902:xs.length≤902:=HXL.out.1
         have h30:=HDC.out ⟨(xs[j]).toArray⟩ wr hbj (by show (xs[j]).length≤_; have:=HXL.out.2 _ (List.getElem_mem hjt); omega)
         obtain ⟨n,en⟩:∃ n,(dec xs[j]).1=n:=⟨_,rfl⟩
         cases eo:(dec xs[j]).2 with
         | false =>
          have HBD:Aside (parseW (foldR ws []) s.data.toList=([],2)):=by rw [N.out.bad I.out hlt hjt eo]; rfl
          have h30:Calls Tryz.prog 30 #[.string ⟨(xs[j]).toArray⟩] wr fun e W'=>e=.returned (.tuple #[.int .i64 n,.bool false])∧Below wr.heap.size wr W':=by rw [← en,← eo]; exact h30
          clear eo en
          go_wp2_with (go_at_fn 30; refine h30.mono ?_; rintro r w10 ⟨rfl,hb10⟩; have K10:=Lib.hid hb10; clear hb10)
          go_ret2
          unfold PaPost
          rw [HBD.out]
          exact ⟨_,[],rfl,Deep.nil _ _,fun _=>rfl,hbj.trans (K10.out.mono hbj.size)⟩
         | true =>
          obtain ⟨g,kk,c,o1,m1,c1,hv,hkk,hcut⟩:=N.out.cut hjt eo
          have h30:Calls Tryz.prog 30 #[.string ⟨(xs[j]).toArray⟩] wr fun e W'=>e=.returned (.tuple #[.int .i64 n,.bool true])∧Below wr.heap.size wr W':=by rw [← en,← eo]; exact h30
          rw [en] at hcut
          have HC:Aside _:=hcut
          have hkw1:IntKind.i64.wrap ((kk:Int)+1 - 1)=kk:=by rw [IntKind.wrap_i64]; omega
          have hkw2:IntKind.i64.wrap (kk:Int)=kk:=by rw [IntKind.wrap_i64]; omega
          have hk0:(0:Int)≤(kk:Int):=by omega
          have hk1:(kk:Int) < (kk:Int)+1:=by omega
          have mixed:Tryz.prog.follows Departure.mixedOrders=true:=by kernel_rfl
          clear eo en hcut
          cases hv
          go_wp2_with (first
           | (go_at_fn 30; refine h30.mono ?_; rintro r w10 ⟨rfl,hb10⟩; obtain ⟨y0,y1,hA⟩:=HC.out w10 hb10; have HA2:Aside _:=hA; clear hA hb10)
           | (at_builtin; refine wpList_append_ex (by rfl) _ _ 23 23 (by rfl) _ _ (by rfl) (by rfl) (HA2.out _) ?_; rintro v11 w11 ⟨⟨o7,m7,c7,rfl⟩,z0,z1,M',us',hp⟩; have K11:=Lib.hid hp; clear hp))
          all_goals
           go_roundg (xs.length - (j+1))
           case measure=>omega
           case rel=>exact ⟨j+1,_,_,by go_num,by omega,Nat.le_refl _,(show Aside _ from K11.out)⟩
       · obtain rfl:j=xs.length:=by omega
         have hjz:¬ ((xs.length:Int) < (xs.length:Int)):=by omega
         have HR:Aside (RO w1 ws wr (.slice (some ⟨g,0,none⟩) (kk+1) c) M us (i+1)):=RN.fin I.out hlt N.out
         go_wp2
         go_roundg (ws.length - (i+1))
         case measure=>omega
         case rel=>exact ⟨_,i+1,_,_,rfl,by go_num,by omega,Nat.le_refl _,HR⟩
  · obtain rfl:i=ws.length:=by omega
    have hltz:¬ (ws.length:Int) < (ws.length:Int):=by omega
    have hfold:foldR ws []=some L:=by have:=I.out.fold; rw [List.drop_length] at this; exact this.symm
    have hm:Mid L:=⟨by have:=I.out.len; have:=HF.out.1; omega,fun p hp=>by have:=I.out.meas; have:=tot_mem hp; omega⟩
    have hv:=I.out.ri.deep.hv
    have h8:=H8.out L v wr hbw hm hv
    have h19:=fun (W:World) (hb:Below wr.heap.size wr W)=>H19.out L v W (hbw.trans (hb.mono hbw.size)) hm (hv_next hv hb)
    have HD:Aside (∀ W,Below wr.heap.size wr W→Deep W w.heap.size v L vs∧Below w.heap.size w W):=fun W hb=>⟨(I.out.ri.deep.below hb).mono H1.out.2.size,hbw.trans (hb.mono hbw.size)⟩
    have HE:Aside (∀ W,Below wr.heap.size wr W→Below w.heap.size w W):=fun W hb=>hbw.trans (hb.mono hbw.size)
    have HNl:Aside (L=[]→v=.slice none 0 0):=I.out.ri.nil
    clear hm hv
    cases hp:pvd L with
    | false =>
     have HP:Aside (parseW (foldR ws []) s.data.toList=([],2)):=(by rw [hfold]; unfold parseW; simp [hp]:parseW (foldR ws []) s.data.toList=([],2))
     rw [hp] at h8
     clear h19 hp hfold
     go_wp2_with (go_at_fn 8; refine h8.mono ?_; rintro r w3 ⟨⟨t,rfl,ht⟩,hb⟩; have hne:(t.toList==s.toList)=false:=(by rw [ByteArray.toList_eq,ByteArray.toList_eq,ht]; exact beq_eq_false_iff_ne.2 (fun q=>HS0.out q.symm)); have K:=Lib.hid hb; clear hb ht)
     go_ret2
     unfold PaPost
     rw [HP.out]
     exact ⟨_,[],rfl,Deep.nil _ _,fun _=>rfl,HE.out _ K.out⟩
    | true =>
     rw [hp] at h8 h19
     have H19b:Aside _:=h19
     clear h19
     by_cases he:prt L=s.data.toList
     · have HP:Aside (parseW (foldR ws []) s.data.toList=(L,0)∧prt L=s.data.toList):=⟨by rw [hfold]; unfold parseW; simp [hp,he],he⟩
       clear hp he hfold
       go_wp2_with (first
        | (go_at_fn 8; refine h8.mono ?_; rintro r w3 ⟨⟨t,rfl,ht⟩,hb⟩; obtain ⟨rfl⟩:t=s:=(by have:=ht.trans HP.out.2; cases t with | mk d=>cases s with | mk e=>congr 1; exact Array.ext' this); have K:=Lib.hid hb; clear hb ht)
        | (go_at_fn 19; refine (H19b.out _ K.out).mono ?_; rintro r w2 ⟨rfl,hb⟩; have K3:=Lib.hid (K.out.trans (hb.mono K.out.size)); clear hb))
       go_ret2
       unfold PaPost
       rw [HP.out.1]
       exact ⟨_,vs,rfl,(HD.out _ K3.out).1,HNl.out,HE.out _ K3.out⟩
     · have HP:Aside (parseW (foldR ws []) s.data.toList=([],2)∧prt L≠s.data.toList):=⟨by rw [hfold]; unfold parseW; simp [hp,he],he⟩
       clear hp he hfold
       go_wp2_with (go_at_fn 8; refine h8.mono ?_; rintro r w3 ⟨⟨t,rfl,ht⟩,hb⟩; have hne:(t.toList==s.toList)=false:=(by rw [ByteArray.toList_eq,ByteArray.toList_eq,ht]; exact beq_eq_false_iff_ne.2 HP.out.2); have K:=Lib.hid hb; clear hb ht)
       go_ret2
       unfold PaPost
       rw [HP.out.1]
       exact ⟨_,[],rfl,Deep.nil _ _,fun _=>rfl,HE.out _ K.out⟩
end Go.Proofs.YtajoneenakjifaaGreatDoor

/- The document's Parse, as an entry of the table. -/
namespace Go.Proofs.YtajoneenakjifaaGreatDoor
open Go.RowKit Go.Lib Go.VM Go.Txt
set_option maxHeartbeats 800000 in
set_option maxRecDepth 100000 in
theorem ref_walk0 (w : World) (hΩ : ∀ w' : World, (∀ b, b < w.heap.size → w'.heap[b]? = w.heap[b]?) → OmA w') :
  Calls Tryz.prog 12 #[.string ⟨#[]⟩] w (PaPost w ([],0)):=by
 have e27:∀ args w,(callFunc 27 args).run Tryz.prog w=.ok (.enter 27 args) w:=fun args w=>by kernel_rfl
 have e19:∀ args w,(callFunc 19 args).run Tryz.prog w=.ok (.enter 19 args) w:=fun args w=>by kernel_rfl
 have e8:∀ args w,(callFunc 8 args).run Tryz.prog w=.ok (.enter 8 args) w:=fun args w=>by kernel_rfl
 have hC:=callsOk w hΩ
 have h27:Calls Tryz.prog 27 #[.string ⟨#[]⟩,.string ⟨#[32]⟩] w fun e w'=>∃ A,e=.returned (.slice (some ⟨A,0,none⟩) 1 1)∧w'.cell? ⟨A,0,none⟩=some (.string ⟨#[]⟩)∧Below w.heap.size w w' :=
  (split_ok ⟨#[]⟩ 32 w (zOm hΩ (Below.refl _ w) w fun _ _=>rfl).1 (by decide)).mono fun e w' ⟨A,h1,h2,h3⟩=>⟨A,h1,(by
   have h2:w'.ownsRow w.heap.size 9 1 (.slice (some ⟨A,0,none⟩) 1 1) 1 [Value.string ⟨#[]⟩]:=h2
   exact h2.cellAt 0 (by decide)),h3⟩
 have hm:Mid []:=⟨by simp,by simp⟩
 have H8:Aside (∀ W,Below w.heap.size w W→Calls Tryz.prog 8 #[.slice none 0 0] W fun e W'=>e=.returned (.string ⟨#[]⟩)∧Below W.heap.size W W'):=fun W hb =>
  (hC.rprint [] (.slice none 0 0) W hb hm (Deep.nil W 0).hv).mono fun e W' ⟨⟨t,h1,h2⟩,h3⟩=>⟨by
   have h2:t.data.toList=[]:=h2.trans (by kernel_rfl)
   have:t=⟨#[]⟩:=by cases t with | mk d=>congr 1; exact Array.ext' h2
   rw [h1,this],h3⟩
 have H19:Aside (∀ W,Below w.heap.size w W→Calls Tryz.prog 19 #[.slice none 0 0] W fun e W'=>e=.returned (.bool true)∧Below W.heap.size W W'):=fun W hb =>
  hC.rvalid [] (.slice none 0 0) W hb hm (Deep.nil W 0).hv
 clear hC hm hΩ
 go_enter Tryz.func12,Tryz.ntmps12
 go_wp2_with (go_at_fn 27; refine h27.mono ?_; rintro r w1 ⟨A,rfl,l0,hb⟩; have H1:=Lib.hid hb; clear hb)
 go_loopg [4,18] 1 (fun _ s4 s18 wr=>s4=.slice none 0 0∧s18=.int .i64 0∧wr=w1)
 case atStart=>exact ⟨rfl,rfl,rfl⟩
 case round =>
  obtain ⟨rfl,rfl,rfl⟩:=hrel
  go_wp2_with (first
   | (go_at_fn 8; refine (H8.out _ H1.out).mono ?_; rintro r w3 ⟨rfl,hb⟩; have K:=Lib.hid (H1.out.trans (hb.mono H1.out.size)); clear hb)
   | (go_at_fn 19; refine (H19.out _ K.out).mono ?_; rintro r w2 ⟨rfl,hb⟩; have K3:=Lib.hid (K.out.trans (hb.mono K.out.size)); clear hb))
  go_ret2
  unfold PaPost
  exact ⟨_,[],rfl,Deep.nil _ _,fun _=>rfl,K3.out⟩
theorem ref_all (s : ByteArray) (w : World) (hΩ : ∀ w' : World, (∀ b, b < w.heap.size → w'.heap[b]? = w.heap[b]?) → OmA w') (hs : s.data.toList.length ≤ 900) :
  Calls Tryz.prog 12 #[.string s] w (PaPost w (refD s.data.toList)):=by
 by_cases h0:s.data.toList=[]
 · obtain rfl:s=⟨#[]⟩:=by cases s with | mk d=>congr 1; exact Array.ext' h0
   have e:refD []=([],0):=by kernel_rfl
   show Calls _ _ _ _ (PaPost w (refD []))
   rw [e]
   exact ref_walk0 w hΩ
 · exact ref_walk s w hΩ hs h0
theorem ref_valid {s:List UInt8} (h:(refD s).1≠[]):pvd (refD s).1=true:=by
 unfold refD at h ⊢
 generalize (if s.isEmpty=true then some [] else foldR (parts 32 s) [])=o at h ⊢
 cases o with
 | none=>exact absurd rfl h
 | some p =>
  unfold parseW at h ⊢
  by_cases hc:(pvd p&&(prt p==s))=true
  · simp only [hc,if_true]
    rw [Bool.and_eq_true] at hc
    exact hc.1
  · simp only [hc] at h
    exact absurd rfl h
theorem primRef:PrimOk OmA Tryz.prog 12 [] (pH [.str] gRef enParse):=by
 obtain ⟨c,hb⟩:∃ c,Tryz.f12.body=some c:=⟨_,rfl⟩
 refine pH_ok Tryz.func12 hb (by kernel_rfl) (fun vs x r _ _=>plain_en nilOr) fun x r hx vs ht w A B cs hΩ hr=>?_
 unfold gRef at hx
 split at hx
 · rename_i hl
   cases hx
   obtain ⟨s,_,rfl,h1,rfl⟩:=trel_hvs ht hr
   obtain ⟨t,h2,h3⟩:∃ t:ByteArray,[s]=[.string t]∧t.data.toList=x:=hv_one h1 rfl
   cases h2
   subst h3
   refine (ref_all t w hΩ hl).mono fun e w' ⟨v',vs',e1,e2,e3,e4⟩=>⟨[v',.int .i64 (refD t.data.toList).2],e1,e4,?_⟩
   unfold enParse
   by_cases h0:(refD t.data.toList).1=[]
   · rw [if_pos (by rw [h0]; rfl),e3 h0]
     exact .cons _ _ _ _ .nils (.cons _ _ _ _ (.int _ _) .nil)
   · rw [if_neg (by simpa using h0)]
     have hpv:=ref_valid h0
     refine .cons _ _ _ _ (e2.rel (Nat.le_refl _) (fun i hi hi' h=>?_) (fun hv=>?_)) (.cons _ _ _ _ (.int _ _) .nil)
     · have:=pvd_ne hpv _ (List.getElem_mem hi)
       rw [h] at this; simp at this
     · rcases owns_slice e2.row with ⟨_,q⟩ | ⟨g,c,q⟩
       · exact h0 (List.length_eq_zero_iff.1 q)
       · rw [q] at hv; cases hv
 · cases hx
theorem hRef:∀ x r,gRef x=some r→∀ vs,iQ [.str] x vs→iQ [.sl tyS,.int .i64] r (enParse vs r)∧∀ c∈(enParse vs r).flatMap V.cells,c.bare0:=fun x r _ vs _ =>
 path_trel fun h=>by simpa using h
end Go.Proofs.YtajoneenakjifaaGreatDoor
