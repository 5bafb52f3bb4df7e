/- Walked by hand: add (rows of two). -/
import Derived.Test.YtghpknbkecolnaaGreatDoorHIO
import Derived.Test.YtghpknbkecolnaaGreatDoorHWO
import Derived.Test.YtghpknbkecolnaaGreatDoorZA
import Derived.Test.YtghpknbkecolnaaGreatDoorZO
import Derived.Test.YtghpknbkecolnaaGreatDoorHD
import Derived.Deep.RegionWith
namespace Go.Proofs.YtghpknbkecolnaaGreatDoor
open Go.RowKit Go.Lib Go.VM
abbrev tC:Ty:=.st (.pair (.int .i64) (.int .i64))
theorem search_calls (l : List Z.Cm) (c : Z.Cm) (i : Nat) (s : Value) (W : World) {Q : Nat → Prop} (hs : ∀ i j (hi : i < l.length) (hj : j < l.length), i ≤ j → Z.lesC l[j] c = true → Z.lesC l[i] c = true) (hl : l.length ≤ 100000) (hi : Z.Place Z.lesC l c i) (hv : HV W Q (.sl tC) l s) :
  Calls Tryz.prog 70 #[s,.agg #[.int .i64 c.1,.int .i64 c.2],.func (.func 44) #[] #[]] W fun e W'=>e=.returned (.tuple #[.int .i64 i,.bool (decide (l[i]?=some c))])∧Below W.heap.size W W':=by
 have hty:wZ ⟨[.d (.sl tC),.d tC,.d (.fn 44)],[(.int .i64,[]),(.bool,[])],none⟩ [] (call Z.FT 200002 70) (nfN Z.TN 200002 70):=by
  have h:=Z.typed 200002 70
  unfold aF7 at h
  rw [Z.sigOk 70] at h
  exact h
 have hx:=Z.search_c 200001 (by decide) hs hl hi
 have hcs:HVs W Q [.sl tC,tC,.fn 44] (l,c,()) [s,.agg #[.int .i64 c.1,.int .i64 c.2],.func (.func 44) #[] #[]]:=⟨_,_,rfl,hv,_,_,rfl,⟨⟨_,_,rfl,rfl,rfl⟩,rfl⟩,_,_,rfl,⟨rfl,rfl⟩,rfl⟩
 have:=calls_typed (Z.tableOk) (f:=70) (ps:=[.d (.sl tC),.d tC,.d (.fn 44)]) (rs:=[(.int .i64,[]),(.bool,[])]) (vf:=Z.vf70) rfl hty (fun p hp=>by
  simp only [List.mem_cons,List.not_mem_nil,or_false] at hp
  rcases hp with rfl | rfl | rfl
  · exact ⟨_,rfl,.inr rfl⟩
  · exact ⟨_,rfl,.inl rfl⟩
  · exact ⟨_,rfl,.inr rfl⟩) (by decide) (fun _ _=>trivial) hx hcs
 refine this.mono fun e W' ⟨rcs,e1,e2,e3⟩=>⟨?_,e2⟩
 obtain ⟨c1,cs1,rfl,h1,c2,cs2,rfl,h2,rfl⟩:=e3
 have h1:[c1]=[.int .i64 (i:Int)]:=hv_one h1 rfl
 have h2:[c2]=[.bool (decide (l[i]?=some c))]:=hv_one h2 rfl
 cases h1; cases h2
 rw [e1]; rfl
theorem hrows_cells {w:World} {Q:Nat→Prop}:∀ {l:List Z.Cm} {rows:List Value},HRows (HC w Q tC) l rows→rows=(cellsC l).flatten
 | [],_,h=>h
 | c::l,_,⟨x,r,e,h1,h2⟩=>by
  obtain ⟨p,q,e1,e2,e3⟩:=h1
  have e2:p=[.int .i64 c.1]:=e2
  have e3:q=[.int .i64 c.2]:=e3
  subst e2; subst e3
  rw [e,e1,hrows_cells h2]; rfl
theorem cells_len (l:List Z.Cm):(cellsC l).flatten.length=l.length * 2:=by
 rw [flat_len2 _ (fun q hq=>by obtain ⟨p,_,rfl⟩:=List.mem_map.1 hq; rfl)]
 simp [cellsC]
theorem aEG (l:List Z.Cm):∀ u∈(cellsC l).flatten,u.oneCell'=true:=fun u hu=>by
 obtain ⟨q,hq,hu⟩:=List.mem_flatten.1 hu
 obtain ⟨p,_,rfl⟩:=List.mem_map.1 hq
 simp at hu
 rcases hu with rfl | rfl <;> rfl
/-- A copy of a row. -/
theorem clone_l (l : List Z.Cm) (a : Option Addr) (n cap : Nat) (w : World) (hv : HV w (fun b => b < w.heap.size) (.sl tC) l (.slice a n cap)) (hl : l.length ≤ 100000) (W : World) (hb : Below w.heap.size w W) :
  Calls Tryz.prog 71 #[.slice a n cap] W fun r w'=>∃ v',r=.returned v'∧w'.ownsRow W.heap.size 41 2 v' l.length (cellsC l).flatten∧Below W.heap.size W w':=by
 have h:=hv_one hv rfl
 rcases h with ⟨h1,h2⟩ | ⟨ad,cap',rows,h2,h3,h4,h5,h6,h7,h8⟩
 · cases h2
   refine (clone_nil 0 0 W).mono fun r w' ⟨e1,e2⟩=>⟨_,e1,?_,by rw [← e2]; exact Below.refl _ _⟩
   have h1:l=[]:=h1
   subst h1
   exact World.ownsRow_nil _ _ _ _
 · cases h2
   have hr:=hrows_cells h7
   refine (clone_own ad l.length cap (cellsC l).flatten W (cells_len l) (by omega) (fun j u hj=>?_) (aEG l)).mono fun r w' ⟨v',e1,e2,_,e3⟩=>⟨v',e1,e2,e3⟩
   rw [← hr] at hj
   have:=h6 j u hj
   rw [← this]
   refine World.cell?_of_block ?_
   rw [bM]
   refine hb.block _ (h8 fun h0=>?_)
   rw [h0] at hj; simp at hj
theorem below_drew {B:Nat} {w w':World} (h:Below B w.drew w'):Below B w w':=⟨h.os,h.tape,h.output,h.size,h.block⟩
theorem below_drew_alloc {B:Nat} {w w':World} {o:Obj} (h:Below B (w.drew.alloc o) w'):Below B (w.alloc o) w':=⟨h.os,h.tape,h.output,h.size,h.block⟩
theorem below_alloc_drew {B:Nat} {w w':World} {o:Obj} (h:Below B (w.alloc o).drew w'):Below B (w.alloc o) w':=⟨h.os,h.tape,h.output,h.size,h.block⟩
theorem owns_base {w:World} {b b':Nat} {e:TypeId} {z:Nat} {v:Value} {n:Nat} {xs:List Value} (h:w.ownsRow b e z v n xs) (hb:b'≤b):w.ownsRow b' e z v n xs :=
 ⟨h.1,h.2.imp id fun ⟨g,cp,cur,h1,h2,h3⟩=>⟨g,cp,cur,h1,Nat.le_trans hb h2,h3⟩⟩
theorem owns_heap {w w':World} {b:Nat} {e:TypeId} {z:Nat} {v:Value} {n:Nat} {xs:List Value} (h:w.ownsRow b e z v n xs) (hw:∀ k,v.ownBlock=some k→w'.heap[k]?=w.heap[k]?):w'.ownsRow b e z v n xs :=
 ⟨h.1,h.2.imp id fun ⟨g,cp,cur,h1,h2,h3,h4⟩=>⟨g,cp,cur,h1,h2,by rw [hw g (by rw [h1]; rfl)]; exact h3,h4⟩⟩
theorem ins_l (l : List Z.Cm) (c : Z.Cm) (i vb base : Nat) (v : Value) (w W : World) (hi : i ≤ l.length) (hl : l.length ≤ 100000) (ho : W.ownsRow base 41 2 v l.length (cellsC l).flatten) (hb : w.heap.size ≤ base) (hbW : base ≤ W.heap.size) (hwW : Below w.heap.size w W)
  (hv:W.heap[vb]?=some (.cells #[.int .i64 c.1,.int .i64 c.2] 41 (0,0))) (hvb:∀ k,v.ownBlock=some k→vb≠k) :
  Calls Tryz.prog 72 #[v,.int .i64 i,.slice (some ⟨vb,0,none⟩) 1 1] W fun r w'=>∃ v',r=.returned v'∧w'.ownsRow w.heap.size 41 2 v' (l.take i++[c]++l.drop i).length (cellsC (l.take i++[c]++l.drop i)).flatten∧Below w.heap.size w w':=by
 refine (ins_own base v l.length i vb (cellsC l).flatten [.int .i64 c.1,.int .i64 c.2] W hi ho hbW (by omega) (aEG l) hv hvb rfl (fun v hv=>by simp at hv; rcases hv with rfl | rfl <;> rfl)).mono fun r w' ⟨v',e1,e2,e3⟩=>⟨v',e1,owns_base ?_ hb,hwW.trans (e3.mono hb)⟩
 have hc2:∀ q∈cellsC l,q.length=2:=fun q hq=>by obtain ⟨p,_,rfl⟩:=List.mem_map.1 hq; rfl
 have h1:(l.take i++[c]++l.drop i).length=l.length+1:=by simp; omega
 have h2:(cellsC (l.take i++[c]++l.drop i)).flatten=(cellsC l).flatten.take (i * 2)++[.int .i64 c.1,.int .i64 c.2]++(cellsC l).flatten.drop (i * 2):=by
  have ht:(cellsC l).flatten.take (i * 2)=(cellsC (l.take i)).flatten:=by rw [flat_take2 _ _ hc2]; unfold cellsC; rw [List.map_take]
  have hd:(cellsC l).flatten.drop (i * 2)=(cellsC (l.drop i)).flatten:=by
   have:(cellsC l).flatten=(cellsC (l.take i)).flatten++(cellsC (l.drop i)).flatten:=by
    unfold cellsC
    rw [← List.flatten_append,← List.map_append,List.take_append_drop]
   rw [this]
   exact List.drop_left' (by rw [cells_len,List.length_take,Nat.min_eq_left hi])
  rw [ht,hd]
  simp [cellsC]
 rw [h1,h2]
 exact e2
set_option maxHeartbeats 2000000 in
set_option maxRecDepth 100000 in
theorem add_ok (l : List Z.Cm) (c : Z.Cm) (i : Nat) (a : Option Addr) (n cap : Nat) (w : World) (hs : ∀ i j (hi : i < l.length) (hj : j < l.length), i ≤ j → Z.lesC l[j] c = true → Z.lesC l[i] c = true) (hl : l.length ≤ 100000) (hi : Z.Place Z.lesC l c i)
  (hv:HV w (fun b=>b < w.heap.size) (.sl tC) l (.slice a n cap)) :
  Calls Tryz.prog 47 #[.slice a n cap,.agg #[.int .i64 c.1,.int .i64 c.2],.func (.func 44) #[] #[]] w fun r w'=>∃ v',r=.returned (.tuple #[v',.int .i64 (addR i l c).2])∧w'.ownsRow w.heap.size 41 2 v' (addR i l c).1.length (cellsC (addR i l c).1).flatten∧((addR i l c).1=[]→v'=.slice none 0 0)∧Below w.heap.size w w':=by
 have e70:∀ args w,(callFunc 70 args).run Tryz.prog w=.ok (.enter 70 args) w:=fun args w=>by kernel_rfl
 have e71:∀ args w,(callFunc 71 args).run Tryz.prog w=.ok (.enter 71 args) w:=fun args w=>by kernel_rfl
 have e72:∀ args w,(callFunc 72 args).run Tryz.prog w=.ok (.enter 72 args) w:=fun args w=>by kernel_rfl
 have hnl:n=l.length:=by
  have h:=hv_one hv rfl
  rcases h with ⟨h1,h2⟩ | ⟨ad,cap',rows,h2,_⟩
  · cases h2; have h1:l=[]:=h1; rw [h1]; rfl
  · cases h2; rfl
 subst hnl
 obtain ⟨W,hW⟩:∃ W,W=w.alloc (.cells #[.int .i64 c.1,.int .i64 c.2] 41):=⟨_,rfl⟩
 have hWB:Below w.heap.size w W:=by rw [hW]; exact (Below.refl _ w).alloc (Nat.le_refl _) _
 have hWs:W.heap.size=w.heap.size+1:=by rw [hW]; exact Array.size_push _
 have hcb0:W.cell? ⟨w.heap.size,0,none⟩=some (.int .i64 c.1):=by rw [hW]; exact World.cell?_alloc_at (w:=w) #[.int .i64 c.1,.int .i64 c.2] 41 w.heap.size 0 rfl
 have hcb1:W.cell? ⟨w.heap.size,1,none⟩=some (.int .i64 c.2):=by rw [hW]; exact World.cell?_alloc_at (w:=w) #[.int .i64 c.1,.int .i64 c.2] 41 w.heap.size 1 rfl
 have hsr:=search_calls l c i (.slice a l.length cap) W hs hl hi ⟨hc_below (Q:=fun b=>b < w.heap.size) hWB (fun b h=>h) hv.1,hv.2⟩
 have HCl:Aside _:=clone_l l a l.length cap w hv hl
 have HB:Aside (Below w.heap.size w W):=hWB
 have hcb:∀ w1,Below W.heap.size W w1→w1.cell? ⟨w.heap.size,0,none⟩=some (.int .i64 c.1)∧w1.cell? ⟨w.heap.size,1,none⟩=some (.int .i64 c.2):=fun w1 hb=>⟨by rw [hb.cell (p:=⟨w.heap.size,0,none⟩) (by rw [hWs]; exact Nat.lt_succ_self _)]; exact hcb0,by rw [hb.cell (p:=⟨w.heap.size,1,none⟩) (by rw [hWs]; exact Nat.lt_succ_self _)]; exact hcb1⟩
 have HPl:Aside (i≤l.length):=hi.1
 have HK:Aside _:=hcb
 have HS:Aside (W.heap.size=w.heap.size+1):=hWs
 clear hv hs hi hcb hWB hWs
 by_cases hf:l[i]?=some c
 · rw [decide_eq_true hf] at hsr
   have hA:addR i l c=(l,0):=by unfold addR; rw [if_pos hf]
   rw [hA]
   have HNE:Aside (l≠[]):=(fun h0=>by rw [h0] at hf; simp at hf:l≠[])
   clear hf hA
   rw [hW] at hsr hcb0 hcb1
   have HW:Aside (W=w.alloc (.cells #[.int .i64 c.1,.int .i64 c.2] 41)):=hW
   clear hW
   go_enter Tryz.func47,Tryz.ntmps47
   go_wp2_with (first
    | (go_at_fn 70; refine hsr.mono ?_; rintro r w1 ⟨rfl,hb1⟩; have H1:=Lib.hid hb1; clear hb1)
    | (go_at_fn 71; refine (HCl.out w1 (HB.out.trans ((HW.out.symm▸H1.out).mono (by have:=HS.out; omega)))).mono ?_; rintro r w2 ⟨v2,rfl,ho⟩; have H2:=Lib.hid ho; clear ho))
   go_ret2
   have hw1:Below w.heap.size w w1:=HB.out.trans ((HW.out.symm▸H1.out).mono (by have:=HS.out; omega))
   refine ⟨_,rfl,?_,fun h0=>absurd h0 HNE.out,hw1.trans (H2.out.2.mono hw1.size)⟩
   have h:=H2.out.1
   exact ⟨h.1,h.2.imp id fun ⟨g,cp,cur,h1,h2,h3⟩=>⟨g,cp,cur,h1,Nat.le_trans hw1.size h2,h3⟩⟩
 · rw [decide_eq_false hf] at hsr
   by_cases h64:l.length=64
   · have hA:addR i l c=([],3):=by unfold addR; rw [if_neg hf,if_pos h64]
     rw [hA]
     have hb64:((l.length:Int)==64)=true:=by rw [h64]; rfl
     clear hf hA h64
     rw [hW] at hsr hcb0 hcb1
     have HW:Aside (W=w.alloc (.cells #[.int .i64 c.1,.int .i64 c.2] 41)):=hW
     clear hW
     go_enter Tryz.func47,Tryz.ntmps47
     go_wp2_with (first
      | (go_at_fn 70; refine hsr.mono ?_; rintro r w1 ⟨rfl,hb1⟩; have H1:=Lib.hid hb1; clear hb1))
     go_ret2
     have hw1:Below w.heap.size w w1:=HB.out.trans ((HW.out.symm▸H1.out).mono (by have:=HS.out; omega))
     exact ⟨_,rfl,World.ownsRow_nil _ _ _ _,fun _=>rfl,hw1⟩
   · have hA:addR i l c=(l.take i++[c]++l.drop i,0):=by unfold addR; rw [if_neg hf,if_neg h64]
     rw [hA]
     have hb64:((l.length:Int)==64)=false:=beq_eq_false_iff_ne.2 (by omega)
     have mixed:Tryz.prog.follows Departure.mixedOrders=true:=by kernel_rfl
     clear hf hA h64
     rw [hW] at hsr hcb0 hcb1
     have HW:Aside (W=w.alloc (.cells #[.int .i64 c.1,.int .i64 c.2] 41)):=hW
     clear hW
     go_enter Tryz.func47,Tryz.ntmps47
     go_wp2_with (first
      | (go_at_fn 70; refine hsr.mono ?_; rintro r w1 ⟨rfl,hb1⟩; obtain ⟨m0,m1⟩:=HK.out w1 (HW.out.symm▸hb1); have H1:=Lib.hid hb1; clear hb1))
     have HBB:Aside (∀ W',Below w1.heap.size w1 W'→Below w.heap.size w W'):=fun W' h=>(HB.out.trans ((HW.out.symm▸H1.out).mono (by have:=HS.out; omega))).trans (h.mono ((HB.out.trans ((HW.out.symm▸H1.out).mono (by have:=HS.out; omega)))).size)
     have HLD:Aside (∀ W' w2,Below w1.heap.size w1 W'→Below W'.heap.size W' w2→w2.cell? ⟨w.heap.size,0,none⟩=some (.int .i64 c.1)∧w2.cell? ⟨w.heap.size,1,none⟩=some (.int .i64 c.2)):=fun W' w2 h h2=>HK.out w2 ((HW.out.symm▸H1.out).trans ((h.trans (h2.mono h.size)).mono (HW.out.symm▸H1.out).size))
     have hsz1:w.heap.size≤w1.heap.size:=(HBB.out w1 (Below.refl _ _)).size
     have HIA:Aside (∀ w2 v2,w2.ownsRow w1.heap.size 41 2 v2 l.length (cellsC l).flatten→Below w1.heap.size w1 w2→Calls Tryz.prog 72 #[v2,.int .i64 i,.slice (some ⟨w2.heap.size,0,none⟩) 1 1] (w2.alloc (.cells #[.int .i64 c.1,.int .i64 c.2] 41)) fun r w'=>∃ v',r=.returned v'∧w'.ownsRow w.heap.size 41 2 v' (l.take i++[c]++l.drop i).length (cellsC (l.take i++[c]++l.drop i)).flatten∧Below w.heap.size w w'):=fun w2 v2 ho hb=>by
      have hk:∀ k,v2.ownBlock=some k→k < w2.heap.size:=fun k hk=>(ho.lt k hk).2
      exact ins_l l c i w2.heap.size w1.heap.size v2 w _ HPl.out hl (owns_heap ho fun k hk'=>Go.heap_alloc_old w2 _ (hk k hk')) hsz1 (Nat.le_trans hb.size (Nat.le_of_lt (by show _ < (w2.heap.push _).size; rw [Array.size_push]; exact Nat.lt_succ_self _))) (HBB.out _ ((hb).alloc hb.size _)) (heap_alloc_new w2 _) (fun k hk' e=>by have:=hk k hk'; omega)
     have HIB:Aside (∀ w2 v2,w2.ownsRow (w1.alloc (.cells #[.int .i64 c.1,.int .i64 c.2] 41)).heap.size 41 2 v2 l.length (cellsC l).flatten→Below (w1.alloc (.cells #[.int .i64 c.1,.int .i64 c.2] 41)).heap.size (w1.alloc (.cells #[.int .i64 c.1,.int .i64 c.2] 41)) w2→Calls Tryz.prog 72 #[v2,.int .i64 i,.slice (some ⟨w1.heap.size,0,none⟩) 1 1] w2 fun r w'=>∃ v',r=.returned v'∧w'.ownsRow w.heap.size 41 2 v' (l.take i++[c]++l.drop i).length (cellsC (l.take i++[c]++l.drop i)).flatten∧Below w.heap.size w w'):=fun w2 v2 ho hb=>by
      have hs2:(w1.alloc (.cells #[.int .i64 c.1,.int .i64 c.2] 41)).heap.size=w1.heap.size+1:=Array.size_push _
      exact ins_l l c i w1.heap.size _ v2 w w2 HPl.out hl ho (by omega) hb.size (HBB.out _ (((Below.refl _ w1).alloc (Nat.le_refl _) _).trans (hb.mono (by omega)))) (by rw [hb.block _ (by omega)]; exact heap_alloc_new w1 _) (fun k hk e=>by have:=(ho.lt k hk).1; omega)
     go_region_with (first
      | (go_at_fn 71; refine (HCl.out _ (by first | exact HBB.out _ ⟨rfl,rfl,rfl,Nat.le_refl _,fun _ _=>rfl⟩ | exact HBB.out _ ((show Below w1.heap.size w1 w1.drew from ⟨rfl,rfl,rfl,Nat.le_refl _,fun _ _=>rfl⟩).alloc (Nat.le_refl _) _))).mono ?_; rintro r w2 ⟨v2,rfl,ho⟩; obtain ⟨p0,p1⟩:=HLD.out _ _ (by first | exact ⟨rfl,rfl,rfl,Nat.le_refl _,fun _ _=>rfl⟩ | exact (show Below w1.heap.size w1 w1.drew from ⟨rfl,rfl,rfl,Nat.le_refl _,fun _ _=>rfl⟩).alloc (Nat.le_refl _) _) ho.2; have H2:=Lib.hid ho; clear ho)
      | (go_at_fn 72; refine (HIA.out _ _ H2.out.1 (below_drew H2.out.2)).mono ?_; rintro r w3 ⟨v3,rfl,ho⟩; have H3:=Lib.hid ho; clear ho)
      | (go_at_fn 72; refine (HIB.out _ _ H2.out.1 (by first | exact below_drew_alloc H2.out.2 | exact below_alloc_drew H2.out.2)).mono ?_; rintro r w3 ⟨v3,rfl,ho⟩; have H3:=Lib.hid ho; clear ho))
     all_goals
      go_wp2
      go_ret2
      exact ⟨_,rfl,H3.out.1,fun h0=>absurd h0 (by simp),H3.out.2⟩
end Go.Proofs.YtghpknbkecolnaaGreatDoor
