/- Walked by hand: Parse. -/
import Derived.Test.YtajoneenakjifaaGreatDoorHW1
namespace Go.Proofs.YtajoneenakjifaaGreatDoor
open Go.RowKit Go.Lib Go.VM
/-- What Parse comes to. -/
def PaPost (w:World) (R:List Seg×Int) (r:Ending) (w':World):Prop :=
 ∃ v' vs,r=.returned (.tuple #[v',.int .i64 R.2])∧Deep w' w.heap.size v' R.1 vs∧(R.1=[]→v'=.slice none 0 0)∧Below w.heap.size w w'
structure PInv (w1:World) (ws:List (List UInt8)) (wr:World) (v:Value) (L:List Seg) (vs:List Value) (i:Nat):Prop where
 deep:Deep wr w1.heap.size v L vs
 nil:L=[]→v=.slice none 0 0
 fold:foldW (ws.drop i) L=foldW ws []
 len:L.length≤i
 sz:∀ p∈L,p.2.length≤1001+i
 bel:Below w1.heap.size w1 wr
theorem grown_drew {w w':World} {row:Option Nat} (h:w.drew.grownBy w' row):w.grownBy w' row:=⟨h.os,h.tape,h.output,h.size,h.block⟩
/-- A word that goes on with the last segment. -/
theorem PInv.glue {w1 wr w2 w' : World} {ws : List (List UInt8)} {g c kk : Nat} {L : List Seg} {vs : List Value} {i : Nat} {p : Seg} {u' : Value} (h : PInv w1 ws wr (.slice (some ⟨g, 0, none⟩) (kk + 1) c) L vs i) (hi : i < ws.length) (hw : wd ws[i] = some p) (hp2 : p.2.length ≤ 1001) (hp1 : p.1 = false → p.2.length = 1)
  (hkk:L.length=kk+1) (hx:kk < vs.length) (hs:p.1=false) (hl:(lastS L).1=false) (hb2:Below wr.heap.size wr w2) (hg:w2.grownBy w' vs[kk].ownBlock)
  (hu:ownG w' w1.heap.size 1 u' ((lastS L).2++p.2).length (intC ((lastS L).2++p.2))) (hat:u'.ownBlock=vs[kk].ownBlock∨u'.ownBlock=some w2.heap.size) :
  ∃ vs',PInv w1 ws (w'.setCell ⟨g,kk * 2+1,none⟩ u') (.slice (some ⟨g,0,none⟩) (kk+1) c) (putW L p) vs' (i+1):=by
 have hD:=h.deep.below hb2
 have hxL:kk < L.length:=by omega
 have h0:0 < L.length:=by omega
 have e1:L.length - 1=kk:=by omega
 have e0:L[kk]=lastS L:=by rw [lastS_get h0]; congr 1; omega
 obtain ⟨d1,d2⟩:=hD.setIn (i:=kk) (u:=u') (l:=(lastS L).2++p.2) (w':=w') hxL hg hu (fun k hk=>hat.imp (fun q=>by rw [← q]; exact hk) fun q=>by rw [hk] at q; cases q; exact Nat.le_refl _)
 rw [e0] at d1
 have ep:putW L p=L.set kk ((lastS L).1,(lastS L).2++p.2):=by
  unfold putW
  rw [if_pos (by simp [h0,hs,hl]),e1]
 have hdr:ws.drop i=ws[i]::ws.drop (i+1):=List.drop_eq_getElem_cons hi
 have hf:=h.fold
 rw [hdr] at hf
 simp only [foldW,hw] at hf
 have hgb:∀ k,vs[kk].ownBlock=some k→w1.heap.size≤k:=fun k hk=>((h.deep.ins kk hxL hx).lt k hk).1
 refine ⟨_,by rw [ep]; exact d1,fun e=>absurd e (putW_ne L p),hf,by have:=putW_len L p; have:=h.len; omega,putW_sz h.sz hp2 hp1,?_⟩
 have hb:Below w1.heap.size w1 w2:=h.bel.trans (hb2.mono h.bel.size)
 refine (hb.grown hg hb.size fun j hj=>hgb j hj).grown d2 (Nat.le_trans hb.size hg.size) fun j hj=>?_
 cases hj
 exact (World.ownsRow.lt h.deep.row g rfl).1
/-- A word that cB a segment. -/
theorem PInv.more {w1 wr w2 w' : World} {ws : List (List UInt8)} {v v' : Value} {L : List Seg} {vs : List Value} {i : Nat} {p : Seg} {u : Value} (h : PInv w1 ws wr v L vs i) (hi : i < ws.length) (hw : wd ws[i] = some p) (hp2 : p.2.length ≤ 1001) (hp1 : p.1 = false → p.2.length = 1)
  (hc:(decide (0 < L.length)&&!p.1&&!(lastS L).1)=false) (hb2:Below wr.heap.size wr w2) (hu:ownG w2 wr.heap.size 1 u p.2.length (intC p.2)) (ho:w'.ownsRow w1.heap.size 39 2 v' (L.length+1) (segC L vs++[.bool p.1,u])) (hg:w2.grownBy w' v.ownBlock) (hat:v'.ownBlock=v.ownBlock∨v'.ownBlock=some w2.heap.size) :
  ∃ vs',PInv w1 ws w' v' (putW L p) vs' (i+1):=by
 have hD:=h.deep.below hb2
 have hub:∀ k,u.ownBlock=some k→wr.heap.size≤k:=fun k hk=>(hu.lt k hk).1
 have d1:=hD.push (b:=p.1) (l:=p.2) (u:=u) (w':=w') (v':=v') (hu.mono h.bel.size) (fun j hj k hk e=>by
  have q1:=((h.deep.ins j (by rw [← h.deep.len]; exact hj) hj).lt k hk).2
  have:=hub k e; omega) (fun k hk e=>by
  have q1:=(World.ownsRow.lt h.deep.row k e).2
  have:=hub k hk; omega) ho hg (hat.imp id fun q=>⟨_,q,Nat.le_refl _⟩)
 have ep:putW L p=L++[(p.1,p.2)]:=by
  unfold putW
  rw [if_neg (by rw [hc]; simp)]
 have hdr:ws.drop i=ws[i]::ws.drop (i+1):=List.drop_eq_getElem_cons hi
 have hf:=h.fold
 rw [hdr] at hf
 simp only [foldW,hw] at hf
 have hb:Below w1.heap.size w1 w2:=h.bel.trans (hb2.mono h.bel.size)
 exact ⟨_,by rw [ep]; exact d1,fun e=>absurd e (putW_ne L p),hf,by have:=putW_len L p; have:=h.len; omega,putW_sz h.sz hp2 hp1,hb.grown hg hb.size fun j hj=>(World.ownsRow.lt h.deep.row j hj).1⟩
set_option maxHeartbeats 8000000 in
set_option maxRecDepth 100000 in
theorem parse_walk (s : ByteArray) (w : World) (hΩ : ∀ w' : World, (∀ b, b < w.heap.size → w'.heap[b]? = w.heap[b]?) → OmA w') (hs : s.data.toList.length ≤ 1000) :
  Calls Tryz.prog 11 #[.string s] w (PaPost w (parseD s.data.toList)):=by
 have e25:∀ args w,(callFunc 25 args).run Tryz.prog w=.ok (.enter 25 args) w:=fun args w=>by kernel_rfl
 have e26:∀ args w,(callFunc 26 args).run Tryz.prog w=.ok (.enter 26 args) w:=fun args w=>by kernel_rfl
 have e22:∀ args w,(callFunc 22 args).run Tryz.prog w=.ok (.enter 22 args) w:=fun args w=>by kernel_rfl
 have e9:∀ args w,(callFunc 9 args).run Tryz.prog w=.ok (.enter 9 args) w:=fun args w=>by kernel_rfl
 have hC:=callsOk w hΩ
 have hO:=(hΩ w fun _ _=>rfl).2 1 rfl
 have hsz:s.size=s.data.toList.length:=bsz s
 have h25:=Tryz.strings_Fields_any s w (by omega) hO.1 hO.2
 obtain ⟨fl1,fl2⟩:=fields_len s.data.toList
 have hlt:¬ ((s.size:Nat):Int) > 65536:=by omega
 obtain ⟨ws,hws⟩:∃ ws,ws=Lib.fieldsD s.data.toList:=⟨_,rfl⟩
 rw [← hws] at h25 fl1 fl2
 have hR:parseD s.data.toList=parseW (foldW ws []) s.data.toList:=by unfold parseD; rw [hws]
 rw [hR]
 have hxs:∀ (w1 wr:World) A i,w1.ownsRow w.heap.size 9 1 (.slice (some ⟨A,0,none⟩) ws.length ws.length) ws.length (ws.map fun x=>Value.string ⟨x.toArray⟩)→Below w1.heap.size w1 wr→(hi:i < ws.length)→wr.cell? ⟨A,i,none⟩=some (.string ⟨(ws[i]).toArray⟩):=fun w1 wr A i ho hb hi=>by
  have hA:=(World.ownsRow.lt ho A rfl).2
  rw [hb.cell (p:=⟨A,i,none⟩) hA,ho.cellAt i (by omega),List.getElem?_map,List.getElem?_eq_getElem hi]
  rfl
 have H17:Aside _:=hC.valid
 have H11:Aside _:=hC.print
 have HX:Aside _:=hxs
 have HO:Aside _:=hΩ
 have HF:Aside (ws.length≤1000∧(∀ x∈ws,x.length≤1000)):=⟨by omega,fun x hx=>Nat.le_trans (fl2 x hx) hs⟩
 have HW:Aside (∀ (i:Nat) (hi:i < ws.length) (W:World),Below w.heap.size w W→_):=fun i hi W hb=>word_calls hΩ ⟨(ws[i]).toArray⟩ (by show (ws[i]).length≤_; have:=fl2 _ (List.getElem_mem hi); omega) W hb
 have HZ:Aside (s.size=s.data.toList.length):=hsz
 clear hC hΩ hO hxs fl1 fl2 hR hws hsz hs
 go_enter Tryz.func11,Tryz.ntmps11
 go_wp2_with (go_at_fn 25; refine h25.mono ?_; rintro r w1 ⟨A,rfl,hA,ho,hb⟩; have H1:=Lib.hid (And.intro ho hb); clear ho hb)
 go_loopg [4,6,7,8,9,16] ws.length (fun gg s4 _ _ _ _ s16 wr=>∃ (v:Value) (i:Nat) (L:List Seg) (vs:List Value),v=s4∧s16=.int .i64 i∧i≤ws.length∧ws.length - i≤gg∧Aside (PInv w1 ws wr s4 L vs i))
 case atStart=>exact ⟨_,0,[],[],rfl,rfl,Nat.zero_le _,by omega,⟨Deep.nil _ _,fun _=>rfl,rfl,Nat.le_refl _,fun p hp=>by simp at hp,Below.refl _ _⟩⟩
 case round =>
  obtain ⟨v,i,L,vs,rfl,rfl,hin,hgg,I⟩:=hrel
  have hbw:Below w.heap.size w wr:=H1.out.2.trans (I.out.bel.mono H1.out.2.size)
  by_cases hlt:i < ws.length
  · have hltz:(i:Int) < (ws.length:Int):=by omega
    have hw1000:ws.length≤1000:=HF.out.1
    have l0:=HX.out w1 wr A i H1.out.1 I.out.bel hlt
    have h26:Calls Tryz.prog 26 #[.string ⟨(ws[i]).toArray⟩] wr fun e W'=>∃ b v l ok,e=.returned (.tuple #[.agg #[.bool b,v],.bool ok])∧ownG W' wr.heap.size 1 v (l:List Int).length (intC l)∧((∀ p,wd ws[i]=some p→((b,l),ok)=(p,true))∧(wd ws[i]=none→ok=false))∧Below wr.heap.size wr W':=HW.out i hlt wr hbw
    have hdr:ws.drop i=ws[i]::ws.drop (i+1):=List.drop_eq_getElem_cons hlt
    cases hwd:wd ws[i] with
    | none =>
     have HN:Aside (foldW ws []=none):=by
      have:=I.out.fold
      rw [hdr] at this
      simp only [foldW,hwd] at this
      exact this.symm
     have HWD:Aside (wd ws[i]=none):=hwd
     clear hwd hdr
     go_wp2_with (go_at_fn 26; refine h26.mono ?_; rintro r w2 ⟨b,v2,l,ok,rfl,ho2,hq,hb2⟩; have hok:=hq.2 HWD.out; subst hok; obtain ⟨o2,m2,c2,rfl⟩:=ho2.shape3; have K:=Lib.hid hb2; clear hb2 ho2 hq)
     go_ret2
     unfold PaPost
     rw [HN.out]
     exact ⟨_,[],rfl,Deep.nil _ _,fun _=>rfl,(hbw.trans (K.out.mono hbw.size)).alloc (Nat.le_trans hbw.size K.out.size) _⟩
    | some p =>
     obtain ⟨pb,pl⟩:=p
     obtain ⟨hp0,hp2,hp1⟩:=wd_facts hwd
     have hp2:pl.length≤(ws[i]).length+1:=hp2
     have hp1:pb=false→pl.length=1:=hp1
     have hp2:pl.length≤1001:=by have:=HF.out.2 _ (List.getElem_mem hlt); omega
     have hLi:L.length≤1000:=by have:=I.out.len; have:=HF.out.1; omega
     have HP:Aside (wd ws[i]=some (pb,pl)∧pl.length≤1001∧(pb=false→pl.length=1)):=⟨hwd,hp2,hp1⟩
     have HSZ:Aside (∀ q∈L,q.2.length≤2001):=fun q hq=>by have:=I.out.sz q hq; have:=HF.out.1; omega
     clear hwd hdr hp0 hp2 hp1
     have hpush:∀ (w2:World) (v' u:Value) (n0:Nat),v=v'→L.length=n0→Below wr.heap.size wr w2→ownG w2 wr.heap.size 1 u pl.length (intC pl)→(decide (0 < L.length)&&!pb&&!(lastS L).1)=false→∀ ty,∃ v7 w7,(Builtin.append_ #[22,22] ty #[v',.slice (some ⟨w2.heap.size+1,0,none⟩) 1 1]).run Tryz.prog ((w2.alloc (.cells #[.bool pb,u] 39)).alloc (.cells #[.bool pb,u] 39))=.ok v7 w7∧∃ vs',PInv w1 ws w7 v7 (putW L (pb,pl)) vs' (i+1):=fun w2 v' u n0 hv hn0 hb2 hu hc ty=>by
      subst hv; subst hn0
      obtain ⟨i0,hi0,hz0,hzs,hzb⟩:=info_parts info_e
      have hsz:w2.heap.size+1=(w2.alloc (.cells #[.bool pb,u] 39)).heap.size:=(Array.size_push _).symm
      rw [hsz]
      have h2:Below wr.heap.size wr (w2.alloc (.cells #[.bool pb,u] 39)):=hb2.alloc hb2.size _
      have h3:Below wr.heap.size wr ((w2.alloc (.cells #[.bool pb,u] 39)).alloc (.cells #[.bool pb,u] 39)):=h2.alloc h2.size _
      have hu3:ownG ((w2.alloc (.cells #[.bool pb,u] 39)).alloc (.cells #[.bool pb,u] 39)) wr.heap.size 1 u pl.length (intC pl):=(hu.kept (World.grownBy_alloc w2 _ none) (Classical.em _)).kept (World.grownBy_alloc _ _ none) (Classical.em _)
      have hD:=I.out.deep.below h3
      obtain ⟨v7,w7,q1,q2,q3,_,q5⟩:=run_append_own_at (P:=Tryz.prog) ((w2.alloc (.cells #[.bool pb,u] 39)).alloc (.cells #[.bool pb,u] 39)) w1.heap.size 22 ty 39 i0 (.agg #[.bool false,.slice none 0 0]) 2 32 Tryz.underlying22 hi0 hz0 hzs hzb rfl (by decide) v L.length (segC L vs) hD.row ⟨(w2.alloc (.cells #[.bool pb,u] 39)).heap.size,0,none⟩ 1 1 [.bool pb,u] rfl
       (fun j x hj=>by
        rw [Addr.add_lit,Nat.zero_add]
        simp only [World.cell?]
        rw [heap_alloc_new (w2.alloc (.cells #[.bool pb,u] 39)) (.cells #[.bool pb,u] 39)]
        simpa using hj)
       (fun x hx=>by simp at hx; rcases hx with rfl | rfl; rfl; exact hu.one) (by unfold maxLen; omega) (by omega) (Nat.le_trans I.out.bel.size h3.size)
      exact ⟨v7,w7,q1,I.out.more hlt HP.out.1 HP.out.2.1 HP.out.2.2 hc h3 hu3 q2 q3 q5⟩
     have HA:Aside _:=hpush
     clear hpush
     by_cases hL:L=[]
     · have hv:v=.slice none 0 0:=I.out.nil hL
       have hc:(decide (0 < L.length)&&!pb&&!(lastS L).1)=false:=by rw [hL]; rfl
       have HC:Aside (v=.slice none 0 0∧(decide (0 < L.length)&&!pb&&!(lastS L).1)=false):=⟨hv,hc⟩
       have hw1:IntKind.i64.wrap (-1)=-1:=by decide
       clear hc hL
       subst hv
       go_wp2_with (first
        | (go_at_fn 26; refine h26.mono ?_; rintro r w2 ⟨b,v2,l,ok,rfl,ho2,hq,hb2⟩; obtain ⟨rfl⟩:b=pb:=(congrArg (fun x:Seg×Bool=>x.1.1) (hq.1 (pb,pl) HP.out.1)); obtain ⟨rfl⟩:l=pl:=(congrArg (fun x:Seg×Bool=>x.1.2) (hq.1 (pb,pl) HP.out.1)); obtain ⟨rfl⟩:ok=true:=(congrArg (fun x:Seg×Bool=>x.2) (hq.1 (pb,pl) HP.out.1)); obtain ⟨o2,m2,c2,rfl⟩:=ho2.shape3; have K:=Lib.hid (And.intro ho2 hb2); clear hb2 ho2 hq)
        | (at_builtin; refine wpList_append_ex (by rfl) _ _ 22 22 (by rfl) _ _ (by rfl) (by rfl) (HA.out w2 _ _ _ (by first | rfl | exact HC.out.1) (by first | rfl | exact rfl) K.out.2 K.out.1 HC.out.2 _) ?_; rintro v7 w7 ⟨vs7,hp7⟩; have K7:=Lib.hid hp7; clear hp7))
       go_roundg (ws.length - (i+1))
       case measure=>omega
       case rel=>exact ⟨_,i+1,_,_,rfl,by go_num,by omega,Nat.le_refl _,(show Aside _ from K7.out)⟩
     · have hpos:0 < L.length:=List.length_pos_iff.2 hL
       obtain ⟨kk,hkk⟩:∃ kk,L.length=kk+1:=⟨L.length - 1,by omega⟩
       obtain ⟨g,c,hv⟩:∃ g c,v=.slice (some ⟨g,0,none⟩) (kk+1) c:=by
        rcases I.out.deep.row.2 with ⟨_,q⟩ | ⟨g,c,_,q,_⟩
        · omega
        · exact ⟨g,c,by rw [q,hkk]⟩
       have hx:kk < vs.length:=by rw [I.out.deep.len]; omega
       have hxL:kk < L.length:=by omega
       have hls:lastS L=L[kk]:=by rw [lastS_get hpos]; congr 1; omega
       obtain ⟨o1,m1,c1,hsh⟩:=(I.out.deep.ins kk hxL hx).shape3
       have hrow:wr.ownsRow w1.heap.size 39 2 (.slice (some ⟨g,0,none⟩) (kk+1) c) (kk+1) (segC L vs):=by have:=I.out.deep.row; rw [hv,hkk] at this; exact this
       have hgw:=(World.ownsRow.lt hrow g rfl).2
       have r0:wr.cell? ⟨g,kk * 2,none⟩=some (.bool (lastS L).1):=by rw [hrow.cellAt (kk * 2) (by omega),segC_get0 I.out.deep.len hxL,hls]
       have r1:wr.cell? ⟨g,kk * 2+1,none⟩=some (.slice o1 m1 c1):=by rw [hrow.cellAt (kk * 2+1) (by omega),segC_get1 I.out.deep.len hx,hsh]
       have HL:Aside (∀ w2 o,Below wr.heap.size wr w2→(w2.alloc o).cell? ⟨g,kk * 2,none⟩=some (.bool (lastS L).1)∧(w2.alloc o).cell? ⟨g,kk * 2+1,none⟩=some (.slice o1 m1 c1)):=fun w2 o hb=>by
        have:=Nat.lt_of_lt_of_le hgw hb.size
        exact ⟨by rw [World.cell?_of_block (w:=w2) (a:=⟨g,kk * 2,none⟩) (Go.heap_alloc_old w2 o this),hb.cell (p:=⟨g,kk * 2,none⟩) hgw]; exact r0,by rw [World.cell?_of_block (w:=w2) (a:=⟨g,kk * 2+1,none⟩) (Go.heap_alloc_old w2 o this),hb.cell (p:=⟨g,kk * 2+1,none⟩) hgw]; exact r1⟩
       have hkw1:IntKind.i64.wrap ((kk:Int)+1 - 1)=kk:=by rw [IntKind.wrap_i64]; omega
       have hkw2:IntKind.i64.wrap (kk:Int)=kk:=by rw [IntKind.wrap_i64]; omega
       have hk0:(0:Int)≤(kk:Int):=by omega
       have hk1:(kk:Int) < (kk:Int)+1:=by omega
       have HV:Aside (v=.slice (some ⟨g,0,none⟩) (kk+1) c∧L.length=kk+1):=⟨hv,hkk⟩
       clear hrow r0 r1 hL hpos hls
       cases pb with
       | true =>
        have HC:Aside ((decide (0 < L.length)&&!true&&!(lastS L).1)=false):=by show (_&&false&&_)=false; rw [Bool.and_false]; rfl
        subst hv
        clear hkk
        go_wp2_with (first
         | (go_at_fn 26; refine h26.mono ?_; rintro r w2 ⟨b,v2,l,ok,rfl,ho2,hq,hb2⟩; obtain ⟨rfl⟩:b=true:=(congrArg (fun x:Seg×Bool=>x.1.1) (hq.1 (true,pl) HP.out.1)); obtain ⟨rfl⟩:l=pl:=(congrArg (fun x:Seg×Bool=>x.1.2) (hq.1 (true,pl) HP.out.1)); obtain ⟨rfl⟩:ok=true:=(congrArg (fun x:Seg×Bool=>x.2) (hq.1 (true,pl) HP.out.1)); obtain ⟨o2,m2,c2,rfl⟩:=ho2.shape3; obtain ⟨y0,y1⟩:=HL.out w2 (.cells #[.bool true,.slice o2 m2 c2] 39) hb2; have K:=Lib.hid (And.intro ho2 hb2); clear hb2 ho2 hq)
         | (at_builtin; refine wpList_append_ex (by rfl) _ _ 22 22 (by rfl) _ _ (by rfl) (by rfl) (HA.out w2 _ _ _ (by first | rfl | exact HV.out.1) (by first | rfl | exact HV.out.2) K.out.2 K.out.1 HC.out _) ?_; rintro v7 w7 ⟨vs7,hp7⟩; have K7:=Lib.hid hp7; clear hp7))
        go_roundg (ws.length - (i+1))
        case measure=>omega
        case rel=>exact ⟨_,i+1,_,_,rfl,by go_num,by omega,Nat.le_refl _,(show Aside _ from K7.out)⟩
       | false =>
        have HLS:∀ b,(lastS L).1=b→Aside ((lastS L).1=b):=fun b h=>h
        cases hl1:(lastS L).1 with
        | true =>
         have HC:Aside ((decide (0 < L.length)&&!false&&!(lastS L).1)=false):=by show (_&&_&&_)=false; rw [hl1]; simp
         rw [hl1] at HL
         clear hl1 HLS
         subst hv
         clear hkk
         go_wp2_with (first
          | (go_at_fn 26; refine h26.mono ?_; rintro r w2 ⟨b,v2,l,ok,rfl,ho2,hq,hb2⟩; obtain ⟨rfl⟩:b=false:=(congrArg (fun x:Seg×Bool=>x.1.1) (hq.1 (false,pl) HP.out.1)); obtain ⟨rfl⟩:l=pl:=(congrArg (fun x:Seg×Bool=>x.1.2) (hq.1 (false,pl) HP.out.1)); obtain ⟨rfl⟩:ok=true:=(congrArg (fun x:Seg×Bool=>x.2) (hq.1 (false,pl) HP.out.1)); obtain ⟨o2,m2,c2,rfl⟩:=ho2.shape3; obtain ⟨y0,y1⟩:=HL.out w2 (.cells #[.bool false,.slice o2 m2 c2] 39) hb2; have K:=Lib.hid (And.intro ho2 hb2); clear hb2 ho2 hq)
          | (at_builtin; refine wpList_append_ex (by rfl) _ _ 22 22 (by rfl) _ _ (by rfl) (by rfl) (HA.out w2 _ _ _ (by first | rfl | exact HV.out.1) (by first | rfl | exact HV.out.2) K.out.2 K.out.1 HC.out _) ?_; rintro v7 w7 ⟨vs7,hp7⟩; have K7:=Lib.hid hp7; clear hp7))
         go_roundg (ws.length - (i+1))
         case measure=>omega
         case rel=>exact ⟨_,i+1,_,_,rfl,by go_num,by omega,Nat.le_refl _,(show Aside _ from K7.out)⟩
        | false =>
         rw [hl1] at HL
         have hcut : ∀ (w2 : World) (u : Value), Below wr.heap.size wr w2 → ownG w2 wr.heap.size 1 u pl.length (intC pl) → ∀ ty, ∃ v7 w7, (Builtin.append_ #[23, 23] ty #[.slice o1 m1 c1, u]).run Tryz.prog (w2.alloc (.cells #[.bool false, u] 39)).drew = .ok v7 w7 ∧ (∃ o m c, v7 = .slice o m c) ∧ w7.cell? ⟨g, kk * 2 + 1, none⟩ = some (.slice o1 m1 c1) ∧ w7.frozen? ⟨g, kk * 2 + 1, none⟩ = false ∧
             ∃ vs',PInv w1 ws (w7.setCell ⟨g,kk * 2+1,none⟩ v7) v (putW L (false,pl)) vs' (i+1):=fun w2 u hb2 hu ty=>by
          have h3:Below wr.heap.size wr (w2.alloc (.cells #[.bool false,u] 39)):=hb2.alloc hb2.size _
          have hu3:ownG (w2.alloc (.cells #[.bool false,u] 39)) wr.heap.size 1 u pl.length (intC pl):=hu.kept (World.grownBy_alloc w2 _ none) (Classical.em _)
          have hi3:=(I.out.deep.ins kk hxL hx).kept (grown_none h3 none) (Classical.em _)
          have e0:L[kk]=lastS L:=by rw [lastS_get (by omega)]; congr 1; omega
          rw [e0,hsh] at hi3
          have hlen:(lastS L).2.length≤2001:=by rw [← e0]; exact HSZ.out _ (List.getElem_mem hxL)
          have hpl:pl.length≤1001:=HP.out.2.1
          obtain ⟨v7,w7,q1,q2,q3,q4⟩:=app_G (w2.alloc (.cells #[.bool false,u] 39)).drew w1.heap.size (.slice o1 m1 c1) (lastS L).2 hi3 u pl (owns_hc hu3) (Nat.le_trans I.out.bel.size h3.size) (by omega) ty
          have q3:(w2.alloc (.cells #[.bool false,u] 39)).grownBy w7 (Value.slice o1 m1 c1).ownBlock:=grown_drew q3
          have hgl:=Nat.lt_of_lt_of_le hgw h3.size
          have hgne:some g≠(Value.slice o1 m1 c1).ownBlock:=fun e=>I.out.deep.out kk hx g (by rw [hsh]; exact e.symm) (by rw [hv]; rfl)
          have hkb:=q3.block g hgl hgne
          have hI:=I.out
          rw [hv] at hI
          refine ⟨v7,w7,q1,q2.shape3,?_,?_,?_⟩
          · rw [World.cell?_of_block (w:=w2.alloc (.cells #[.bool false,u] 39)) (a:=⟨g,kk * 2+1,none⟩) hkb]
            exact (HL.out w2 _ hb2).2
          · rw [World.frozen?_of_block (w:=w2.alloc (.cells #[.bool false,u] 39)) (a:=⟨g,kk * 2+1,none⟩) hkb,h3.frozen (p:=⟨g,kk * 2+1,none⟩) hgw]
            have:=I.out.deep.row
            rw [hv,hkk] at this
            exact this.frozenAt _
          · rw [hv]
            exact hI.glue hlt HP.out.1 HP.out.2.1 HP.out.2.2 hkk hx rfl hl1 h3 (by rw [hsh]; exact q3) q2 (by rw [hsh]; exact q4)
         have HA2:Aside _:=hcut
         clear hcut hl1 HLS
         subst hv
         clear hkk HA
         have mixed:Tryz.prog.follows Departure.mixedOrders=true:=by kernel_rfl
         go_wp2_with (first
          | (go_at_fn 26; refine h26.mono ?_; rintro r w2 ⟨b,v2,l,ok,rfl,ho2,hq,hb2⟩; obtain ⟨rfl⟩:b=false:=(congrArg (fun x:Seg×Bool=>x.1.1) (hq.1 (false,pl) HP.out.1)); obtain ⟨rfl⟩:l=pl:=(congrArg (fun x:Seg×Bool=>x.1.2) (hq.1 (false,pl) HP.out.1)); obtain ⟨rfl⟩:ok=true:=(congrArg (fun x:Seg×Bool=>x.2) (hq.1 (false,pl) HP.out.1)); obtain ⟨o2,m2,c2,rfl⟩:=ho2.shape3; obtain ⟨y0,y1⟩:=HL.out w2 (.cells #[.bool false,.slice o2 m2 c2] 39) hb2; have K:=Lib.hid (And.intro ho2 hb2); clear hb2 ho2 hq))
         go_region_law_o (refine step_append_ex (by rfl) _ _ 23 23 (by rfl) _ _ (by rfl) (by rfl) (HA2.out w2 _ K.out.2 K.out.1 _) ?_; rintro v7 w7 ⟨⟨o7,m7,c7,rfl⟩,z0,z1,vs7,hp7⟩; have K7:=Lib.hid hp7; clear hp7)
         all_goals
          go_wp2
          go_roundg (ws.length - (i+1))
          case measure=>omega
          case rel=>exact ⟨_,i+1,_,_,rfl,by go_num,by omega,Nat.le_refl _,(show Aside _ from K7.out)⟩
  · obtain rfl:i=ws.length:=by omega
    have hltz:¬ (ws.length:Int) < (ws.length:Int):=by omega
    have hfold:foldW ws []=some L:=by have:=I.out.fold; rw [List.drop_length] at this; exact this.symm
    have hm:Mid L:=⟨by have:=I.out.len; have:=HF.out.1; omega,fun p hp=>by have:=I.out.sz p hp; have:=HF.out.1; omega⟩
    have hv:=I.out.deep.hv
    have h22:=H17.out L v wr hbw hm hv
    have h9:=fun (hp:pvd L=true) (W:World) (hb:Below wr.heap.size wr W)=>H11.out L v W (hbw.trans (hb.mono hbw.size)) hp (hv_next hv hb)
    have HD:Aside (∀ W,Below wr.heap.size wr W→Deep W w.heap.size v L vs∧Below w.heap.size w W):=fun W hb=>⟨(I.out.deep.below hb).mono H1.out.2.size,hbw.trans (hb.mono hbw.size)⟩
    have HE:Aside (∀ W,Below wr.heap.size wr W→Below w.heap.size w W):=fun W hb=>hbw.trans (hb.mono hbw.size)
    have HNl:Aside (L=[]→v=.slice none 0 0):=I.out.nil
    clear hm hv
    have HFO:Aside (foldW ws []=some L):=hfold
    cases hp:pvd L with
    | false =>
     have HP:Aside (parseW (foldW ws []) s.data.toList=([],2)):=(by rw [hfold]; unfold parseW; simp [hp]:parseW (foldW ws []) s.data.toList=([],2))
     rw [hp] at h22
     clear h9 hp hfold
     go_wp2_with (go_at_fn 22; refine h22.mono ?_; rintro r w2 ⟨rfl,hb⟩; have K:=Lib.hid hb; clear hb)
     go_ret2
     unfold PaPost
     rw [HP.out]
     exact ⟨_,[],rfl,Deep.nil _ _,fun _=>rfl,HE.out _ K.out⟩
    | true =>
     rw [hp] at h22
     have h9:=h9 hp
     have H11b:Aside _:=h9
     clear h9
     by_cases he:prt L=s.data.toList
     · have HP:Aside (parseW (foldW ws []) s.data.toList=(L,0)∧prt L=s.data.toList):=⟨by rw [hfold]; unfold parseW; simp [hp,he],he⟩
       clear hp he hfold
       go_wp2_with (first
        | (go_at_fn 22; refine h22.mono ?_; rintro r w2 ⟨rfl,hb⟩; have K:=Lib.hid hb; clear hb)
        | (go_at_fn 9; refine (H11b.out _ K.out).mono ?_; rintro r w3 ⟨⟨t,rfl,ht⟩,hb⟩; obtain ⟨rfl⟩:t=s:=(by have:=ht.trans HP.out.2; cases t with | mk d=>cases s with | mk e=>congr 1; exact Array.ext' this); have K3:=Lib.hid (K.out.trans (hb.mono K.out.size)); clear hb ht))
       go_ret2
       unfold PaPost
       rw [HP.out.1]
       exact ⟨_,vs,rfl,(HD.out _ K3.out).1,HNl.out,HE.out _ K3.out⟩
     · have HP:Aside (parseW (foldW ws []) s.data.toList=([],2)∧prt L≠s.data.toList):=⟨by rw [hfold]; unfold parseW; simp [hp,he],he⟩
       clear hp he hfold
       go_wp2_with (first
        | (go_at_fn 22; refine h22.mono ?_; rintro r w2 ⟨rfl,hb⟩; have K:=Lib.hid hb; clear hb)
        | (go_at_fn 9; refine (H11b.out _ K.out).mono ?_; rintro r w3 ⟨⟨t,rfl,ht⟩,hb⟩; have hne:(t.toList==s.toList)=false:=(by rw [ByteArray.toList_eq,ByteArray.toList_eq,ht]; exact beq_eq_false_iff_ne.2 HP.out.2); have K3:=Lib.hid (K.out.trans (hb.mono K.out.size)); clear hb ht))
       go_ret2
       unfold PaPost
       rw [HP.out.1]
       exact ⟨_,[],rfl,Deep.nil _ _,fun _=>rfl,HE.out _ K3.out⟩
end Go.Proofs.YtajoneenakjifaaGreatDoor
