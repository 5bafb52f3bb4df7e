/- Walked by hand: the document's Copy. -/
import Derived.Test.YtajoneenakjifaaDoorHPX
namespace Go.Proofs.YtajoneenakjifaaDoor
open Go.RowKit Go.Lib Go.VM
/-- As app_G,onto nil. -/
theorem app_nil (W : World) (base : Nat) (u : Value) (l : List Int) (hu : HC W (fun b => b < W.heap.size) (.sl (.int .i64)) l [u]) (hbase : base ≤ W.heap.size) (hb : l.length ≤ 1000000) (ty : TypeId) :
  ∃ v' w',(Builtin.append_ #[22,22] ty #[.slice none 0 0,u]).run Tryd.prog W=.ok v' w'∧ownG w' base 1 v' l.length (intC l)∧Below W.heap.size W w'∧(l=[]→v'=.slice none 0 0)∧∀ k,v'.ownBlock=some k→W.heap.size≤k:=by
 obtain ⟨i0,hi0,hz0,hzs,hzb⟩:=info_parts info_i
 rcases hc_slice hu with ⟨rfl,rfl⟩ | ⟨a,cap,rows,rfl,h1,h2,h3,h4,h5⟩
 · have : (Builtin.append_ #[22, 22] ty #[.slice none 0 0, .slice none 0 0]).run Tryd.prog W = .ok (.slice none 0 0) W := by
     simp [Builtin.append_,run_underlying Tryd.underlying22,sizeOf,typeInfo,hi0,Builtin.lenOf,Builtin.firstCells]
   exact ⟨_,W,this,ownG_of (e:=3) (World.ownsRow_nil _ _ _ _),Below.refl _ _,fun _=>rfl,fun k hk=>by cases hk⟩
 · have e:=hrows_ints h4
   subst e
   obtain ⟨v',w',q1,q2,q3,q4,q5⟩:=run_append_own_at (P:=Tryd.prog) W base 22 ty 3 i0 (.int .i64 0) 1 8 Tryd.underlying22 hi0 hz0 hzs hzb rfl (by decide) (.slice none 0 0) 0 [] (World.ownsRow_nil _ _ _ _) a l.length cap (intC l) (by rw [intC_len]; omega) h3 (intC_one l) (by unfold maxLen; omega) (by omega) hbase
   refine ⟨v',w',q1,?_,⟨q3.os,q3.tape,q3.output,q3.size,fun k hk=>q3.block k hk (by simp [Value.ownBlock])⟩,fun h=>q4.2 ⟨rfl,by rw [h]; rfl⟩,fun k hk=>?_⟩
   · have:=ownG_of q2
     rw [Nat.zero_add,List.nil_append] at this
     exact this
   · rcases q5 with q | q
     · rw [hk] at q; cases q
     · rw [hk] at q; cases q; exact Nat.le_refl _
structure CpInv (w0 wr:World) (v:Value) (L:List Seg) (vs:List Value) (i:Nat):Prop where
 deep:Deep wr w0.heap.size v (L.take i) vs
 nil:∀ j (hj:j < (L.take i).length) (hj':j < vs.length),(L.take i)[j].2=[]→vs[j]=.slice none 0 0
 out:v=.slice none 0 0↔i=0
 bel:Below w0.heap.size w0 wr
theorem CpInv.step {w0 wr w2 w' : World} {v v' u : Value} {L : List Seg} {vs : List Value} {i : Nat} (h : CpInv w0 wr v L vs i) (hi : i < L.length) (hb2 : Below wr.heap.size wr w2) (hu : ownG w2 wr.heap.size 1 u L[i].2.length (intC L[i].2)) (hun : L[i].2 = [] → u = .slice none 0 0)
  (ho:w'.ownsRow w0.heap.size 36 2 v' ((L.take i).length+1) (segC (L.take i) vs++[.bool L[i].1,u])) (hg:w2.grownBy w' v.ownBlock) (hat:v'.ownBlock=v.ownBlock∨v'.ownBlock=some w2.heap.size) (hn:v'≠.slice none 0 0) :
  ∃ vs',CpInv w0 w' v' L vs' (i+1):=by
 have hD:=h.deep.below hb2
 have hub:∀ k,u.ownBlock=some k→wr.heap.size≤k:=fun k hk=>(hu.lt k hk).1
 have d1:=hD.push (b:=L[i].1) (l:=L[i].2) (u:=u) (w':=w') (v':=v') (hu.mono h.bel.size) (fun j hj k hk e=>by
  have q1:=((h.deep.ins j (by rw [← h.deep.len]; exact hj) hj).lt k hk).2
  have:=hub k e; omega) (fun k hk e=>by
  have q1:=(World.ownsRow.lt h.deep.row k e).2
  have:=hub k hk; omega) ho hg (hat.imp id fun q=>⟨_,q,Nat.le_refl _⟩)
 have et:L.take (i+1)=L.take i++[(L[i].1,L[i].2)]:=List.take_succ_eq_append_getElem hi
 have hb:Below w0.heap.size w0 w2:=h.bel.trans (hb2.mono h.bel.size)
 refine ⟨vs++[u],by rw [et]; exact d1,fun j hj hj' h0=>?_,⟨fun e=>absurd e hn,fun e=>by omega⟩,hb.grown hg hb.size fun j hj=>(World.ownsRow.lt h.deep.row j hj).1⟩
 have hl:=h.deep.len
 by_cases hlt:j < vs.length
 · rw [List.getElem_append_left hlt]
   refine h.nil j (by rw [← hl]; exact hlt) hlt ?_
   rw [← h0]
   simp only [et]
   rw [List.getElem_append_left]
 · have e0:j=vs.length:=by simp at hj'; omega
   have e1:(vs++[u])[j]=u:=by subst e0; simp
   rw [e1]
   refine hun ?_
   rw [← h0]
   have e2:j=(L.take i).length:=by rw [e0,hl]
   simp only [et]
   subst e2
   simp
/-- What a copy comes to. -/
def CpPost (w:World) (L:List Seg) (r:Ending) (w':World):Prop:=∃ v' vs,r=.returned v'∧CpInv w w' v' L vs L.length
set_option maxHeartbeats 8000000 in
set_option maxRecDepth 100000 in
theorem copy_walk (L : List Seg) (a : Option Addr) (n cap : Nat) (w : World) (hv : HV w (fun b => b < w.heap.size) (.sl tyS) L (.slice a n cap)) (hm : Mid L) :
  Calls Tryd.prog 41 #[.slice a n cap] w (CpPost w L):=by
 have u23:∀ w,Sem.run Tryd.prog (underlying 23) w=.ok (TypeDesc.slice 36) w:=run_underlying Tryd.underlying23
 rcases hc_slice (hv_one hv rfl) with ⟨h0,q⟩ | ⟨ad,cap',rows,q,h1,h2,h3,h4,h5⟩
 · cases q
   have h0:L=[]:=h0
   subst h0
   clear hv hm
   go_enter Tryd.func41,Tryd.ntmps41
   go_wp2
   go_loopg [3,5,8] 0 (fun _ s3 _ s8 wr=>s3=.slice none 0 0∧s8=.int .i64 0∧w=wr)
   case atStart=>exact ⟨rfl,rfl,rfl⟩
   case round =>
    obtain ⟨rfl,rfl,rfl⟩:=hrel
    go_wp2
    go_ret
    exact ⟨_,[],rfl,Deep.nil _ _,fun j hj=>by simp at hj,⟨fun _=>rfl,fun _=>rfl⟩,Below.refl _ _⟩
 · cases q
   obtain ⟨us,k1,rfl,k3⟩:=hrows_seg h4
   have hrd:∀ wr i,Below w.heap.size w wr→(hi:i < L.length)→∃ (b:Bool) (o:Option Addr) (m c:Nat),L[i].1=b∧wr.cell? (ad.add (i * 2))=some (.bool b)∧wr.cell? ⟨(ad.add (i * 2)).block,(ad.add (i * 2)).off+1,none⟩=some (.slice o m c)∧HC wr (fun b=>b < wr.heap.size) (.sl (.int .i64)) L[i].2 [.slice o m c]:=fun wr i hb hi=>by
    have hu:i < us.length:=by rw [k1]; exact hi
    have hk:=k3 i hi hu
    have hsh:∃ o m c,us[i]=Value.slice o m c:=by
     rcases hc_slice hk with ⟨_,e⟩ | ⟨_,_,_,e,_⟩ <;> exact ⟨_,_,_,e⟩
    obtain ⟨o,m,c,e⟩:=hsh
    have hne:segC L us≠[]:=fun e=>by
     have:=segC_len k1
     rw [e] at this; simp at this; omega
    have hbk:=hb.block ad.block (h5 hne)
    have c0:=h3 _ _ (segC_get0 k1 hi)
    have c1:=h3 _ _ (segC_get1 k1 hu)
    refine ⟨_,o,m,c,rfl,?_,?_,?_⟩
    · rw [World.cell?_of_block (w:=w) (by rw [bM]; exact hbk)]; exact c0
    · have ea:(⟨(ad.add (i * 2)).block,(ad.add (i * 2)).off+1,none⟩:Addr)=ad.add (i * 2+1):=Addr.add_add ad (i * 2) 1
      rw [ea,World.cell?_of_block (w:=w) (by rw [bM]; exact hbk),c1,e]
    · rw [e] at hk
      exact hc_mono (fun b h=>Nat.lt_of_lt_of_le h hb.size) (fun a rows hr hq=>by
       by_cases h0:rows=[]
       · subst h0; intro j u hu; simp at hu
       · exact hr.keep fun j _=>World.cell?_of_block (by rw [bM]; exact hb.block _ (hq h0))) hk
   have HR:Aside _:=hrd
   have HM:Aside (Mid L):=hm
   clear hrd hv hm h4 h5 h3 k3
   go_enter Tryd.func41,Tryd.ntmps41
   go_wp2
   go_loopg [3,5,8] L.length (fun gg s3 _ s8 wr=>∃ (v:Value) (i:Nat) (vs:List Value),v=s3∧s8=.int .i64 i∧i≤L.length∧L.length - i≤gg∧Aside (CpInv w wr v L vs i))
   case atStart=>exact ⟨_,0,[],rfl,rfl,by omega,by omega,⟨Deep.nil _ _,fun j hj=>by simp at hj,⟨fun _=>rfl,fun _=>rfl⟩,Below.refl _ _⟩⟩
   case round =>
    obtain ⟨v,i,vs,rfl,rfl,hil,hgg,I⟩:=hrel
    by_cases hlt:i < L.length
    · have hltz:(i:Int) < (L.length:Int):=by omega
      obtain ⟨b,o,m,c,eb,l0,l1,hc⟩:=HR.out wr i I.out.bel hlt
      have hwB:Below wr.heap.size wr (wr.alloc (.cells #[.bool b,.slice o m c] 36)):=(Below.refl _ _).alloc (Nat.le_refl _) _
      have hszB:(wr.alloc (.cells #[.bool b,.slice o m c] 36)).heap.size=wr.heap.size+1:=Array.size_push _
      have hlen:L[i].2.length≤100000:=HM.out.2 _ (List.getElem_mem hlt)
      have hlL:L.length≤1000:=HM.out.1
      have H1:Aside (∀ ty,∃ v7 w7,(Builtin.append_ #[22,22] ty #[.slice none 0 0,.slice o m c]).run Tryd.prog (wr.alloc (.cells #[.bool b,.slice o m c] 36)).drew=.ok v7 w7∧(ownG w7 wr.heap.size 1 v7 L[i].2.length (intC L[i].2)∧Below wr.heap.size wr w7∧(L[i].2=[]→v7=.slice none 0 0)∧w7.cell? ⟨wr.heap.size,0,none⟩=some (.bool b))):=fun ty=>by
       have hc3:HC (wr.alloc (.cells #[.bool b,.slice o m c] 36)).drew (fun b'=>b' < (wr.alloc (.cells #[.bool b,.slice o m c] 36)).drew.heap.size) (.sl (.int .i64)) L[i].2 [.slice o m c]:=hc_mono (fun b' h=>by rw [heap_drew,hszB]; omega) (fun a rows hr hq=>by
        by_cases h0:rows=[]
        · subst h0; intro j u hu; simp at hu
        · exact hr.keep fun j _=>World.cell?_of_block (by rw [bM,heap_drew]; exact hwB.block _ (hq h0))) hc
       obtain ⟨v7,w7,q1,q2,q3,q4,q5⟩:=app_nil (wr.alloc (.cells #[.bool b,.slice o m c] 36)).drew wr.heap.size (.slice o m c) L[i].2 hc3 (by rw [heap_drew]; exact hwB.size) (by omega) ty
       have q3':Below (wr.alloc (.cells #[.bool b,.slice o m c] 36)).heap.size (wr.alloc (.cells #[.bool b,.slice o m c] 36)) w7:=⟨q3.os,q3.tape,q3.output,q3.size,q3.block⟩
       exact ⟨v7,w7,q1,q2,hwB.trans (q3'.mono hwB.size),q4,by rw [q3'.cell (p:=⟨wr.heap.size,0,none⟩) (by rw [hszB]; exact Nat.lt_succ_self _)]; exact World.cell?_alloc_at (w:=wr) #[.bool b,.slice o m c] 36 wr.heap.size 0 rfl⟩
      have H2:Aside (∀ (w7:World) (v7:Value),ownG w7 wr.heap.size 1 v7 L[i].2.length (intC L[i].2)→Below wr.heap.size wr w7→(L[i].2=[]→v7=.slice none 0 0)→∀ ty,∃ v8 w8,(Builtin.append_ #[23,23] ty #[v,.slice (some ⟨w7.heap.size,0,none⟩) 1 1]).run Tryd.prog (w7.alloc (.cells #[.bool b,v7] 36))=.ok v8 w8∧∃ vs',CpInv w w8 v8 L vs' (i+1)):=fun w7 v7 hu hb hun ty=>by
       obtain ⟨i0,hi0,hz0,hzs,hzb⟩:=info_parts info_e
       have h3:Below wr.heap.size wr (w7.alloc (.cells #[.bool b,v7] 36)):=hb.alloc hb.size _
       have hu3:ownG (w7.alloc (.cells #[.bool b,v7] 36)) wr.heap.size 1 v7 L[i].2.length (intC L[i].2):=hu.kept (World.grownBy_alloc w7 _ none) (Classical.em _)
       have hD:=I.out.deep.below h3
       have htl:(L.take i).length=i:=by rw [List.length_take]; omega
       obtain ⟨v8,w8,q1,q2,q3,q4,q5⟩:=run_append_own_at (P:=Tryd.prog) (w7.alloc (.cells #[.bool b,v7] 36)) w.heap.size 23 ty 36 i0 (.agg #[.bool false,.slice none 0 0]) 2 32 Tryd.underlying23 hi0 hz0 hzs hzb rfl (by decide) v (L.take i).length (segC (L.take i) vs) hD.row ⟨w7.heap.size,0,none⟩ 1 1 [.bool b,v7] rfl
        (fun j x hj=>by
         rw [Addr.add_lit,Nat.zero_add]
         simp only [World.cell?]
         rw [heap_alloc_new w7 (.cells #[.bool b,v7] 36)]
         simpa using hj)
        (fun x hx=>by simp at hx; rcases hx with rfl | rfl; rfl; exact hu.one) (by unfold maxLen; omega) (by omega) (Nat.le_trans I.out.bel.size h3.size)
       subst eb
       exact ⟨v8,w8,q1,I.out.step hlt h3 hu3 hun q2 q3 q5 (fun e=>by have:=(q4.1 e).2; omega)⟩
      have mixed:Tryd.prog.follows Departure.mixedOrders=true:=by kernel_rfl
      clear hc
      go_wp2
      go_region_law_o (first
       | (refine step_append_ex (by rfl) _ _ 22 22 (by rfl) _ _ (by rfl) (by rfl) (H1.out _) ?_; rintro v7 w7 ⟨ho7,hb7,hn7,z0⟩; obtain ⟨o7,m7,c7,rfl⟩:=ho7.shape3; have K7:=Lib.hid (And.intro ho7 (And.intro hb7 hn7)); clear ho7 hb7 hn7)
       | (refine step_append_ex (by rfl) _ _ 23 23 (by rfl) _ _ (by rfl) (by rfl) (H2.out _ _ K7.out.1 K7.out.2.1 K7.out.2.2 _) ?_; rintro v8 w8 ⟨vs8,hp8⟩; have K8:=Lib.hid hp8; clear hp8))
      all_goals
       go_wp2
       go_roundg (L.length - (i+1))
       case measure=>omega
       case rel=>exact ⟨_,i+1,_,rfl,by go_num,by omega,Nat.le_refl _,(show Aside _ from K8.out)⟩
    · obtain rfl:i=L.length:=by omega
      have hltz:¬ (L.length:Int) < (L.length:Int):=by omega
      go_wp2
      go_ret
      unfold CpPost
      exact ⟨_,vs,rfl,I.out⟩
end Go.Proofs.YtajoneenakjifaaDoor
