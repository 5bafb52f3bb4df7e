/- A word of a path, plainly: what 'word' comes to. -/
import Derived.Test.YtajoneenakjifaaGreatDoorHZC
import Derived.Test.YtajoneenakjifaaGreatDoorT36
import Derived.Lib.SpaceUEq
import Derived.Lib.Fields
import Derived.Shelf.Strings.FieldsAny
namespace Go.Proofs.YtajoneenakjifaaGreatDoor
open Go.VM Go.Txt
set_option maxRecDepth 10000
theorem parts_len (c:UInt8) (s:List UInt8):(parts c s).length≤s.length+1:=by
 rw [parts_length]
 have:=List.count_le_length (a:=c) (l:=s)
 omega
theorem join_mem_len (c:UInt8):∀ (l:List (List UInt8)) (x:List UInt8),x∈l→x.length≤(Lib.join l [c]).length
 | [],x,hx=>by cases hx
 | [a],x,hx=>by rw [Lib.join_one,List.mem_singleton.1 hx]; exact Nat.le_refl _
 | a::b::l,x,hx=>by
  rw [join_cons2,List.length_append,List.length_cons]
  rcases List.mem_cons.1 hx with rfl | hx
  · omega
  · have:=join_mem_len c (b::l) x hx; omega
theorem parts_each (c:UInt8) (s:List UInt8):∀ x∈parts c s,x.length≤s.length:=fun x hx=>by
 have:=join_mem_len c _ x hx
 rwa [join_parts] at this
theorem wdT_len (s:List UInt8):(wdT s).length≤s.length:=by
 unfold wdT
 split
 · simp; omega
 · exact Nat.le_refl _
theorem word_z (N:Nat) (hN:70000 < N) {s:List UInt8} (hs:s.length≤60000):Ok (Z.n26 (N+1) s) fun r=>(∀ p,wd s=some p→r=(p,true))∧(wd s=none→r.2=false):=by
 rw [Z.e26]
 have key:∀ (v5:Bool) (e:v5=isSet s),isSet s=v5:=fun v5 e=>e.symm
 have hlt:aJO s=(s.length:Int):=rfl
 refine ok_let ?_
 have hd:decide (aJO s > 2)=decide (2 < s.length):=by
  rw [hlt]; exact decide_eq_decide.2 ⟨fun h=>by omega,fun h=>by omega⟩
 rw [hd]
 have hx0:∀ b,b=decide (2 < s.length)→(bif b then aKH s 0 else some 0)=some (bif b then (iJ s).getD 0 0 else 0):=fun b hb=>by
  cases b with
  | false=>rfl
  | true =>
   have:=of_decide_eq_true hb.symm
   exact nIdxB_lt (i:=0) (by omega)
 refine ok_bind (hx0 _ rfl) (ok_let ?_)
 have hv2:(bif decide (2 < s.length) then ((bif decide (2 < s.length) then (iJ s).getD 0 0 else 0)==(123:Int)) else false)=(decide (2 < s.length)&&(iJ s).getD 0 0==123):=by cases decide (2 < s.length) <;> rfl
 rw [hv2]
 refine ok_let ?_
 have hx1:(bif (decide (2 < s.length)&&(iJ s).getD 0 0==123) then aKH s (IntKind.i64.wrap (aJO s - 1)) else some 0)=some (bif (decide (2 < s.length)&&(iJ s).getD 0 0==123) then (iJ s).getD (s.length - 1) 0 else 0):=by
  cases hb:(decide (2 < s.length)&&(iJ s).getD 0 0==123) with
  | false=>rfl
  | true =>
   rw [Bool.and_eq_true] at hb
   have:=of_decide_eq_true hb.1
   have e:IntKind.i64.wrap (aJO s - 1)=((s.length - 1:Nat):Int):=wv _ (by rw [hlt]; omega) (by omega) (by omega)
   rw [e]
   exact nIdxB_lt (by omega)
 refine ok_bind hx1 (ok_let ?_)
 have hv5:(bif (decide (2 < s.length)&&(iJ s).getD 0 0==123) then ((bif (decide (2 < s.length)&&(iJ s).getD 0 0==123) then (iJ s).getD (s.length - 1) 0 else 0)==(125:Int)) else false)=isSet s:=by
  unfold isSet
  cases (decide (2 < s.length)&&(iJ s).getD 0 0==123) <;> rfl
 rw [hv5]
 refine ok_join (fun p=>p=(wdT s,(false,([]:List Int)),isSet s,([]:List Int))) (fun p hp=>?_) fun j hj=>ok_if (fun h=>?_) fun h=>?_
 · subst hp
   have tl:=wdT_len s
   have hsp:Z.n27 N (wdT s,[44])=some (parts 44 (wdT s)):=by
    obtain ⟨N,rfl⟩:∃ k,N=k+1:=⟨N - 1,by omega⟩
    rw [Z.e27,← split_parts]
    exact aJA ⟨by omega,by simp⟩
   refine ok_bind hsp ?_
   have pl:=parts_len 44 (wdT s)
   have pe:=parts_each 44 (wdT s)
   unfold wd
   generalize parts 44 (wdT s)=ws at *
   refine ok_join (fun p=>∃ acc,wdN ws []=some acc∧p=((false,([]:List Int)),isSet s,acc)) (fun p hp=>?_) fun j hj=>?_
   · obtain ⟨acc,ha,rfl⟩:=hp
     refine ok_let (ok_some ?_)
     rw [ha]
     have e:(aJO acc==(1:Int))=(acc.length==1):=by
      unfold aJO
      by_cases h1:acc.length=1
      · rw [h1]; rfl
      · rw [beq_eq_false_iff_ne.2 h1]; exact beq_eq_false_iff_ne.2 (by omega)
     have e2:(bif isSet s then true else (aJO acc==(1:Int)))=(isSet s||acc.length==1):=by rw [e]; cases isSet s <;> rfl
     refine ⟨fun p hp=>?_,fun hp=>?_⟩
     · simp only at hp
       split at hp
       · rename_i h1
         cases hp
         show ((isSet s,acc),_)=_
         rw [e2,h1]
       · cases hp
     · simp only at hp
       split at hp
       · cases hp
       · rename_i h1
         show (bif isSet s then true else (aJO acc==(1:Int)))=false
         rw [e2]; simpa using h1
   · refine ok_loop (fun i a=>i≤ws.length∧∃ acc:List Int,acc.length≤i∧wdN (ws.drop i) acc=wdN ws []∧a=(((false,([]:List Int)),(isSet s,acc),ws,aJO ws,(i:Int)):((Bool×(List (Int)))×((Bool×(List (Int)))×(List (List UInt8)×(Int×Int)))))) ws.length (fun i a hI=>?_) ⟨Nat.zero_le _,[],Nat.le_refl _,rfl,rfl⟩ (by omega)
     obtain ⟨hi,acc,hal,he,rfl⟩:=hI
     refine ok_let (ok_if (fun h=>?_) fun h=>?_)
     · have hlt:i < ws.length:=by have:(i:Int) < aJO ws:=of_decide_eq_true h; unfold aJO at this; omega
       have hxl:=pe ws[i] (List.getElem_mem hlt)
       have hat:Z.n38 N ws[i]=some (aD4 ws[i]):=by
        obtain ⟨N,rfl⟩:∃ k,N=k+1:=⟨N - 1,by omega⟩
        rw [Z.e38]
        exact aJ7 (by omega)
       have hdr:ws.drop i=ws[i]::ws.drop (i+1):=List.drop_eq_getElem_cons hlt
       rw [hdr] at he
       refine ok_bind (aJo hlt) (ok_bind hat (ok_if (fun hb=>?_) fun hb=>?_))
       · have hb:(aD4 ws[i]).2=true:=by simpa using hb
         simp only [wdN,hb,if_true] at he
         exact ok_leave (ok_some ⟨(fun p hp=>by rw [← he] at hp; cases hp),fun _=>rfl⟩)
       · have hb:(aD4 ws[i]).2=false:=by simpa using hb
         simp only [wdN,hb,Bool.false_eq_true,if_false] at he
         refine ok_bind (aJm (by simp; omega) (by simp; omega)) (ok_let (ok_again hlt ⟨hlt,acc++[(aD4 ws[i]).1],by simp; omega,he,?_⟩))
         rw [wv ((i+1:Nat):Int) (show (i:Int)+1=((i+1:Nat):Int) by omega) (by omega) (by omega)]
     · have : i = ws.length := by
         have h:¬ ((i:Int) < aJO ws):=of_decide_eq_false h
         unfold aJO at h; omega
       subst this
       rw [List.drop_length] at he
       exact ok_leave (hj _ ⟨acc,he.symm,rfl⟩)
 · have h2 : 2 < s.length := by
     unfold isSet at h
     rw [Bool.and_eq_true,Bool.and_eq_true] at h
     exact of_decide_eq_true h.1.1
   refine ok_let ?_
   have e:IntKind.i64.wrap (aJO s - 1)=((s.length - 1:Nat):Int):=wv _ (by rw [hlt]; omega) (by omega) (by omega)
   rw [e]
   refine ok_bind (v:=(s.take (s.length - 1)).drop 1) ?_ (hj _ ?_)
   · unfold aI9
     rw [if_pos ⟨by omega,by omega,by omega⟩]; rfl
   · unfold wdT; rw [if_pos h,h]
 · refine hj _ ?_
   unfold wdT; rw [if_neg (by rw [h]; simp),h]
end Go.Proofs.YtajoneenakjifaaGreatDoor

/- 'word' as a contract: the row that it hands back is the caller's own. -/
namespace Go.VM
open Go.RowKit
variable {Ω:World→Prop}
/-- As calls_typed,and where the rows that are handed back lie. -/
theorem calls_own {P : Program} {F : Nat → Option Entry} (hF : rJ Ω P F) {f n : Nat} {ps : List PK} {rs : List (Ty × List (Nat × Bool))} {g : (Sg.a ⟨ps, rs, none⟩).den → Option (Sg.r ⟨ps, rs, none⟩).den} {vf : VF} (hf : F f = some (.code vf))
  (hty:wZ ⟨ps,rs,none⟩ [] (call F n f) g) (hp:∀ p∈ps,∃ u,p=.d u∧(u.agg=true∨u.size=1)) (hsz:gQ rs≤64) {W:World} (hΩ:∀ w':World,(∀ b,b < W.heap.size→w'.heap[b]?=W.heap[b]?)→Ω w') {Q:Nat→Prop}
  {x:(Sg.a ⟨ps,rs,none⟩).den} {r:(Sg.r ⟨ps,rs,none⟩).den} (hx:g x=some r) {cs:List Value} (hcs:HVs W Q (ps.map PK.ty) x cs) :
  Calls P f cs.toArray W fun e W'=>∃ rcs us vs G' lk,e=.returned (vT rcs)∧Below W.heap.size W W'∧iQ (rs.map Prod.fst) (eR (rs.map Prod.fst) (bD ps) r) us∧aB1 [] vs (gQ rs) rs us∧RelL W' (AtR G' lk W') G'.bxB us rcs∧∀ b nm,G'.Z b=.fam nm→W.heap.size≤b:=by
 obtain ⟨fn,hh,h1,h2⟩:=hF f _ hf
 obtain ⟨c,hb,_,_,_,_,_,hname⟩:=iY h2
 obtain ⟨vs,k1,k2⟩:=hvs_rel hp hcs
 have hst:Start Ω (tM W) W vs cs []:=by
  refine ⟨aFz W hΩ,fun b s c h=>?_,fun b nm h=>?_,k1,rfl,fun i ds hi=>by simp at hi⟩
  all_goals
   simp only [tM] at h
   split at h <;> cases h
 have hbp:gN ps vs=[]:=(dps (bx:=[]) fun p hp'=>(hp p hp').imp fun _ h=>h.1).1
 obtain ⟨v,bx',q1,_,_,_,_,⟨q2,q3⟩,q4,_⟩:=hty x r hx vs [] (k2 0) (by rw [hbp]; exact List.nodup_nil) rfl
 obtain ⟨q5,q6,_,q7⟩:=q4 rfl
 have h49:(cP v.results).all (· < 64)=true:=by
  rw [List.all_eq_true]
  intro j hj
  obtain ⟨c,hc,hj⟩:=aG0 hj
  obtain ⟨_,k4⟩:=sO q5 q6 c hc
  cases c with
  | sl l z m ds =>
   rcases k4 l z m ds rfl with rfl | ⟨j',f',rfl,hlt⟩ | ⟨_,_,_,_,_,_,hcon,_⟩
   · simp [V.news1,Lab.news] at hj
   · simp only [V.news1,Lab.news,List.mem_singleton] at hj
     subst hj
     exact decide_eq_true (Nat.lt_of_lt_of_le hlt hsz)
   · simp at hcon
  | ep l ds off =>
   have:=(sO q5 q6 _ hc).1
   exact this.elim
  | _=>simp [V.news1] at hj
 have hold:∀ k,k < W.heap.size→((tM W).Z k=.out∨∃ n,(tM W).Z k=.st n):=fun k _=>by
  simp only [tM]
  cases hw:W.heap[k]? with
  | none=>exact .inl rfl
  | some ob=>cases ob <;> exact .inr ⟨_,rfl⟩
 rcases aCn hF n f vs [] _ _ q1 h49 (tM W) W cs hst with ⟨_,h3⟩ | ⟨c',w',h3,_⟩
 · refine h3.mono fun e W' ⟨c',e1,rcs,G',lk,e2,hR⟩=>?_
   refine ⟨rcs,v.results,vs,G',lk,by rw [e1,e2],⟨hR.fr.os,hR.fr.tape,hR.fr.output,hR.fr.size,fun k hk=>(hR.fr.rest k hk (hold k hk)).1⟩,q5,q6,hR.res,fun b nm h=>?_⟩
   by_cases hlt:b < W.heap.size
   · have:=(hR.fr.rest b hlt (hold b hlt)).2
     rw [h] at this
     rcases hold b hlt with q | ⟨n,q⟩ <;> rw [q] at this <;> cases this
   · omega
 · exfalso
   unfold callFunc at h3
   have hp:(Go.program:Sem Program).run P W=.ok P W:=rfl
   rw [Sem.run_bind,hp,Result.andThen_ok,h1] at h3
   simp only at h3
   rw [if_neg (by rw [hname]; simp),if_neg (by rw [hb]; simp)] at h3
   cases h3
/-- A row of numbers that a function has handed back as the caller's own. -/
theorem own_row {W W':World} {G':Gh} {lk:Nat→Bool} {B:List Nat} {l:List Int} {x:V} {c:Value} (hfam:∀ b nm,G'.Z b=.fam nm→W.heap.size≤b) (h1:bP (.sl (.int .i64)) l [x]) (h2:∀ lb z m cs,x=.sl lb z m cs→∃ j,lb=.own j 0) (hr:Rel W' (AtR G' lk W') B x c):ownG W' W.heap.size 1 c l.length (intC l):=by
 rcases h1 with ⟨e,h0⟩ | ⟨lb,rs,e,h3,_⟩
 · cases e
   have h0:l=[]:=h0
   subst h0
   rw [hr.nils_inv]
   exact ownG_of (e:=3) (World.ownsRow_nil _ _ _ _)
 · cases e
   obtain ⟨j,rfl⟩:=h2 _ _ _ _ rfl
   obtain ⟨a,cap,xs,rfl,hA,hz,hxs,hcap,hmax,hrow,hrel,_⟩:=hr.sl_inv
   have e:xs=intC l:=hrows_ints (Q:=fun b=>b < W'.heap.size) (rows_hrows (fun x v c _ hv hx=>rel_hc hx hv) h3 hrel)
   subst e
   obtain ⟨⟨t1,t2,cur,te,⟨fr,t3,t4⟩,t5⟩,t6,t7⟩:=hA
   have hab:a.block=G'.famB (64+j):=by rw [t2]
   refine ⟨by rw [intC_len]; omega,.inr ⟨_,cap,cur,te,fr,by rw [t2],hfam _ _ (by rw [← hab]; exact t1),t3,t4,hcap,hmax,t5,?_⟩⟩
   have t5':cur.size=cap:=by have h:cur.size=cap * 1:=t5; omega
   have hcap':l.length≤cap:=hcap
   apply List.ext_getElem?
   intro k
   by_cases hk:k < l.length
   · have hk2:k < (intC l).length:=by rw [intC_len]; exact hk
     have hc:=hrow k _ (List.getElem?_eq_getElem hk2)
     rw [List.getElem?_take,if_pos (by omega),List.getElem?_eq_getElem hk2]
     rw [t2,show (Addr.add ⟨G'.famB (64+j),0,none⟩ k)=⟨G'.famB (64+j),k,none⟩ from by rw [Addr.add_lit,Nat.zero_add]] at hc
     simp only [World.cell?,t3] at hc
     simpa using hc
   · rw [List.getElem?_eq_none (by rw [List.length_take]; omega),List.getElem?_eq_none (by rw [intC_len]; omega)]
end Go.VM
namespace Go.Proofs.YtajoneenakjifaaGreatDoor
open Go.RowKit Go.Lib Go.VM
theorem word_calls {w : World} (hΩ : ∀ w' : World, (∀ b, b < w.heap.size → w'.heap[b]? = w.heap[b]?) → OmA w') (t : ByteArray) (ht : t.data.toList.length ≤ 60000) (W : World) (hb : Below w.heap.size w W) :
  Calls Tryz.prog 26 #[.string t] W fun e W'=>∃ b v l ok,e=.returned (.tuple #[.agg #[.bool b,v],.bool ok])∧ownG W' W.heap.size 1 v (l:List Int).length (intC l)∧((∀ p,wd t.data.toList=some p→((b,l),ok)=(p,true))∧(wd t.data.toList=none→ok=false))∧Below W.heap.size W W':=by
 have hty:wZ ⟨[.d .str],[(tyS,[(1,true)]),(.bool,[])],none⟩ [] (call Z.FT 70003 26) (nfN Z.TN 70003 26):=by
  have h:=Z.typed 70003 26
  unfold aF7 at h
  rw [Z.sigOk 26] at h
  exact h
 obtain ⟨⟨⟨b,l⟩,ok⟩,hx,hq⟩:=word_z 70002 (by decide) ht
 refine (calls_own (Z.tableOk) (f:=26) (ps:=[.d .str]) (rs:=[(tyS,[(1,true)]),(.bool,[])]) (vf:=Z.vf26) rfl hty (fun p hp=>by
  simp only [List.mem_cons,List.not_mem_nil,or_false] at hp
  exact ⟨_,hp,.inr rfl⟩) (by decide) (zOm hΩ hb) (Q:=fun _=>True) hx ⟨_,_,rfl,⟨⟨t,rfl,rfl⟩,rfl⟩,rfl⟩).mono fun e W' ⟨rcs,us,vs,G',lk,e1,e2,e3,e4,e5,e6⟩=>?_
 obtain ⟨u1,us1,rfl,h1,u2,us2,rfl,h2,e0⟩:=e3
 have e0:us2=[]:=e0
 subst e0
 cases e5 with
 | cons _ c1 _ cs1 r1 r2=>cases r2 with
  | cons _ c2 _ cs2 r2 r3 =>
   cases r3
   obtain ⟨x1,rs1,e7,hc1,_⟩:=e4
   cases e7
   have h2:u2.cells=[.bool ok]∧_:=h2
   have hu2:u2=.bool ok:=by
    have hcell:=aG (t:=.bool) (x:=ok) (v:=u2) h2
    cases u2 with
    | bool q=>have:=h2.1; simp [V.cells] at this; rw [this]
    | agg q=>have:=h2.2; cases this
    | _=>have:=h2.1; simp [V.cells] at this
   subst hu2
   have hcc2:=r2.bool_inv
   obtain ⟨hb1,hb2⟩:=h1
   cases u1 with
   | agg cells =>
    obtain ⟨ca,cb,ec,hca,hcb⟩:=hb1
    have ec:cells=ca++cb:=ec
    have hca:ca=[.bool b]:=hca
    subst hca
    have hl:=aF hcb
    match cb,hl with
    | [x],_ =>
     subst ec
     cases r1 with
     | agg _ xs hxs =>
      have hxl:=hxs
      generalize hxsl:xs.toList=xl at hxs
      cases hxs with
      | cons _ d1 _ ds1 q1 q2=>cases q2 with
       | cons _ d2 _ ds2 q2 q3 =>
        cases q3
        have hd1:=q1.bool_inv
        subst hd1
        refine ⟨b,d2,l,ok,?_,own_row e6 hcb (fun lb z m cs hx=>?_) q2,hq,e2⟩
        · have:xs=#[.bool b,d2]:=Array.ext' hxsl
          rw [e1,this,hcc2]; rfl
        · have:=hc1 1 x rfl
          rw [hx] at this
          exact (this.2 true rfl).2 rfl
   | _=>exact absurd hb2 (by simp [V.isAgg,tyS,Ty.agg])
end Go.Proofs.YtajoneenakjifaaGreatDoor

/- Words put to a path, plainly: what the walk of Parse keeps. -/
namespace Go.Proofs.YtajoneenakjifaaGreatDoor
open Go.VM Go.Txt
set_option maxRecDepth 10000
theorem fieldsU_len:∀ (f:Nat) (cur l:List UInt8),(Lib.fieldsGoU f cur l).length≤cur.length+l.length∧∀ w∈Lib.fieldsGoU f cur l,w.length≤cur.length+l.length
 | 0,cur,l=>by
  unfold Lib.fieldsGoU
  split
  · exact ⟨Nat.zero_le _,fun w hw=>by cases hw⟩
  · rename_i h
    have:=List.length_pos_iff.2 h
    exact ⟨by simp; omega,fun w hw=>by rw [List.mem_singleton.1 hw]; omega⟩
 | f+1,cur,[]=>by
  unfold Lib.fieldsGoU
  split
  · exact ⟨Nat.zero_le _,fun w hw=>by cases hw⟩
  · rename_i h
    have:=List.length_pos_iff.2 h
    exact ⟨by simp; omega,fun w hw=>by rw [List.mem_singleton.1 hw]; omega⟩
 | f+1,cur,b::t=>by
  unfold Lib.fieldsGoU
  split
  · obtain ⟨h1,h2⟩:=fieldsU_len f (cur++[b]) t
    simp only [List.length_append,List.length_cons,List.length_nil] at h1 h2 ⊢
    exact ⟨by omega,fun w hw=>by have:=h2 w hw; omega⟩
  · rename_i hh
    obtain ⟨h1,h2⟩:=fieldsU_len f [] ((b::t).drop (Lib.headSpace (b::t)))
    simp only [List.length_drop,List.length_nil] at h1 h2
    have hc:((if cur=[] then [] else [cur]):List (List UInt8)).length≤cur.length∧∀ w∈((if cur=[] then [] else [cur]):List (List UInt8)),w.length≤cur.length:=by
     split
     · exact ⟨Nat.zero_le _,fun w hw=>by cases hw⟩
     · rename_i h
       have:=List.length_pos_iff.2 h
       exact ⟨by simp; omega,fun w hw=>by rw [List.mem_singleton.1 hw]; omega⟩
    rw [List.length_append]
    refine ⟨by omega,fun w hw=>?_⟩
    rcases List.mem_append.1 hw with hw | hw
    · have:=hc.2 w hw; omega
    · have:=h2 w hw; omega
theorem fields_len (s:List UInt8):(Lib.fieldsD s).length≤s.length∧∀ w∈Lib.fieldsD s,w.length≤s.length:=by
 rw [← Lib.fieldsU_eq]
 have:=fieldsU_len (s.length+1) [] s
 simpa [Lib.fieldsU] using this
theorem wdN_len:∀ (ws:List (List UInt8)) (acc l:List Int),wdN ws acc=some l→l.length=acc.length+ws.length
 | [],acc,l,h=>by cases h; simp
 | x::r,acc,l,h=>by
  unfold wdN at h
  split at h
  · cases h
  · have:=wdN_len r _ l h
    simp at this ⊢; omega
theorem parts_pos (c:UInt8) (s:List UInt8):0 < (parts c s).length:=by rw [parts_length]; omega
theorem wd_facts {s:List UInt8} {p:Seg} (h:wd s=some p):0 < p.2.length∧p.2.length≤s.length+1∧(p.1=false→p.2.length=1):=by
 unfold wd at h
 split at h
 · cases h
 · rename_i l hl
   have h1:=wdN_len _ _ _ hl
   have h2:=parts_len 44 (wdT s)
   have h3:=wdT_len s
   have h4:=parts_pos 44 (wdT s)
   simp at h1
   split at h
   · rename_i h5
     cases h
     refine ⟨by show 0 < l.length; omega,by show l.length≤_; omega,fun h6=>?_⟩
     have h6:isSet s=false:=h6
     rw [h6] at h5
     simpa using h5
   · cases h
theorem lastS_get {L:List Seg} (h:0 < L.length):lastS L=L[L.length - 1]'(by omega):=by
 unfold lastS
 rw [List.getD,List.getElem?_eq_getElem (by omega)]; rfl
theorem putW_len (L:List Seg) (p:Seg):(putW L p).length≤L.length+1:=by
 unfold putW
 split <;> simp
theorem putW_ne (L:List Seg) (p:Seg):putW L p≠[]:=by
 unfold putW
 split
 · rename_i h
   simp only [Bool.and_eq_true,decide_eq_true_eq] at h
   intro e
   have:=congrArg List.length e
   simp at this
   rw [this] at h; simp at h
 · simp
theorem putW_sz {L:List Seg} {p:Seg} {i:Nat} (h:∀ q∈L,q.2.length≤1001+i) (hp:p.2.length≤1001) (h1:p.1=false→p.2.length=1):∀ q∈putW L p,q.2.length≤1001+(i+1):=by
 unfold putW
 intro q hq
 split at hq
 · rename_i hc
   simp only [Bool.and_eq_true,decide_eq_true_eq,Bool.not_eq_true'] at hc
   rcases List.mem_or_eq_of_mem_set hq with hq | rfl
   · have:=h q hq; omega
   · have h2:=h (lastS L) (by rw [lastS_get hc.1.1]; exact List.getElem_mem _)
     have h3:=h1 hc.1.2
     show ((lastS L).2++p.2).length≤_
     rw [List.length_append]; omega
 · rcases List.mem_append.1 hq with hq | hq
   · have:=h q hq; omega
   · rw [List.mem_singleton.1 hq]; omega
end Go.Proofs.YtajoneenakjifaaGreatDoor
