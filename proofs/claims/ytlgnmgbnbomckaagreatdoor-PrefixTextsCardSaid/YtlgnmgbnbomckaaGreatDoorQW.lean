/- Chapter 01, plainly: texts read, the whole. -/
import Derived.Test.YtlgnmgbnbomckaaGreatDoorQV
namespace Go.Proofs.YtlgnmgbnbomckaaGreatDoor
open Go.VM Go.Txt
set_option maxRecDepth 10000
def F6 (last:Bool) (ps:List (List UInt8)) (i:Nat) (acc:List Int):Option (List Int) :=
 match (if last=true∧i+1=ps.length then four (ps.getD i []) else none) with
 | some q=>some (acc++[q / 65536,q % 65536])
 | none=>(dig (ps.getD i [])).map fun v=>acc++[v]
def list6 (last:Bool) (t:List UInt8):Option (List Int):=if t=[] then some [] else runF (F6 last (parts 58 t)) (parts 58 t).length 0 []
def G16 (l:List Int):Prop:=∀ g∈l,0≤g∧g < 65536
theorem G16.app {l m:List Int} (h:G16 l) (h2:G16 m):G16 (l++m):=fun g hg=>by
 rcases List.mem_append.1 hg with hg | hg
 · exact h g hg
 · exact h2 g hg
noncomputable def b61 (N:Nat):(Bool×(List (Int)×(List (List UInt8)×(List (List UInt8)×(Int×Int)))))→Option ((Bool×(List (Int)×(List (List UInt8)×(List (List UInt8)×(Int×Int))))) ⊕ (List Int×Bool)):=fun (p3:(Bool×(List (Int)×(List (List UInt8)×(List (List UInt8)×(Int×Int)))))) =>
 aJy (decide (p3.2.2.2.2.2 < p3.2.2.2.2.1)) fun v4 =>
 bif v4 then (aBJ (fun (p5:(Bool×(List (Int)×(List (List UInt8)×(List (List UInt8)×(Int×Int)))))) =>
 aJy (IntKind.i64.wrap (p5.2.2.2.2.2+(1:Int))) fun v7 =>
 tN (p5.1,p5.2.1,p5.2.2.1,p5.2.2.2.1,p5.2.2.2.2.1,v7)) fun j6 =>
 (aEU p3.2.2.2.1 p3.2.2.2.2.2).bind fun v8 =>
 (n67 N v8).bind fun v9 =>
 aJy (bif v9.2 then p3.1 else false) fun v10 =>
 aJy (IntKind.i64.wrap ((aJO p3.2.2.1) - (1:Int))) fun v11 =>
 aJy (bif v10 then (p3.2.2.2.2.2==v11) else false) fun v12 =>
 bif v12 then (aJy (aJP IntKind.u64 v9.1.2.2 16) fun v13 =>
 aJy (bits .and IntKind.u64 v9.1.2.2 (65535:Int)) fun v14 =>
 (aH3 8 p3.2.1 ([v13,v14]:List (Int))).bind fun v15 =>
 j6 (p3.1,v15,p3.2.2.1,p3.2.2.2.1,p3.2.2.2.2.1,p3.2.2.2.2.2)) else ((n115 N v8).bind fun v16 =>
 bif (!v16.2) then (lJ (some (([]:List (Int)),false))) else ((aH3 8 p3.2.1 ([v16.1]:List (Int))).bind fun v17 =>
 j6 (p3.1,v17,p3.2.2.1,p3.2.2.2.1,p3.2.2.2.2.1,p3.2.2.2.2.2)))) else (lJ (some (p3.2.1,true)))
theorem list6_eq (N:Nat) {t:List UInt8} (ht:t.length≤100000) (hN:t.length < N) (last:Bool):n89 (N+30) (t,last)=some (match list6 last t with | some l=>(l,true) | none=>([],false))∧∀ l,list6 last t=some l→G16 l∧l.length≤200002:=by
 rw [e89]
 by_cases h0:t=[]
 · subst h0
   exact ⟨rfl,fun l hl=>by cases hl; exact ⟨fun g hg=>(List.not_mem_nil hg).elim,Nat.zero_le _⟩⟩
 have hsp:n88 (N+29) (t,[58])=some (parts 58 t):=by rw [e88,← split_parts]; exact aJA ⟨by omega,by simp⟩
 have e:list6 last t=runF (F6 last (parts 58 t)) (parts 58 t).length 0 []:=if_neg h0
 rw [e]
 have hpl:(parts 58 t).length≤100001∧(parts 58 t).length≤t.length+1:=by
  rw [parts_length]
  have:=List.count_le_length (a:=(58:UInt8)) (l:=t)
  omega
 have key := loopN_F (body := b61 (N + 29)) (F6 last (parts 58 t)) (fun i acc => G16 acc ∧ acc.length ≤ 2 * i) (fun i acc => (last, acc, parts 58 t, parts 58 t, aJO (parts 58 t), (i : Int))) (parts 58 t).length (([] : List Int), false) (fun acc => (acc, true)) (fun i hi acc hP => by
     obtain ⟨hG,hL⟩:=hP
     have hd:((i:Int) < aJO (parts 58 t)):=by unfold aJO; omega
     have hx:aEU (parts 58 t) (i:Int)=some ((parts 58 t).getD i []):=by
      rw [aJo (by omega),List.getD,List.getElem?_eq_getElem (by omega)]; rfl
     have hm:(parts 58 t).getD i []∈parts 58 t:=by
      rw [List.getD,List.getElem?_eq_getElem (by omega)]; exact List.getElem_mem _
     have hl:=parts_len hm
     have hF:F6 last (parts 58 t) i acc=(match (if last=true∧i+1=(parts 58 t).length then four ((parts 58 t).getD i []) else none) with
      | some q=>some (acc++[q / 65536,q % 65536])
      | none=>(dig ((parts 58 t).getD i [])).map fun v=>acc++[v]):=rfl
     rw [hF]
     generalize (parts 58 t).getD i []=w at *
     obtain ⟨h44,r44⟩:=four_eq (N+9) (t:=w) (by omega)
     obtain ⟨h78,r78⟩:=dig_eq (N+9) w
     have hlen:IntKind.i64.wrap (aJO (parts 58 t) - 1)=((parts 58 t).length:Int) - 1:=pV (by unfold aJO; omega) (by unfold aJO; omega)
     have hw:IntKind.i64.wrap ((i:Int)+1)=(i:Int)+1:=pV (by omega) (by omega)
     -- a part in hex
     have hexCase : (bif (bif (match four w with | some v => (((false, 0, v) : Ad), true) | none => ((false, 0, 0), false)).2 then last else false) then ((i : Int) == ((parts 58 t).length : Int) - 1) else false) = false →
         (∀ b,((dig w).map fun v=>acc++[v])=some b→(G16 b∧b.length≤2 * (i+1))∧b61 (N+29) (last,acc,parts 58 t,parts 58 t,aJO (parts 58 t),(i:Int))=some (Sum.inl (last,b,parts 58 t,parts 58 t,aJO (parts 58 t),((i+1:Nat):Int))))∧(((dig w).map fun v=>acc++[v])=none→b61 (N+29) (last,acc,parts 58 t,parts 58 t,aJO (parts 58 t),(i:Int))=some (Sum.inr (([]:List Int),false))):=fun h12=>by
      refine ⟨fun b hb=>?_,fun hb=>?_⟩
      · obtain ⟨v,hv,rfl⟩:=Option.map_eq_some_iff.1 hb
        refine ⟨⟨hG.app fun g hg=>by rw [List.mem_singleton.1 hg]; exact r78 v hv,by rw [List.length_append,List.length_singleton]; omega⟩,?_⟩
        rw [hv] at h78
        exact letB (v:=true) (decide_eq_true hd) (bifT rfl (jB (bindB hx (bindB h44 (letB rfl (letB hlen (letB (v:=false) h12 (bifF rfl (bindB h78 (bifF rfl (bindB (aJm (by simp only [List.length_singleton]; omega) (by simp only [List.length_singleton]; omega)) (letB hw rfl))))))))))))
      · have hv:dig w=none:=Option.map_eq_none_iff.1 hb
        rw [hv] at h78
        exact letB (v:=true) (decide_eq_true hd) (bifT rfl (jB (bindB hx (bindB h44 (letB rfl (letB hlen (letB (v:=false) h12 (bifF rfl (bindB h78 (bifT rfl rfl))))))))))
     by_cases hc:last=true∧i+1=(parts 58 t).length
     · rw [if_pos hc]
       cases hf:four w with
       | none=>exact hexCase (by rw [hf]; rfl)
       | some q =>
        obtain ⟨q0,q1⟩:=r44 q hf
        rw [hf] at h44
        refine ⟨fun b hb=>?_,fun hb=>(by cases hb)⟩
        have hb:acc++[q / 65536,q % 65536]=b:=Option.some.inj hb
        subst hb
        refine ⟨⟨hG.app fun g hg=>?_,by rw [List.length_append]; simp only [List.length_cons,List.length_nil]; omega⟩,?_⟩
        · simp only [List.mem_cons,List.not_mem_nil,or_false] at hg
          rcases hg with rfl | rfl <;> omega
        · have e1:aJP .u64 q 16=q / 65536:=by rw [shr64 (by decide) q0]; rfl
          have e2:bits .and .u64 q 65535=q % 65536:=mask16 ⟨q0,by omega⟩
          refine letB (v:=true) (decide_eq_true hd) (bifT rfl (jB (bindB hx (bindB h44 (letB (v:=true) (by rw [hc.1]; rfl) (letB hlen (letB (v:=true) ?_ (bifT rfl (letB e1 (letB e2 (bindB (aJm (by simp only [List.length_cons,List.length_nil]; omega) (by simp only [List.length_cons,List.length_nil]; omega)) (letB hw rfl))))))))))))
          have:(i:Int)=((parts 58 t).length:Int) - 1:=by omega
          exact bifT rfl (beq_iff_eq.2 this)
     · rw [if_neg hc]
       refine hexCase ?_
       cases hq:(match four w with | some v=>(((false,0,v):Ad),true) | none=>((false,0,0),false)).2 with
       | false=>rfl
       | true =>
        cases hl:last with
        | false=>rfl
        | true =>
         have:¬ ((i:Int)=((parts 58 t).length:Int) - 1):=fun h=>hc ⟨hl,by omega⟩
         simp only [aKJ,beq_eq_false_iff_ne,ne_eq]
         exact this) (fun acc hP=>by
     have hd:¬ (((parts 58 t).length:Int) < aJO (parts 58 t)):=by unfold aJO; omega
     exact letB (v:=false) (decide_eq_false hd) (bifF rfl rfl)) (parts 58 t).length 0 [] (Nat.zero_add _) ⟨fun g hg=>(List.not_mem_nil hg).elim,Nat.zero_le _⟩
 have k:=key (N+29) (by omega)
 refine ⟨bifF (by simpa using h0) (bindB hsp (jB (k.1.trans ?_))),fun l hl=>⟨(k.2 l hl).1,by have:=(k.2 l hl).2; omega⟩⟩
 cases runF (F6 last (parts 58 t)) (parts 58 t).length 0 [] <;> rfl
def six (t:List UInt8):Option (List Int) :=
 if (Lib.cut t [58,58]).2.2=true then
  match list6 false (Lib.cut t [58,58]).1,list6 true (Lib.cut t [58,58]).2.1 with
  | some l,some m=>if l.length+m.length > 7 then none else some (l++List.replicate (8 - l.length - m.length) 0++m)
  | _,_=>none
 else match list6 true t with
  | some l=>if l.length=8 then some l else none
  | none=>none
theorem cut_len (t s:List UInt8):(Lib.cut t s).1.length≤t.length∧(Lib.cut t s).2.1.length≤t.length:=by
 unfold Lib.cut
 split
 · simp only [List.length_take,List.length_drop]; omega
 · simp
theorem six_eq (N:Nat) {t:List UInt8} (ht:t.length≤100000) (hN:t.length < N):(∃ l',n68 (N+40) t=some (l',(six t).isSome)∧∀ l,six t=some l→l'=l)∧∀ l,six t=some l→G16 l∧l.length=8:=by
 rw [e68]
 have h60:n43 (N+39) (t,[58,58])=some (Lib.cut t [58,58]):=by rw [e43]; exact aJp (by omega)
 obtain ⟨c1,c2⟩:=cut_len t [58,58]
 unfold six
 generalize Lib.cut t [58,58]=c at *
 obtain ⟨x,y,f⟩:=c
 simp only at c1 c2
 cases f with
 | false =>
  obtain ⟨k1,k2⟩:=list6_eq (N+9) ht (by omega) true
  refine ⟨?_,fun l hl=>?_⟩
  · cases hl:list6 true t with
    | none =>
     rw [hl] at k1
     exact ⟨[],bindB h60 (bifT rfl (bindB k1 (letB (v:=false) rfl rfl))),fun l h=>by cases h⟩
    | some l =>
     rw [hl] at k1
     have k1:n89 (N+9+30) (t,true)=some (l,true):=k1
     by_cases h8:l.length=8
     · refine ⟨l,bindB h60 (bifT rfl (bindB k1 (letB (v:=true) ?_ ?_))),fun m hm=>?_⟩
       · exact bifT rfl (by unfold aJO; rw [h8]; rfl)
       · simp [h8]
       · simpa [h8] using hm
     · have hne:(aJO l==(8:Int))=false:=by unfold aJO; rw [beq_eq_false_iff_ne]; omega
       refine ⟨l,bindB h60 (bifT rfl (bindB k1 (letB (v:=false) ?_ ?_))),fun m hm=>?_⟩
       · exact bifT rfl hne
       · simp [h8]
       · simp [h8] at hm
  · cases hl':list6 true t with
    | none=>rw [hl'] at hl; simp at hl
    | some l' =>
     rw [hl'] at hl
     simp only [Bool.false_eq_true,if_false] at hl
     split at hl
     · rename_i h8
       cases hl
       exact ⟨(k2 l hl').1,h8⟩
     · cases hl
 | true =>
  obtain ⟨k1,k2⟩:=list6_eq (N+9) (t:=x) (by omega) (by omega) false
  obtain ⟨j1,j2⟩:=list6_eq (N+9) (t:=y) (by omega) (by omega) true
  have base:∀ (l m:List Int),list6 false x=some l→list6 true y=some m→l.length≤200002∧m.length≤200002∧G16 l∧G16 m:=fun l m hl hm=>⟨(k2 l hl).2,(j2 m hm).2,(k2 l hl).1,(j2 m hm).1⟩
  refine ⟨?_,fun l hl=>?_⟩
  · cases hl:list6 false x with
    | none =>
     rw [hl] at k1
     cases hm:list6 true y with
     | none =>
      rw [hm] at j1
      exact ⟨[],bindB h60 (bifF rfl (bindB k1 (bindB j1 (letB (v:=true) rfl (letB rfl (letB (v:=true) rfl (bifT rfl rfl))))))),fun l h=>by simp at h⟩
     | some m =>
      rw [hm] at j1
      exact ⟨[],bindB h60 (bifF rfl (bindB k1 (bindB j1 (letB (v:=true) rfl (letB rfl (letB (v:=true) rfl (bifT rfl rfl))))))),fun l h=>by simp at h⟩
    | some l =>
     rw [hl] at k1
     have k1:n89 (N+9+30) (x,false)=some (l,true):=k1
     cases hm:list6 true y with
     | none =>
      rw [hm] at j1
      exact ⟨[],bindB h60 (bifF rfl (bindB k1 (bindB j1 (letB (v:=true) rfl (letB rfl (letB (v:=true) rfl (bifT rfl rfl))))))),fun l h=>by simp at h⟩
     | some m =>
      rw [hm] at j1
      have j1:n89 (N+9+30) (y,true)=some (m,true):=j1
      obtain ⟨b1,b2,_,_⟩:=base l m hl hm
      have hsum:IntKind.i64.wrap (aJO l+aJO m)=((l.length+m.length:Nat):Int):=by unfold aJO; rw [pV (by omega) (by omega)]; omega
      by_cases h7:l.length+m.length > 7
      · refine ⟨[],bindB h60 (bifF rfl (bindB k1 (bindB j1 (letB (v:=false) rfl (letB hsum (letB (v:=true) (bifF rfl (decide_eq_true (by omega))) (bifT rfl ?_))))))),fun l h=>?_⟩
        · simp [h7]
        · simp [h7] at h
      · have hz : IntKind.i64.wrap (IntKind.i64.wrap (8 - aJO l) - aJO m) = ((8 - l.length - m.length : Nat) : Int) := by
          unfold aJO; rw [pV (n:=8 - (l.length:Int)) (by omega) (by omega),pV (by omega) (by omega)]; omega
        have ha1:aIa 8 l ((8 - l.length - m.length:Nat):Int) 0=some (l++List.replicate (8 - l.length - m.length) 0):=by
         unfold aIa
         rw [if_neg (by omega),Int.toNat_natCast]
         exact aJm (by rw [List.length_replicate]; omega) (by rw [List.length_replicate]; omega)
        have hs8:IntKind.i64.wrap (8 - aJO l)=8 - (l.length:Int):=pV (by unfold aJO; omega) (by unfold aJO; omega)
        have ha2:aH3 8 (l++List.replicate (8 - l.length - m.length) 0) m=some (l++List.replicate (8 - l.length - m.length) 0++m):=aJm (by rw [List.length_append,List.length_replicate]; omega) (by rw [List.length_append,List.length_replicate]; omega)
        refine ⟨l++List.replicate (8 - l.length - m.length) 0++m,bindB h60 (bifF rfl (bindB k1 (bindB j1 (letB (v:=false) rfl (letB hsum (letB (v:=false) (bifF rfl (decide_eq_false (by omega))) (bifF rfl (letB (v:=8 - (l.length:Int)) hs8 (letB (v:=((8 - l.length - m.length:Nat):Int)) (wv _ (by show 8 - (l.length:Int) - (m.length:Int)=_; omega) (by omega) (by omega)) (bindB ha1 (bindB ha2 ?_))))))))))),fun q hq=>?_⟩
        · simp [h7]
        · simpa [h7] using hq
  · cases hl':list6 false x with
    | none=>rw [hl'] at hl; simp at hl
    | some l' =>
     cases hm':list6 true y with
     | none=>rw [hl',hm'] at hl; simp at hl
     | some m' =>
      rw [hl',hm'] at hl
      obtain ⟨_,_,g1,g2⟩:=base l' m' hl' hm'
      simp only [if_true] at hl
      split at hl
      · cases hl
      · cases hl
        refine ⟨(g1.app fun g hg=>?_).app g2,by rw [List.length_append,List.length_append,List.length_replicate]; omega⟩
        rw [(List.mem_replicate.1 hg).2]; omega
end Go.Proofs.YtlgnmgbnbomckaaGreatDoor
