/- Chapter 01, plainly: the document's answer prints as the program does. -/
import Derived.Test.YtlgnmgbnbomckaaGreatDoorQU
namespace Go.Proofs.YtlgnmgbnbomckaaGreatDoor
open Go.VM Go.Txt
set_option maxRecDepth 10000
theorem list4 {l:List Int} (h:l.length=4):∃ x y z w,l=[x,y,z,w]:=by
 obtain ⟨x,l,rfl⟩:=List.exists_cons_of_length_eq_add_one h
 obtain ⟨y,l,rfl⟩:=List.exists_cons_of_length_eq_add_one (l:=l) (n:=2) (by simpa using h)
 obtain ⟨z,l,rfl⟩:=List.exists_cons_of_length_eq_add_one (l:=l) (n:=1) (by simpa using h)
 obtain ⟨w,l,rfl⟩:=List.exists_cons_of_length_eq_add_one (l:=l) (n:=0) (by simpa using h)
 obtain rfl:l=[]:=List.eq_nil_of_length_eq_zero (by simpa using h)
 exact ⟨x,y,z,w,rfl⟩
theorem print_r (N:Nat) {a:Ad} (h:AD a):n23 (N+100) a=some (txt a):=by
 rw [e23]
 refine bindB (bytes2 (N+79) h) ?_
 obtain ⟨f,x,y⟩:=a
 cases hv:valid (f,x,y) with
 | false =>
  have hb:bytesA (f,x,y)=[]:=by unfold bytesA; rw [hv]; rfl
  have hf:f=false:=by
   cases f with
   | false=>rfl
   | true=>cases hv
  rw [hb]
  refine bifT rfl ?_
  unfold txt
  rw [hf] at hb ⊢
  rw [hb]; rfl
 | true =>
  cases f with
  | false =>
   have hl:(bytesA (false,x,y)).length=4:=by unfold bytesA; rw [hv,if_pos rfl,beI_length]; rfl
   have hB:=bytesA_Bs (false,x,y)
   have ht:txt (false,x,y)=J4 (bytesA (false,x,y)):=rfl
   rw [ht]
   generalize bytesA (false,x,y)=b at *
   obtain ⟨p,q,r,s,rfl⟩:=list4 hl
   have hp:=hB p (by simp)
   have hq:=hB q (by simp)
   have hr:=hB r (by simp)
   have hs:=hB s (by simp)
   have it:∀ d:Int,0≤d∧d≤255→n48 (N+99) (IntKind.i64.wrap d)=some (Lib.itoa d):=fun d hd=>by
    rw [pV (by omega) (by omega),e48]; exact aJ6 ⟨by omega,by omega⟩
   have cat:∀ s t:List UInt8,s.length≤1000→t.length≤1000→aJt s t=some (s++t):=fun s t h1 h2=>if_pos (by omega)
   have lp:=(itoa_fact hp).2.1
   have lq:=(itoa_fact hq).2.1
   have lr:=(itoa_fact hr).2.1
   have ls:=(itoa_fact hs).2.1
   refine bifF rfl (bifT rfl (bindB rfl (bindB (it p hp) (bindB (cat _ _ ?_ ?_) (bindB rfl (bindB (it q hq) (bindB (cat _ _ ?_ ?_) (bindB (cat _ _ ?_ ?_) (bindB rfl (bindB (it r hr) (bindB (cat _ _ ?_ ?_) (bindB (cat _ _ ?_ ?_) (bindB rfl (bindB (it s hs) (bindB (cat _ _ ?_ ?_) ?_))))))))))))))) <;> first | (simp only [List.length_append,List.length_singleton]; omega) | omega | skip
   congr 1
   unfold J4
   simp only [List.map_cons,List.map_nil]
   rw [join_cons2,join_cons2,join_cons2,Lib.join_one]
   simp
  | true =>
   have hb:bytesA (true,x,y)=beI 16 (val (true,x,y)):=rfl
   have ht:txt (true,x,y)=txt6 (val (true,x,y)):=rfl
   rw [ht,hb]
   generalize val (true,x,y)=v
   refine bifF rfl (bifF rfl (jB ?_))
   have hz8:(zs (gsL v)).length=8:=rfl
   have flag:∀ j:Nat,j < 8→(zs (gsL v))[j]?=some (gr v j==0):=fun j hj=>by
    rw [zs,List.getElem?_map,gsL_get v hj]; rfl
   refine loopN_seq' (s:=fun k=>(beI 16 v,(if (lgM (zs (gsL v)) k).2=0 then (-1:Int) else ((lgM (zs (gsL v)) k).1:Int)),((max (lgM (zs (gsL v)) k).2 1:Nat):Int),(k:Int))) 8 rfl (fun k hk=>?_) ?_ (m:=N+99) (by omega)
   · have hd:((k:Int) < 8):=by omega
     refine letB (v:=true) (decide_eq_true hd) (bifT rfl (jB (jB ?_)))
     have hrl:k+runl ((zs (gsL v)).drop k)≤8:=by
      have:=runl_le ((zs (gsL v)).drop k)
      rw [List.length_drop,hz8] at this
      omega
     have hle:=lgM_le (zs (gsL v)) hz8 k (by omega)
     have hstep:lgM (zs (gsL v)) (k+1)=lgStep (zs (gsL v)) (lgM (zs (gsL v)) k) k:=rfl
     rw [hstep]
     unfold lgStep
     generalize hA:(if (lgM (zs (gsL v)) k).2=0 then (-1:Int) else ((lgM (zs (gsL v)) k).1:Int))=A at *
     refine loopN_seq' (s:=fun j=>(beI 16 v,A,((max (lgM (zs (gsL v)) k).2 1:Nat):Int),(k:Int),(j:Int),(k:Int))) (runl ((zs (gsL v)).drop k)) rfl (fun j hj=>?_) ?_ (m:=N+99) (by omega)
     · have hf:=runl_at _ _ hj
       rw [List.getElem?_drop,flag (k+j) (by omega)] at hf
       have hg0:gr v (k+j)=0:=by simpa using hf
       have hp:=bg_pair v (i:=k+j) (by omega)
       have b1:=bg_rng v (2 * (k+j))
       have b2:=bg_rng v (2 * (k+j)+1)
       have z1:bg v (2 * (k+j))=0:=by omega
       have z2:bg v (2 * (k+j)+1)=0:=by omega
       have g1:=bg_get v (i:=2 * (k+j)) (by omega)
       have g2:=bg_get v (i:=2 * (k+j)+1) (by omega)
       rw [z1] at g1
       rw [z2] at g2
       have w1:IntKind.i64.wrap ((k:Int)+(j:Int))=((k+j:Nat):Int):=wv _ (by omega) (by omega) (by omega)
       have w2:IntKind.i64.wrap ((2:Int) * ((k+j:Nat):Int))=((2 * (k+j):Nat):Int):=wv _ (by omega) (by omega) (by omega)
       have w3:IntKind.i64.wrap (((2 * (k+j):Nat):Int)+1)=((2 * (k+j)+1:Nat):Int):=wv _ (by omega) (by omega) (by omega)
       have w4:IntKind.i64.wrap ((j:Int)+1)=((j+1:Nat):Int):=wv _ (by omega) (by omega) (by omega)
       have hlt:decide (((k+j:Nat):Int) < 8)=true:=decide_eq_true (by omega)
       refine letB w1 (letB w1 (letB w2 (bindB (v:=0) (bifT hlt g1) (letB (v:=true) (bifT hlt rfl) (letB w1 (letB w2 (letB w3 (bindB (v:=0) (bifT rfl g2) (letB (v:=true) rfl (bifT rfl (letB w4 rfl)))))))))))
     · generalize hr:runl ((zs (gsL v)).drop k)=rl at *
       have rest:(aJy (decide ((rl:Int) > ((max (lgM (zs (gsL v)) k).2 1:Nat):Int))) fun v49 =>
 aBJ (fun (p50:(List (Int)×(Int×(Int×Int)))) =>
 aJy (IntKind.i64.wrap (p50.2.2.2+(1:Int))) fun v46 =>
 (tN (p50.1,p50.2.1,p50.2.2.1,v46):Option ((List (Int)×(Int×(Int×Int))) ⊕ List UInt8))) fun j51 =>
 bif v49 then (j51 (beI 16 v, (k : Int), (rl : Int), (k : Int))) else (j51 (beI 16 v, A, ((max (lgM (zs (gsL v)) k).2 1 : Nat) : Int), (k : Int)))) = some (.inl (beI 16 v, (if (if rl > max (lgM (zs (gsL v)) k).2 1 then (k, rl) else lgM (zs (gsL v)) k).2 = 0 then (-1 : Int) else (((if rl > max (lgM (zs (gsL v)) k).2 1 then (k, rl) else lgM (zs (gsL v)) k).1 : Nat) : Int)), ((max (if rl > max (lgM (zs (gsL v)) k).2 1 then (k, rl) else lgM (zs (gsL v)) k).2 1 : Nat) : Int), ((k + 1 : Nat) : Int))) := by
        have w4:IntKind.i64.wrap ((k:Int)+1)=((k+1:Nat):Int):=wv _ (by omega) (by omega) (by omega)
        by_cases hgt:rl > max (lgM (zs (gsL v)) k).2 1
        · rw [if_pos hgt]
          have hne:¬ rl=0:=by omega
          have hmx:max rl 1=rl:=by omega
          simp only [if_neg hne,hmx]
          exact letB (v:=true) (decide_eq_true (by omega)) (jB (bifT rfl (letB w4 rfl)))
        · rw [if_neg hgt,hA]
          exact letB (v:=false) (decide_eq_false (by omega)) (jB (bifF rfl (letB w4 rfl)))
       have w1:IntKind.i64.wrap ((k:Int)+(rl:Int))=((k+rl:Nat):Int):=wv _ (by omega) (by omega) (by omega)
       have w2:IntKind.i64.wrap ((2:Int) * ((k+rl:Nat):Int))=((2 * (k+rl):Nat):Int):=wv _ (by omega) (by omega) (by omega)
       have w3:IntKind.i64.wrap (((2 * (k+rl):Nat):Int)+1)=((2 * (k+rl)+1:Nat):Int):=wv _ (by omega) (by omega) (by omega)
       by_cases h8:k+rl < 8
       · have hlt:decide (((k+rl:Nat):Int) < 8)=true:=decide_eq_true (by omega)
         have hg0:gr v (k+rl)≠0:=by
          rcases runl_end ((zs (gsL v)).drop k) with hn | hn
          · rw [hr,List.getElem?_drop,flag _ h8] at hn; cases hn
          · rw [hr,List.getElem?_drop,flag _ h8] at hn
            simpa using hn
         have hp:=bg_pair v (i:=k+rl) h8
         have g1:=bg_get v (i:=2 * (k+rl)) (by omega)
         have g2:=bg_get v (i:=2 * (k+rl)+1) (by omega)
         refine letB w1 (letB w1 (letB w2 (bindB (bifT hlt g1) (letB (v:=(bg v (2 * (k+rl))==0)) (bifT hlt rfl) (letB w1 (letB w2 (letB w3 (bindB (bC g2 rfl) (letB (v:=false) ?_ (bifF rfl (leaveB rest)))))))))))
         by_cases z1:bg v (2 * (k+rl))=0
         · have z2:¬ bg v (2 * (k+rl)+1)=0:=by omega
           rw [z1]
           show (bg v (2 * (k+rl)+1)==0)=false
           simpa using z2
         · have:(bg v (2 * (k+rl))==0)=false:=by simpa using z1
           rw [this]; rfl
       · have hlt:decide (((k+rl:Nat):Int) < 8)=false:=decide_eq_false (by omega)
         exact letB w1 (letB w1 (letB w2 (bindB (v:=0) (bifF hlt rfl) (letB (v:=false) (bifF hlt rfl) (letB w1 (letB w2 (letB w3 (bindB (v:=0) (bifF rfl rfl) (letB (v:=false) rfl (bifF rfl (leaveB rest)))))))))))
   · exact letB (v:=false) rfl (bifF rfl (leaveB (jB (grow (N+79) (N+99) (by omega) v))))
end Go.Proofs.YtlgnmgbnbomckaaGreatDoor
