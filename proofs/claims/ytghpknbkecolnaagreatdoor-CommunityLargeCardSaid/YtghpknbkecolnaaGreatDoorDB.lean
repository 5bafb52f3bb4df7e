/- Chapter 17, plainly: what CommunityLists and CommunityLarge ask. -/
import Derived.Test.YtghpknbkecolnaaGreatDoorDA
import Derived.Test.YtghpknbkecolnaaGreatDoorNE1
namespace Go.Proofs.YtghpknbkecolnaaGreatDoor
open Go.VM Go.Txt
set_option maxRecDepth 10000
theorem awakeK:n7 400 ()=some true:=by kernel_rfl
theorem awake' {N:Nat} (h:400≤N):n7 N ()=some true:=aGj (T:=TN) h 7 () true awakeK
theorem jP {A B:Type} {f:A→Option B} {k:(A→Option B)→Option B} (P:A→Prop) {r:B} (hf:∀ x,P x→f x=some r) (hk:∀ g:A→Option B,(∀ x,P x→g x=some r)→k g=some r):aBJ f k=some r:=by
 rw [aJY]; exact hk f hf
theorem addTo_len {T:Type} [DecidableEq T] {z:T} {fit:T→Bool} {les:T→T→Bool} {l:List T} {c:T} {r:List T×Int} (h:AddTo (vld z fit les) fit les l c r):r.1.length≤65:=by
 rcases h with ⟨_,rfl⟩ | ⟨h1,_,i,_,rfl⟩
 · simp
 · have:=vld_len h1
   unfold addR
   split
   · simp only; omega
   · split
     · simp
     · have:=ins_len l i c
       simp only; omega
theorem listsL (N:Nat) (hN:1000 < N) {a0:List Lg} {a1:Lg} {a2:List Int} {a3:Int} {a4:Bool} (h:a2.length≤9223372036854775807):n5 (N+201) (a0,a1,a2,a3,a4)=some true:=by
 rw [e5]
 by_cases h0:aJO a0 > 80
 · exact letB (v:=true) (decide_eq_true h0) (bifT rfl (bindB (awake' (by omega)) rfl))
 have l0:a0.length≤80:=by unfold aJO at h0; omega
 obtain ⟨dc,dl,d',h9,g1,g2⟩:=deck_ok (N+130) (by omega) (DK0 h)
 refine letB (v:=false) (decide_eq_false h0) (bifF rfl (bindB (e8 (N+199) a2) (bindB h9 ?_)))
 refine jP (P:=fun x:(List Lg×(Int×(Lg×List Lg)))=>x.1=a0∧x.2.1=a3∧x.2.2.1=a1∧x.2.2.2.length≤64) ?_ ?_
 · rintro ⟨y0,y1,y2,F⟩ ⟨e0,e1,e2,hF⟩
   simp only at e0 e1 e2 hF
   subst e0; subst e1; subst e2
   obtain ⟨m1,q1,q2,q3⟩:=mod_ok (N+199) (a:=y1) (b:=8) (by omega) (by omega)
   obtain ⟨p1,u1⟩:=idx_ok (l:=[(0:Int),(1:Int),(2:Int),(3:Int),(65000:Int),(4294967295:Int),(4294967296:Int),(-1:Int)]) q2 q3
   obtain ⟨m2,q4,q5,q6⟩:=mod_ok (N+199) (a:=IntKind.i64.wrap (Int.tdiv y1 (8:Int))) (b:=8) (by omega) (by omega)
   obtain ⟨p2,u2⟩:=idx_ok (l:=[(0:Int),(1:Int),(2:Int),(3:Int),(65000:Int),(4294967295:Int),(4294967296:Int),(-1:Int)]) q5 q6
   obtain ⟨m3,q7,q8,q9⟩:=mod_ok (N+199) (a:=IntKind.i64.wrap (Int.tdiv y1 (64:Int))) (b:=8) (by omega) (by omega)
   obtain ⟨p3,u3⟩:=idx_ok (l:=[(0:Int),(1:Int),(2:Int),(3:Int),(65000:Int),(4294967295:Int),(4294967296:Int),(-1:Int)]) q8 q9
   refine letB rfl (bindB q1 (bindB u1 (letB rfl (bindB q4 (bindB u2 (letB rfl (bindB q7 (bindB u3 (bindB (aJm (l:=[]) (by simp only [List.length_nil]; omega) (by simp only [List.length_nil]; omega)) (letB rfl (bindB (aJm (by simp; omega) (by simp; omega)) ?_)))))))))))
   rw [List.nil_append]
   generalize ((p1,p2,p3):Lg)=pick
   generalize hX:([y0,F,F++[pick]]:List (List Lg))=X
   have ln:X.length=3:=by subst hX; rfl
   have lX:∀ x∈X,x.length≤80:=by
    subst hX
    intro w hw
    simp only [List.mem_cons,List.not_mem_nil,or_false] at hw
    rcases hw with rfl | rfl | rfl
    · omega
    · omega
    · simp; omega
   refine letB rfl (jB ?_)
   refine loopN_seq' (fun i=>((y2,pick,X,aJO X,(i:Int)):(Lg×(Lg×(List (List Lg)×(Int×Int))))) ) 3 rfl (fun i hi=>?_) ?_ (by omega)
   · have hx:aEU X (i:Int)=some (X.getD i []):=by rw [aJo (by omega),List.getD,List.getElem?_eq_getElem (by omega)]; rfl
     have hw:(X.getD i []).length≤80:=by
      rw [List.getD,List.getElem?_eq_getElem (by omega)]; exact lX _ (List.getElem_mem (by omega))
     generalize X.getD i []=x at *
     refine letB (v:=true) (decide_eq_true (show (i:Int) < aJO X by unfold aJO; omega)) (bifT rfl (jB (bindB hx (bindB (valid_l (N+150) (by omega) (by omega)) (bindB (valid_rl (N+198) (by omega) (by omega)) (bifF (by cases vldL x <;> rfl) (letB rfl (jB ?_))))))))
     refine loopN_seq' (fun k=>((y2,pick,x,X,aJO X,(i:Int),[y2,pick],(2:Int),(k:Int)):(Lg×(Lg×(List Lg×(List (List Lg)×(Int×(Int×(List Lg×(Int×Int)))))))))) 2 rfl (fun k hk=>?_) ?_ (by omega)
     · have hy:aEU [y2,pick] (k:Int)=some ([y2,pick].getD k y2):=by rw [aJo (l:=[y2,pick]) (n:=k) (by simp; omega),List.getD,List.getElem?_eq_getElem (by simp; omega)]; rfl
       generalize [y2,pick].getD k y2=c at hy
       obtain ⟨r,r1,r2⟩:=add_pL (N+140) (l:=x) c (by omega) (by omega) (by omega)
       obtain ⟨r',r3,r4⟩:=add_rL (N+140) (l:=x) c (by omega) (by omega)
       have hr:=addTo_uniq r4 r2
       subst hr
       have rl:=addTo_len r2
       have s1:=same_l (N+199) (l:=r'.1) (by omega) (by omega)
       have rm:=rem_pL (N+197) (l:=x) c (by omega)
       have rn:=rem_rL (N+199) (l:=x) c (by omega) (by omega)
       have rl2:(x.filter fun p=>!(decide (p=c))).length≤80:=Nat.le_trans (List.length_filter_le _ _) hw
       have s2:=same_l (N+199) (l:=x.filter fun p=>!(decide (p=c))) (by omega) (by omega)
       obtain ⟨b,b1,b2⟩:=has_pL (N+197) (l:=x) c (by omega) (by omega)
       obtain ⟨b',b3,b4⟩:=has_rL (N+199) (l:=x) c (by omega) (by omega)
       have hb:b'=b:=Bool.eq_iff_iff.2 (b4.trans b2.symm)
       subst hb
       exact letB (v:=true) (decide_eq_true (show (k:Int) < 2 by omega)) (bifT rfl (bindB hy (bindB r1 (bindB r3 (bindB s1 (letB (v:=false) (bifF rfl (bne_self_eq_false _)) (bindB (bifT rfl rm) (bindB (bifT rfl rn) (bindB (bifT rfl s2) (letB (v:=false) rfl (bindB (bifT rfl b1) (bindB (bifT rfl b3) (letB (v:=false) (by cases b' <;> rfl) (bifF rfl (letB (v:=((k+1:Nat):Int)) (wv _ (show (k:Int)+1=((k+1:Nat):Int) by omega) (by omega) (by omega)) rfl)))))))))))))))
     · exact letB (v:=false) rfl (bifF rfl (leaveB (letB (v:=((i+1:Nat):Int)) (wv _ (show (i:Int)+1=((i+1:Nat):Int) by omega) (by omega) (by omega)) rfl)))
   · exact letB (v:=false) (decide_eq_false (show ¬ ((3:Nat):Int) < aJO X by unfold aJO; omega)) (bifF rfl (leaveB (bindB (awake' (by omega)) rfl)))
 · intro g hg
   cases a4 with
   | false=>exact bifF rfl (hg _ ⟨rfl,rfl,rfl,by show dl.length≤64; omega⟩)
   | true =>
    refine bifT rfl (jB ?_)
    refine loopN_seq' (fun i=>((a0,a3,a1,(List.range i).map (fun (k:Nat)=>(((1:Int),IntKind.i64.wrap (Int.tdiv (k:Int) (8:Int)),(2:Int) * (k:Int)):Lg)),(i:Int)):(List Lg×(Int×(Lg×(List Lg×Int)))))) 64 rfl (fun i hi=>?_) ?_ (by omega)
    · refine letB (v:=true) (decide_eq_true (show (i:Int) < 64 by omega)) (bifT rfl (letB rfl (letB (v:=(2:Int) * (i:Int)) (wv _ rfl (by omega) (by omega)) (letB rfl (bindB (v:=(List.range (i+1)).map (fun (k:Nat)=>(((1:Int),IntKind.i64.wrap (Int.tdiv (k:Int) (8:Int)),(2:Int) * (k:Int)):Lg))) ?_ (letB (v:=((i+1:Nat):Int)) (wv _ (show (i:Int)+1=((i+1:Nat):Int) by omega) (by omega) (by omega)) rfl))))))
      rw [aJm (by simp; omega) (by simp; omega),List.range_succ,List.map_append]
      rfl
    · exact letB (v:=false) rfl (bifF rfl (leaveB (hg _ ⟨rfl,rfl,rfl,by simp⟩)))
end Go.Proofs.YtghpknbkecolnaaGreatDoor
