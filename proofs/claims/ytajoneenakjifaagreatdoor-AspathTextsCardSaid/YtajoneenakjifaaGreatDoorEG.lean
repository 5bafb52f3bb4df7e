/- Chapter 15, plainly: paths compared, and printed; what AspathBack asks. -/
import Derived.Test.YtajoneenakjifaaGreatDoorEF
import Derived.Test.YtajoneenakjifaaGreatDoorT31
namespace Go.Proofs.YtajoneenakjifaaGreatDoor
open Go.VM Go.Txt
set_option maxRecDepth 10000
theorem same_k (N:Nat) {p q:List Seg} (hN:100001 < N) (hp:Mid p) (hq:Mid q):Ok (n13 (N+1) (p,q)) fun b=>b=true↔p=q:=by
 rw [e13]
 obtain ⟨p1,p2⟩:=hp
 obtain ⟨q1,q2⟩:=hq
 refine ok_if (fun hh=>ok_some ?_) fun hh=>?_
 · have hh:¬ aJO p=aJO q:=by simpa using hh
   exact ⟨fun h=>(by cases h),fun h=>by rw [h] at hh; exact absurd rfl hh⟩
 have hh:aJO p=aJO q:=by simpa using hh
 unfold aJO at hh
 have hl:p.length=q.length:=by omega
 refine ok_join (fun _=>p=q) (fun _ h=>ok_some ⟨fun _=>h,fun _=>rfl⟩) fun g1 hg1=>?_
 refine ok_loop (fun i (x:(List Seg×(List Seg×(Int×Int))))=>x=(q,p,aJO p,(i:Int))∧i≤p.length∧p.take i=q.take i) p.length (fun i x hx=>?_) ⟨rfl,Nat.zero_le _,rfl⟩ (by omega)
 obtain ⟨rfl,hi,ht⟩:=hx
 refine ok_let (ok_if (fun hc=>?_) fun hc=>ok_leave (hg1 _ ?_))
 rotate_left
 · have hc:¬ (i:Int) < aJO p:=of_decide_eq_false hc
   unfold aJO at hc
   rwa [List.take_of_length_le (by omega),List.take_of_length_le (by omega)] at ht
 have hc:(i:Int) < aJO p:=of_decide_eq_true hc
 unfold aJO at hc
 have hip:i < p.length:=by omega
 have hiq:i < q.length:=by omega
 have hx:=aJo (l:=p) (n:=i) hip
 have hy:=aJo (l:=q) (n:=i) hiq
 have differ:p[i]≠q[i]→¬ p=q:=fun h e=>h (by subst e; rfl)
 refine ok_join (fun x=>x=(q,p,aJO p,(i:Int))∧p[i]=q[i]) ?_ ?_
 · rintro x ⟨e,he⟩
   subst e
   refine ok_letE (w:=((i+1:Nat):Int)) (wv _ (show (i:Int)+1=((i+1:Nat):Int) by omega) (by omega) (by omega)) (ok_again hip ⟨rfl,hip,?_⟩)
   rw [List.take_succ_eq_append_getElem hip,List.take_succ_eq_append_getElem hiq,ht,he]
 intro g5 hg5
 have lp:=p2 p[i] (List.getElem_mem hip)
 have lq:=q2 q[i] (List.getElem_mem hiq)
 generalize hu:p[i]=u at *
 generalize hv:q[i]=v at *
 refine ok_bind hx (ok_bind hy ?_)
 by_cases hb:u.1=v.1
 rotate_left
 · have e1:(true != (u.1==v.1))=true:=by cases h1:u.1 <;> cases h2:v.1 <;> simp_all
   exact ok_bind (bifF (by rw [e1]; rfl) rfl) (ok_letE (w:=true) (bifT e1 rfl) (ok_if (fun _=>ok_leave (ok_some ⟨fun h=>(by cases h),fun h=>absurd h (differ fun e=>hb (by rw [e]))⟩)) fun h=>by cases h))
 have e1:(true != (u.1==v.1))=false:=by rw [hb]; cases v.1 <;> rfl
 refine ok_bind (bifT (by rw [e1]; rfl) hy) (ok_letE (w:=(aJO u.2 != aJO v.2)) (bifF e1 rfl) (ok_if (fun h=>?_) fun h=>?_))
 · have h:¬ aJO u.2=aJO v.2:=by simpa using h
   exact ok_leave (ok_some ⟨fun h=>(by cases h),fun e=>absurd e (differ fun e=>h (by rw [e]))⟩)
 have h:aJO u.2=aJO v.2:=by simpa using h
 unfold aJO at h
 have hl2:u.2.length=v.2.length:=by omega
 refine ok_join (fun x=>x=(q,p,aJO p,(i:Int))∧u=v) (fun x ⟨e,he⟩=>hg5 _ ⟨by subst e; rfl,he⟩) fun g12 hg12=>?_
 refine ok_loop (fun k (x:(List Seg×(Int×(List Seg×(Int×(Int×(List Int×(Int×Int))))))))=>x=(q,(i:Int),p,aJO p,(i:Int),u.2,aJO u.2,(k:Int))∧k≤u.2.length∧u.2.take k=v.2.take k) u.2.length (fun k x hx=>?_) ⟨rfl,Nat.zero_le _,rfl⟩ (by omega)
 obtain ⟨rfl,hk,htk⟩:=hx
 refine ok_let (ok_if (fun hc=>?_) fun hc=>ok_leave (hg12 _ ⟨rfl,?_⟩))
 rotate_left
 · have hc:¬ (k:Int) < aJO u.2:=of_decide_eq_false hc
   unfold aJO at hc
   rw [List.take_of_length_le (by omega),List.take_of_length_le (by omega)] at htk
   exact Prod.ext hb htk
 have hc:(k:Int) < aJO u.2:=of_decide_eq_true hc
 unfold aJO at hc
 have hku:k < u.2.length:=by omega
 have hkv:k < v.2.length:=by omega
 refine ok_bind (aJo hku) (ok_bind hy (ok_bind (aJo hkv) (ok_if (fun h=>?_) fun h=>?_)))
 · have h:¬ v.2[k]=u.2[k]:=by simpa using h
   exact ok_leave (ok_leave (ok_some ⟨fun h=>(by cases h),fun e=>absurd e (differ fun e=>h (by subst e; rfl))⟩))
 · have h:v.2[k]=u.2[k]:=by simpa using h
   refine ok_letE (w:=((k+1:Nat):Int)) (wv _ (show (k:Int)+1=((k+1:Nat):Int) by omega) (by omega) (by omega)) (ok_again hku ⟨rfl,hku,?_⟩)
   rw [List.take_succ_eq_append_getElem hku,List.take_succ_eq_append_getElem hkv,htk,h]
/- texts -/
theorem join_le {c:UInt8} {k:Nat}:∀ {ws:List (List UInt8)},(∀ w∈ws,w.length≤k)→(Lib.join ws [c]).length≤ws.length * (k+1)
 | [],_=>by simp [Lib.join]
 | [w],h=>by rw [Lib.join_one]; have:=h w (by simp); simp; omega
 | w::x::r,h=>by
  have:=join_le (c:=c) (ws:=x::r) (fun y hy=>h y (List.mem_cons_of_mem _ hy))
  have h1:=h w (by simp)
  rw [join_cons2,List.length_append,List.length_cons,List.length_cons,Nat.succ_mul]
  omega
theorem num_rng {v:Int} (h:num v=true):1≤v∧v≤4294967295:=of_decide_eq_true h
theorem itoa_10 {v:Int} (h:num v=true):1≤(Lib.itoa v).length∧(Lib.itoa v).length≤10:=by
 obtain ⟨h1,h2⟩:=num_rng h
 obtain ⟨u,rfl⟩:=Int.eq_ofNat_of_zero_le (show 0≤v by omega)
 rw [Lib.itoa_nonneg u]
 have:=dd_len 9 u (by omega)
 have:=List.length_pos_iff.2 (dd_facts u).1
 omega
theorem itoa_n (N:Nat) {v:Int} (h:num v=true):n31 (N+1) v=some (Lib.itoa v):=by
 rw [e31]
 have:=num_rng h
 exact aJ6 ⟨by omega,by omega⟩
theorem joinS_len {l:List Int} {c:UInt8} (hn:∀ v∈l,num v=true) (hl:l.length≤64):(joinS l c).length≤704:=by
 have hb:(Lib.join (l.map Lib.itoa) [c]).length≤(l.map Lib.itoa).length * (10+1):=join_le fun w hw=>by
  obtain ⟨v,hv,rfl⟩:=List.mem_map.1 hw
  exact (itoa_10 (hn v hv)).2
 rw [List.length_map] at hb
 unfold joinS
 omega
theorem join_n (N:Nat) (c:UInt8) {ns:List Int} (hN:64 < N) (hn:∀ v∈ns,num v=true) (hl:ns.length≤64):n23 (N+10) (ns,[c])=some (joinS ns c):=by
 rw [e23]
 refine jB ?_
 refine loopN_seq' (fun i=>(([c],(ns.take i).map Lib.itoa,ns,aJO ns,(i:Int)):(List UInt8×(List (List UInt8)×(List (Int)×(Int×Int)))))) ns.length rfl (fun i hi=>?_) ?_ (by omega)
 · have hx:aEU ns (i:Int)=some ns[i]:=aJo hi
   refine letB (v:=true) (decide_eq_true (show (i:Int) < aJO ns by unfold aJO; omega)) (bifT rfl (bindB hx (bindB (itoa_n (N+8) (hn _ (List.getElem_mem hi))) (bindB (v:=(ns.take (i+1)).map Lib.itoa) ?_ (letB (v:=((i+1:Nat):Int)) (wv _ (show (i:Int)+1=((i+1:Nat):Int) by omega) (by omega) (by omega)) rfl)))))
   rw [aJm (by simp; omega) (by simp; omega),List.take_succ_eq_append_getElem hi,List.map_append]
   rfl
 · refine letB (v:=false) (decide_eq_false (show ¬ (ns.length:Int) < aJO ns by unfold aJO; omega)) (bifF rfl (leaveB (bindB (v:=joinS ns c) ?_ rfl)))
   rw [List.take_length,e21,aIs]
   have hb:=joinS_len (c:=c) hn hl
   exact if_pos ⟨by simp; omega,Nat.le_trans hb (by omega)⟩
theorem segT_len {s:Seg} (hn:∀ v∈s.2,num v=true) (hl:s.2.length≤64):(segT s).length≤706:=by
 unfold segT
 have h1:=joinS_len (c:=44) hn hl
 have h2:=joinS_len (c:=32) hn hl
 split
 · simp only [List.length_append,List.length_singleton]; omega
 · omega
theorem pvd_sz {p:List Seg} (h:pvd p=true):p.length≤64:=by
 have ht:tot p≤64:=by
  unfold pvd at h
  rw [Bool.and_eq_true,decide_eq_true_eq] at h
  exact h.2
 have hn:=pvd_ne h
 clear h
 have:p.length≤tot p:=by
  clear ht
  unfold tot
  induction p with
  | nil=>simp
  | cons s p ih =>
   have h1:=hn s (by simp)
   have h2:=ih fun s hs=>hn s (List.mem_cons_of_mem _ hs)
   simp only [List.map_cons,List.sum_cons,List.length_cons]
   omega
 omega
theorem print_n (N:Nat) (hN:100100 < N) {p:List Seg} (hv:pvd p=true):n9 (N+20) p=some (prt p):=by
 rw [e9]
 have h64:=pvd_len hv
 have hsz:=pvd_sz hv
 have hnm:=pvd_num hv
 have hva:=valid_p (N+17) (by omega) (p:=p) (by omega) fun s hs=>Nat.le_trans (h64 s hs) (by omega)
 rw [hv] at hva
 refine bindB hva (bifF rfl (jB ?_))
 refine loopN_seq' (fun i=>(((p.take i).map segT,p,aJO p,(i:Int)):(List (List UInt8)×(List Seg×(Int×Int))))) p.length rfl (fun i hi=>?_) ?_ (by omega)
 · have hm:=List.getElem_mem hi
   have nx:IntKind.i64.wrap ((i:Int)+1)=((i+1:Nat):Int):=wv _ (by omega) (by omega) (by omega)
   have sT:(p.take (i+1)).map segT=(p.take i).map segT++[segT p[i]]:=by
    rw [List.take_succ_eq_append_getElem hi,List.map_append]; rfl
   have ap:∀ t,t=segT p[i]→aH3 16 ((p.take i).map segT) [t]=some ((p.take (i+1)).map segT):=fun t ht=>by
    rw [sT,ht]
    exact aJm (by simp; omega) (by simp; omega)
   refine letB (v:=true) (decide_eq_true (show (i:Int) < aJO p by unfold aJO; omega)) (bifT rfl (jB (bindB (aJo hi) (jB ?_))))
   have j1:=joinS_len (c:=44) (hnm _ hm) (h64 _ hm)
   cases hb:p[i].1 with
   | true =>
    refine bifT rfl (bindB (join_n (N+9) 44 (by omega) (hnm _ hm) (h64 _ hm)) (bindB (cat_ok (by simp; omega)) (bindB (cat_ok (by simp; omega)) (bindB (ap _ ?_) (letB nx rfl)))))
    unfold segT; rw [if_pos hb]
   | false =>
    refine bifF rfl (bindB (join_n (N+9) 32 (by omega) (hnm _ hm) (h64 _ hm)) (bindB (ap _ ?_) (letB nx rfl)))
    unfold segT; rw [if_neg (by rw [hb]; simp)]
 · rw [List.take_length]
   refine letB (v:=false) (decide_eq_false (show ¬ (p.length:Int) < aJO p by unfold aJO; omega)) (bifF rfl (leaveB (bindB (v:=prt p) ?_ rfl)))
   rw [e21,aIs]
   have hb:(Lib.join (p.map segT) [32]).length≤(p.map segT).length * (706+1):=join_le fun w hw=>by
    obtain ⟨s,hs,rfl⟩:=List.mem_map.1 hw
    exact segT_len (hnm s hs) (h64 s hs)
   rw [List.length_map] at hb
   exact if_pos ⟨by simp; omega,Nat.le_trans hb (by omega)⟩
end Go.Proofs.YtajoneenakjifaaGreatDoor
