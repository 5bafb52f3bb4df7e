/- Chapter 15, plainly: a number put in front of a path. -/
import Derived.Test.YtajoneenakjifaaDoorEG
import Derived.Test.YtajoneenakjifaaDoorFA
import Derived.Test.YtajoneenakjifaaDoorEF
namespace Go.Proofs.YtajoneenakjifaaDoor
open Go.VM
set_option maxRecDepth 10000
theorem pre_flat (p:List Seg) (a:Int) (k:Nat):flat (preP p a k)=List.replicate k a++flat p:=by
 unfold preP flat
 cases p with
 | nil=>simp
 | cons s r =>
  simp only
  split <;> simp
theorem pre_tot (p:List Seg) (a:Int) (k:Nat):tot (preP p a k)=tot p+k:=by
 rw [← flat_len,pre_flat,List.length_append,List.length_replicate,flat_len]; omega
theorem nums_false {l:List Int} (h:∀ a∈l,num a=true):numsOk (false,l)=true:=by
 unfold numsOk
 rw [List.all_eq_true]
 intro k hk
 have hkl:k < l.length:=by simp [List.mem_range'] at hk; omega
 unfold numOk
 rw [getD_lt 0 (l:=l) hkl,h _ (List.getElem_mem hkl)]
 simp
theorem pvd_iff {p:List Seg}:pvd p=true↔(∀ i,i < p.length→segOk p i=true)∧tot p≤64:=by
 unfold pvd
 rw [Bool.and_eq_true,List.all_eq_true,decide_eq_true_eq]
 constructor
 · rintro ⟨h1,h2⟩
   exact ⟨fun i hi=>h1 i (by simp [List.mem_range']; omega),h2⟩
 · rintro ⟨h1,h2⟩
   exact ⟨fun i hi=>h1 i (by simp [List.mem_range'] at hi; omega),h2⟩
theorem rep_num {a:Int} {k:Nat} (ha:num a=true):∀ v∈List.replicate k a,num v=true:=fun v hv=>by rw [List.eq_of_mem_replicate hv]; exact ha
theorem pre_valid {p:List Seg} (hp:pvd p=true) {a:Int} (ha:num a=true) {k:Nat} (hk:1≤k) (ht:tot p+k≤64):pvd (preP p a k)=true:=by
 have hnum:=pvd_num hp
 obtain ⟨h1,_⟩:=pvd_iff.1 hp
 refine pvd_iff.2 ⟨fun i hi=>?_,by rw [pre_tot]; exact ht⟩
 have hne:(List.replicate k a).isEmpty=false:=by
  cases k with
  | zero=>omega
  | succ k=>rfl
 have first:∀ l r,l.isEmpty=false→(∀ v∈l,num v=true)→segOk ((false,l)::r) 0=true:=fun l r hl hn=>by
  unfold segOk
  show (!l.isEmpty&&_&&numsOk (false,l))=true
  rw [hl,nums_false hn]
  simp
 unfold preP at hi ⊢
 cases p with
 | nil =>
  have:i=0:=by simp at hi; omega
  subst this
  exact first _ _ hne (rep_num ha)
 | cons s r =>
  simp only at hi ⊢
  by_cases hs:s.1=true
  · rw [if_pos hs] at hi ⊢
    cases i with
    | zero=>exact first _ _ hne (rep_num ha)
    | succ i =>
     have q:=h1 i (by simpa using hi)
     unfold segOk at q ⊢
     simp only [List.getD_cons_succ]
     rw [Bool.and_eq_true,Bool.and_eq_true] at q ⊢
     refine ⟨⟨q.1.1,?_⟩,q.2⟩
     cases i with
     | zero=>simp [hs]
     | succ i=>simpa using q.1.2
  · rw [if_neg hs] at hi ⊢
    cases i with
    | zero =>
     refine first _ _ ?_ fun v hv=>?_
     · cases k with
       | zero=>omega
       | succ k=>rfl
     · rcases List.mem_append.1 hv with hv | hv
       · exact rep_num ha v hv
       · exact hnum s (by simp) v hv
    | succ i =>
     have q:=h1 (i+1) (by simpa using hi)
     unfold segOk at q ⊢
     simp only [List.getD_cons_succ] at q ⊢
     rw [Bool.and_eq_true,Bool.and_eq_true] at q ⊢
     refine ⟨⟨q.1.1,?_⟩,q.2⟩
     cases i with
     | zero =>
      have hs:s.1=false:=by simpa using hs
      simpa [hs] using q.1.2
     | succ i=>simpa using q.1.2
end Go.Proofs.YtajoneenakjifaaDoor

/- Chapter 15, plainly: what AspathLonger asks. -/
namespace Go.Proofs.YtajoneenakjifaaDoor
open Go.VM
set_option maxRecDepth 10000
end Go.Proofs.YtajoneenakjifaaDoor

/- Chapter 15, plainly: the document's Prepend. -/
namespace Go.Proofs.YtajoneenakjifaaDoor
open Go.VM
set_option maxRecDepth 10000
theorem copy_n (N:Nat) {p:List Seg} (hN:p.length < N) (hp:p.length≤1000) (hs:∀ s∈p,s.2.length≤100000):n41 (N+1) p=some p:=by
 rw [e41]
 refine jB (loopN_seq' (fun i=>((p.take i,p,aJO p,(i:Int)):(List Seg×(List Seg×(Int×Int))))) p.length rfl (fun i hi=>?_) ?_ hN)
 · have l2:=hs p[i] (List.getElem_mem hi)
   refine letB (v:=true) (decide_eq_true (show (i:Int) < aJO p by unfold aJO; omega)) (bifT rfl (bindB (aJo hi) (bindB (aJm (l:=[]) (m:=p[i].2) (by simp only [List.length_nil]; omega) (by simp only [List.length_nil]; omega)) (letB rfl (bindB (v:=p.take (i+1)) ?_ (letB (v:=((i+1:Nat):Int)) (wv _ (show (i:Int)+1=((i+1:Nat):Int) by omega) (by omega) (by omega)) rfl))))))
   rw [List.take_succ_eq_append_getElem hi]
   exact aJm (by simp; omega) (by simp; omega)
 · rw [List.take_length]
   exact letB (v:=false) (decide_eq_false (show ¬ (p.length:Int) < aJO p by unfold aJO; omega)) (bifF rfl (leaveB rfl))
theorem prep_r (N:Nat) (hN:100100 < N) {p:List Seg} (a n:Int) (hp:p.length≤1000) (hs:∀ s∈p,s.2.length≤100000):n32 (N+5) (p,a,n)=some (prepD p a n):=by
 rw [e32]
 have hv:=valid_r (N+2) (by omega) hp hs
 unfold prepD
 refine bindB hv ?_
 refine letB rfl (letB rfl (letB (v:=(!pvd p||!num a||decide (n < 0))) ?_ ?_))
 · have hn:=num_not a
   cases pvd p with
   | false=>rfl
   | true =>
    show (bif (bif decide (a < 1) then true else decide (a > 4294967295)) then true else decide (n < 0))=_
    rw [hn]
    cases num a <;> rfl
 cases hc:(!pvd p||!num a||decide (n < 0)) with
 | true=>exact bifT rfl rfl
 | false =>
  rw [Bool.or_eq_false_iff,Bool.or_eq_false_iff] at hc
  have pv:pvd p=true:=by simpa using hc.1.1
  have n0:¬ n < 0:=of_decide_eq_false hc.2
  have t64:=(pvd_iff.1 pv).2
  have fl:=flat_len p
  refine bifF rfl (bindB (flat_r (N+3) (by omega) hp hs) (letB (v:=64 - ((tot p:Nat):Int)) (wv _ (by unfold aJO; omega) (by omega) (by omega)) ?_))
  rw [if_neg (by simp)]
  by_cases h1:n > 64 - ((tot p:Nat):Int)
  · rw [if_pos h1]; exact bifT (decide_eq_true h1) rfl
  rw [if_neg h1]
  refine bifF (decide_eq_false h1) ?_
  by_cases h2:n=0
  · rw [if_pos h2]; exact bifT (by simp [h2]) (bindB (copy_n (N+3) (by omega) hp hs) rfl)
  rw [if_neg h2]
  refine bifF (by simp [h2]) ?_
  obtain ⟨k,rfl⟩:=Int.eq_ofNat_of_zero_le (show 0≤n by omega)
  have hk:k≤64:=by omega
  refine jB ?_
  refine loopN_seq' (fun i=>((p,a,(false,List.replicate i a),((k:Nat):Int),(i:Int)):(List Seg×(Int×(Seg×(Int×Int)))))) k rfl (fun i hi=>?_) ?_ (by omega)
  · refine letB (v:=true) (decide_eq_true (show (i:Int) < (k:Int) by omega)) (bifT rfl (bindB (v:=List.replicate (i+1) a) ?_ (letB (v:=((i+1:Nat):Int)) (wv _ (show (i:Int)+1=((i+1:Nat):Int) by omega) (by omega) (by omega)) rfl)))
    rw [List.replicate_succ']
    exact aJm (by simp; omega) (by simp; omega)
  · refine letB (v:=false) (decide_eq_false (show ¬ (k:Int) < (k:Int) by omega)) (bifF rfl (leaveB ?_))
    refine bindB (copy_n (N+3) (p:=p) (by omega) hp hs) ?_
    show _=some (preP p a k,0)
    have ps:=pvd_sz pv
    cases p with
    | nil =>
     refine letB (v:=false) rfl (bindB rfl (letB (v:=false) rfl (jB (bifF rfl (letB rfl (bindB (aJm (by simp) (by simp)) rfl))))))
    | cons s r =>
     have h64:=pvd_len pv s (by simp)
     have hx:aEU (s::r) (0:Int)=some s:=aJo (l:=s::r) (n:=0) (by simp)
     have rl:r.length≤64:=by simp at ps; omega
     refine letB (v:=true) (decide_eq_true (show aJO (s::r) > 0 by unfold aJO; rw [List.length_cons]; omega)) (bindB (bifT rfl hx) (letB (v:=!s.1) rfl (jB ?_)))
     unfold preP
     simp only
     cases hb:s.1 with
     | true =>
      rw [if_pos rfl]
      exact bifF rfl (letB rfl (bindB (aJm (by simp; omega) (by simp; omega)) rfl))
     | false =>
      rw [if_neg (by simp)]
      refine bifT rfl (bindB hx (bindB (aJm (by simp; omega) (by simp; omega)) (bindB (aJ1 (n:=1) (by simp)) (letB rfl (bindB (aJm (by simp; omega) (by simp; omega)) rfl)))))
end Go.Proofs.YtajoneenakjifaaDoor

/- Chapter 15, plainly: what AspathPrepends asks. -/
namespace Go.Proofs.YtajoneenakjifaaDoor
open Go.VM
set_option maxRecDepth 10000
theorem prepD_mid {p:List Seg} (hp:Mid p) (a n:Int):Mid (prepD p a n).1:=by
 unfold prepD
 split
 · exact ⟨by simp,by simp⟩
 rename_i hc
 split
 · exact ⟨by simp,by simp⟩
 rename_i h1
 split
 · exact hp
 rename_i h2
 have hc:(!pvd p||!num a||decide (n < 0))=false:=by simpa using hc
 rw [Bool.or_eq_false_iff,Bool.or_eq_false_iff] at hc
 have pv:pvd p=true:=by simpa using hc.1.1
 have an:num a=true:=by simpa using hc.1.2
 have n0:¬ n < 0:=of_decide_eq_false hc.2
 have qv:=pre_valid pv an (k:=n.toNat) (by omega) (by omega)
 exact ⟨by have:=pvd_sz qv; show (preP p a n.toNat).length≤1000; omega,fun s hs=>Nat.le_trans (pvd_len qv s hs) (by omega)⟩
theorem prependsE (N : Nat) (hN : 300000000 < N) {a0 : List Seg} {a1 : List Int} (a2 a3 a4 a5 : Int) (h0 : a0.length < N) (h00 : a0.length ≤ 9223372036854775807) (h : a1.length ≤ 9223372036854775807) (haw : n13 (N + 20) () = some true)
  (hnear:∀ q,pvd q=true→q.length≤3→Ok (n19 (N+20) (q,a4,a5)) Mid) (hprep:∀ p a n,Mid p→n31 (N+20) (p,a,n)=some (prepD p a n)):n6 (N+21) (a0,a1,a2,a3,a4,a5)=some true:=by
 suffices Ok (n6 (N+21) (a0,a1,a2,a3,a4,a5)) fun b=>b=true by
  obtain ⟨b,hb,rfl⟩:=this; exact hb
 rw [e6]
 refine ok_bind' (light_k (N+19) (by omega) h00) fun v hv0=>ok_if (fun _=>ok_bind haw (ok_some rfl)) fun hv=>?_
 have hraw:Mid a0:=by
  obtain ⟨r1,r2⟩:=hv0 (by simpa using hv)
  exact ⟨by omega,fun s hs=>Nat.le_trans (r2 s hs) (by omega)⟩
 refine ok_bind (e8 (N+19) a1) (ok_bind' (path_k (N+15) (by omega) (DK0 h)) fun v ⟨hpv,hpl,_⟩=>?_)
 obtain ⟨p,d⟩:=v
 simp only at hpv hpl
 have hp:Mid p:=⟨by omega,fun s hx=>Nat.le_trans (pvd_len hpv s hx) (by omega)⟩
 refine ok_bind' (hnear p hpv hpl) fun q hq=>ok_let ?_
 have hX:∀ x∈[a0,p,q],Mid x:=by
  intro x hx
  simp only [List.mem_cons,List.not_mem_nil,or_false] at hx
  rcases hx with rfl | rfl | rfl <;> assumption
 have lX:[a0,p,q].length=3:=rfl
 show Ok (aBJ _ _) _
 generalize [a0,p,q]=X at *
 refine ok_join (fun _=>True) (fun _ _=>ok_bind haw (ok_some rfl)) fun g7 hg7=>?_
 refine ok_loop (fun i (x:(Int×(Int×(List (List Seg)×(Int×Int)))))=>x=(a2,a3,X,aJO X,(i:Int))∧i≤3) 3 (fun i x hx=>?_) ⟨rfl,Nat.zero_le _⟩ (by omega)
 obtain ⟨rfl,hi⟩:=hx
 refine ok_let (ok_if (fun hc=>?_) fun _=>ok_leave (hg7 _ trivial))
 have hc:(i:Int) < aJO X:=of_decide_eq_true hc
 unfold aJO at hc
 refine ok_join (fun x=>x=(a2,a3,X,aJO X,(i:Int))) (fun x hx=>?_) fun g12 hg12=>?_
 · subst hx
   exact ok_letE (w:=((i+1:Nat):Int)) (wv _ (show (i:Int)+1=((i+1:Nat):Int) by omega) (by omega) (by omega)) (ok_again (by omega) ⟨rfl,by omega⟩)
 refine ok_bind' (idx_k (l:=X) (v:=(i:Int)) (by omega) (by omega)) fun x hxm=>?_
 have xm:=hX x hxm
 refine ok_bind (modE (N+19) (by omega) (by omega)) (ok_let (ok_bind (modE (N+19) (by omega) (by omega)) (ok_bind (modE (N+19) (by omega) (by omega)) (ok_let (ok_bind (modE (N+19) (by omega) (by omega)) (ok_let (ok_let ?_)))))))
 refine ok_join (fun y=>y=(a2,a3,X,aJO X,(i:Int))) (fun y hy=>hg12 _ (by subst hy; rfl)) fun g24 hg24=>?_
 refine (fun (L:List (Int×Int)) (lL:L.length=4) (k:∀ L:List (Int×Int),L.length=4→Ok (eG _ _ (a2,a3,x,X,aJO X,(i:Int),L,aJO L,(0:Int))) _)=>k L lL) _ rfl fun L lL=>?_
 refine ok_loop (fun k (y:(Int×(Int×(List Seg×(List (List Seg)×(Int×(Int×(List (Int×Int)×(Int×Int)))))))))=>y=(a2,a3,x,X,aJO X,(i:Int),L,aJO L,(k:Int))∧k≤4) 4 (fun k y hy=>?_) ⟨rfl,Nat.zero_le _⟩ (by omega)
 obtain ⟨rfl,hk⟩:=hy
 refine ok_let (ok_if (fun hc=>?_) fun _=>ok_leave (hg24 _ rfl))
 have hc:(k:Int) < aJO L:=of_decide_eq_true hc
 unfold aJO at hc
 refine ok_bind (aJo (l:=L) (n:=k) (by omega)) ?_
 generalize L[k]=c
 have md:=prepD_mid xm c.1 c.2
 refine ok_bind (hprep x c.1 c.2 xm) (ok_bind (prep_r (N+15) (by omega) c.1 c.2 xm.1 xm.2) (ok_bind' (same_k (N+19) (by omega) md md) fun b hb=>?_))
 have hb:b=true:=hb.2 rfl
 subst hb
 exact ok_letE (w:=false) (bifF rfl (by simp)) (ok_if (fun hh=>by cases hh) fun _=>ok_letE (w:=((k+1:Nat):Int)) (wv _ (show (k:Int)+1=((k+1:Nat):Int) by omega) (by omega) (by omega)) (ok_again (by omega) ⟨rfl,by omega⟩))
end Go.Proofs.YtajoneenakjifaaDoor

/- Chapter 15, plainly: what the laws of the reading functions and of Prepend come to. -/
namespace Go.Proofs.YtajoneenakjifaaDoor
open Go.VM
theorem near_mid {p:List Seg} (hp:pvd p=true) (hl:p.length≤3) (a b:Int):Mid (nearD p a b):=by
 have h64:∀ s∈p,s.2.length≤64:=pvd_len hp
 have hset:∀ (k:Nat) (s:Seg),s.2.length≤128→Mid (p.set k s):=fun k s hs=>⟨by rw [List.length_set]; omega,fun q hq=>by
  rcases List.mem_or_eq_of_mem_set hq with h | h
  · have:=h64 q h; omega
  · subst h; omega⟩
 have hg:(p.getD (b % (p.length:Int)).toNat zS).2.length≤64:=by
  rw [List.getD_eq_getElem?_getD]
  cases h:p[(b % (p.length:Int)).toNat]? with
  | none=>exact Nat.zero_le _
  | some s=>exact h64 s (List.mem_of_getElem? h)
 unfold nearD
 split
 · exact ⟨by simp,by simp⟩
 split
 · exact hset _ _ (by simp only [List.length_set]; omega)
 split
 · exact hset _ _ (by simp only [List.length_append]; omega)
 split
 · exact hset _ _ (by simp only; omega)
 split
 · exact hset _ _ (by simp)
 split
 · exact ⟨by simp only [List.length_append]; omega, fun s hs => by
     have:=h64 s (by simpa using hs); omega⟩
 · exact hset _ _ (by simp only [List.length_replicate]; omega)
theorem near_ok (N:Nat) {q:List Seg} (hp:pvd q=true) (hl:q.length≤3) (a b:Int):Ok (n19 (N+20) (q,a,b)) Mid :=
 ⟨nearD q a b,by rw [e19]; unfold gNear; rw [if_pos (by rw [hp]; simpa using hl)],near_mid hp hl a b⟩
end Go.Proofs.YtajoneenakjifaaDoor

/- Chapter 15, plainly: what the law of Prepend comes to. -/
namespace Go.Proofs.YtajoneenakjifaaDoor
open Go.VM
theorem prependsT (a0:List Seg) (a1:List Int) (a2 a3 a4 a5:Int) (h0:a0.length≤9223372036854775807) (h:a1.length≤9223372036854775807):n6 (a0.length+300000001+21) (a0,a1,a2,a3,a4,a5)=some true :=
 prependsE (a0.length+300000001) (by omega) a2 a3 a4 a5 (by omega) h0 h (awakeT _ (by omega)) (fun q hp hl=>near_ok _ hp hl a4 a5) fun p a n hm=>by
  rw [e31]
  unfold gPrep
  rw [if_pos (midB_iff.2 hm)]
end Go.Proofs.YtajoneenakjifaaDoor
