/- Chapter 15, plainly: the sanity check. -/
import Derived.Test.YtajoneenakjifaaDoorEE
import Derived.KernelRfl
import Derived.Test.YtajoneenakjifaaDoorEG
namespace Go.Proofs.YtajoneenakjifaaDoor
open Go.VM
set_option maxRecDepth 100000
def awP:List Seg:=[(false,[65001,65002]),(true,[7,9])]
theorem awParse:gParse [54,53,48,48,49,32,54,53,48,48,50,32,123,55,44,57,125]=some (awP,0):=by kernel_rfl
theorem awakeT (N:Nat) (hN:200000 < N):n13 (N+20) ()=some true:=by
 rw [e13]
 have h10:n10 (N+19) [54,53,48,48,49,32,54,53,48,48,50,32,123,55,44,57,125]=some (awP,0):=by rw [e10]; exact awParse
 have hp:awP.length≤1000:=by decide
 have hs:∀ s∈awP,s.2.length≤100000:=fun s hs=>by
  simp [awP] at hs
  rcases hs with rfl | rfl <;> simp
 exact bindB h10 (bindB (first_n (N+16) (by omega) hp hs) (bindB (origin_n (N+16) (by omega) hp hs) (bindB (bifT rfl (len_n (N+18) (by show awP.length < _; omega) hp hs)) (by kernel_rfl))))
end Go.Proofs.YtajoneenakjifaaDoor

/- Chapter 15, plainly: a number put in front of a path. -/
namespace Go.Proofs.YtajoneenakjifaaDoor
open Go.VM
set_option maxRecDepth 10000
theorem pre_flat (p:List Seg) (a:Int) (k:Nat):flat (preP p a k)=List.replicate k a++flat p:=by
 unfold preP flat
 cases p with
 | nil=>simp
 | cons s r =>
  simp only
  split <;> simp
theorem pre_len (p:List Seg) (a:Int) (k:Nat):lenP (preP p a k)=lenP p+k:=by
 unfold preP lenP
 cases p with
 | nil=>simp
 | cons s r =>
  simp only
  split
  · simp; omega
  · rename_i h
    simp [h]; omega
theorem pre_tot (p:List Seg) (a:Int) (k:Nat):tot (preP p a k)=tot p+k:=by
 rw [← flat_len,pre_flat,List.length_append,List.length_replicate,flat_len]; omega
theorem nums_false {l:List Int} (h:∀ a∈l,num a=true):numsOk (false,l)=true:=by
 unfold numsOk
 rw [List.all_eq_true]
 intro k hk
 have hkl:k < l.length:=by simp [List.mem_range'] at hk; omega
 unfold numOk
 rw [getD_lt 0 (l:=l) hkl,h _ (List.getElem_mem hkl)]
 simp
theorem pvd_iff {p:List Seg}:pvd p=true↔(∀ i,i < p.length→segOk p i=true)∧tot p≤64:=by
 unfold pvd
 rw [Bool.and_eq_true,List.all_eq_true,decide_eq_true_eq]
 constructor
 · rintro ⟨h1,h2⟩
   exact ⟨fun i hi=>h1 i (by simp [List.mem_range']; omega),h2⟩
 · rintro ⟨h1,h2⟩
   exact ⟨fun i hi=>h1 i (by simp [List.mem_range'] at hi; omega),h2⟩
theorem rep_num {a:Int} {k:Nat} (ha:num a=true):∀ v∈List.replicate k a,num v=true:=fun v hv=>by rw [List.eq_of_mem_replicate hv]; exact ha
theorem pre_valid {p:List Seg} (hp:pvd p=true) {a:Int} (ha:num a=true) {k:Nat} (hk:1≤k) (ht:tot p+k≤64):pvd (preP p a k)=true:=by
 have hnum:=pvd_num hp
 obtain ⟨h1,_⟩:=pvd_iff.1 hp
 refine pvd_iff.2 ⟨fun i hi=>?_,by rw [pre_tot]; exact ht⟩
 have hne:(List.replicate k a).isEmpty=false:=by
  cases k with
  | zero=>omega
  | succ k=>rfl
 have first:∀ l r,l.isEmpty=false→(∀ v∈l,num v=true)→segOk ((false,l)::r) 0=true:=fun l r hl hn=>by
  unfold segOk
  show (!l.isEmpty&&_&&numsOk (false,l))=true
  rw [hl,nums_false hn]
  simp
 unfold preP at hi ⊢
 cases p with
 | nil =>
  have:i=0:=by simp at hi; omega
  subst this
  exact first _ _ hne (rep_num ha)
 | cons s r =>
  simp only at hi ⊢
  by_cases hs:s.1=true
  · rw [if_pos hs] at hi ⊢
    cases i with
    | zero=>exact first _ _ hne (rep_num ha)
    | succ i =>
     have q:=h1 i (by simpa using hi)
     unfold segOk at q ⊢
     simp only [List.getD_cons_succ]
     rw [Bool.and_eq_true,Bool.and_eq_true] at q ⊢
     refine ⟨⟨q.1.1,?_⟩,q.2⟩
     cases i with
     | zero=>simp [hs]
     | succ i=>simpa using q.1.2
  · rw [if_neg hs] at hi ⊢
    cases i with
    | zero =>
     refine first _ _ ?_ fun v hv=>?_
     · cases k with
       | zero=>omega
       | succ k=>rfl
     · rcases List.mem_append.1 hv with hv | hv
       · exact rep_num ha v hv
       · exact hnum s (by simp) v hv
    | succ i =>
     have q:=h1 (i+1) (by simpa using hi)
     unfold segOk at q ⊢
     simp only [List.getD_cons_succ] at q ⊢
     rw [Bool.and_eq_true,Bool.and_eq_true] at q ⊢
     refine ⟨⟨q.1.1,?_⟩,q.2⟩
     cases i with
     | zero =>
      have hs:s.1=false:=by simpa using hs
      simpa [hs] using q.1.2
     | succ i=>simpa using q.1.2
theorem pre_first {p:List Seg} (hp:pvd p=true) {a:Int} (ha:num a=true) {k:Nat} (hk:1≤k) (ht:tot p+k≤64):fst1 (preP p a k)=(a,true):=by
 have hv:=pre_valid hp ha hk ht
 obtain ⟨k,rfl⟩:∃ j,k=j+1:=⟨k - 1,by omega⟩
 unfold fst1
 rw [hv]
 unfold preP
 cases p with
 | nil=>rfl
 | cons s r =>
  simp only
  split <;> rfl
theorem lst1_eq {p:List Seg} (hp:pvd p=true) (h0:0 < p.length):lst1 p=if (p.getD (p.length - 1) zS).1=true then (0,false) else ((flat p).getD ((flat p).length - 1) 0,true):=by
 unfold lst1
 rw [hp]
 cases p with
 | nil=>simp at h0
 | cons s r =>
  cases ((s::r).getD ((s::r).length - 1) zS).1 <;> rfl
theorem pre_last {p:List Seg} (hp:pvd p=true) {a:Int} (ha:num a=true) {k:Nat} (hk:1≤k) (ht:tot p+k≤64):lst1 (preP p a k)=if p.isEmpty=true then (a,true) else lst1 p:=by
 have hv:=pre_valid hp ha hk ht
 have hl:0 < (preP p a k).length:=by
  unfold preP
  cases p with
  | nil=>simp
  | cons s r=>simp only; split <;> simp
 rw [lst1_eq hv hl]
 cases p with
 | nil =>
  obtain ⟨k,rfl⟩:∃ j,k=j+1:=⟨k - 1,by omega⟩
  rw [pre_flat]
  show (if false=true then _ else _)=_
  simp [flat,List.getD]
 | cons s r =>
  have hs0:0 < (s::r).length:=by simp
  rw [lst1_eq hp hs0,pre_flat,if_neg (show ¬ (s::r).isEmpty=true by simp)]
  have hne:0 < (flat (s::r)).length:=by
   have:=pvd_ne hp s (by simp)
   unfold flat
   simp
   omega
  have e1:((List.replicate k a++flat (s::r)).getD ((List.replicate k a++flat (s::r)).length - 1) 0)=(flat (s::r)).getD ((flat (s::r)).length - 1) 0:=by
   rw [List.getD,List.getD,List.length_append,List.getElem?_append_right (by simp; omega)]
   congr 2
   simp
   omega
  rw [e1]
  have e2:((preP (s::r) a k).getD ((preP (s::r) a k).length - 1) zS).1=((s::r).getD ((s::r).length - 1) zS).1:=by
   unfold preP
   simp only
   by_cases hs:s.1=true
   · rw [if_pos hs]
     simp
   · rw [if_neg hs]
     have hs:s.1=false:=by simpa using hs
     cases r with
     | nil=>simp [hs]
     | cons x r=>simp
  rw [e2]
end Go.Proofs.YtajoneenakjifaaDoor

/- Chapter 15, plainly: what AspathLonger asks. -/
namespace Go.Proofs.YtajoneenakjifaaDoor
open Go.VM
set_option maxRecDepth 10000
theorem tot_le' {p:List Seg} {c:Nat} (hs:∀ s∈p,s.2.length≤c):tot p≤p.length * c:=by
 unfold tot
 induction p with
 | nil=>simp
 | cons s p ih =>
  have h1:=hs s (by simp)
  have h2:=ih fun s h=>hs s (List.mem_cons_of_mem _ h)
  simp only [List.map_cons,List.sum_cons,List.length_cons,Nat.succ_mul]
  omega
theorem longerE (N : Nat) (hN : 200000000 < N) {a0 : List Int} (a1 a2 : Int) (h : a0.length ≤ 9223372036854775807) (haw : n13 (N + 20) () = some true)
  (hprep:∀ p a k,pvd p=true→p.length≤3→num a=true→1≤k→tot p+k≤64→n31 (N+20) (p,a,((k:Nat):Int))=some (preP p a k,0)):n7 (N+21) (a0,a1,a2)=some true:=by
 suffices Ok (n7 (N+21) (a0,a1,a2)) fun b=>b=true by
  obtain ⟨b,hb,rfl⟩:=this; exact hb
 rw [e7]
 refine ok_bind (e8 (N+19) a0) (ok_bind' (path_k4 (N+15) (by omega) (DK0 h)) fun v ⟨pv,pl,_⟩=>?_)
 obtain ⟨p,d⟩:=v
 simp only at pv pl
 obtain ⟨pv,p4⟩:=pv
 have t12:tot p≤12:=by have:=tot_le' p4; omega
 have b0:=Int.emod_nonneg a1 (show (4294967295:Int)≠0 by omega)
 have b1:=Int.emod_lt_of_pos a1 (show (0:Int) < 4294967295 by omega)
 have b2:=Int.emod_nonneg a2 (show (9:Int)≠0 by omega)
 have b3:=Int.emod_lt_of_pos a2 (show (0:Int) < 9 by omega)
 refine ok_bind (modE (N+19) (by omega) (by omega)) (ok_letE (w:=1+a1 % 4294967295) (wv _ rfl (by omega) (by omega)) (ok_bind (modE (N+19) (by omega) (by omega)) ?_))
 generalize ha:(1:Int)+a1 % 4294967295=a at *
 obtain ⟨k,hk⟩:∃ k:Nat,(1:Int)+a2 % 9=(k:Int):=⟨(1+a2 % 9).toNat,by omega⟩
 refine ok_letE (w:=((k:Nat):Int)) (wv _ hk (by omega) (by omega)) ?_
 have an:num a=true:=decide_eq_true (by omega)
 have k1:1≤k:=by omega
 have kt:tot p+k≤64:=by omega
 refine ok_bind (hprep p a k pv pl an k1 kt) (ok_if (fun hh=>by cases hh) fun _=>?_)
 have qv:=pre_valid pv an k1 kt
 have qf:=pre_first pv an k1 kt
 have ql:=pre_last pv an k1 kt
 have qn:=pre_len p a k
 have qt:=pre_flat p a k
 generalize hq:preP p a k=q at *
 have mp1:p.length≤1000:=by omega
 have mp2:∀ s∈p,s.2.length≤100000:=fun s hs=>Nat.le_trans (pvd_len pv s hs) (by omega)
 have mq1:q.length≤1000:=by have:=pvd_sz qv; omega
 have mq2:∀ s∈q,s.2.length≤100000:=fun s hs=>Nat.le_trans (pvd_len qv s hs) (by omega)
 have f1:=first_n (N+17) (by omega) mq1 mq2
 have o1:=origin_n (N+17) (by omega) mp1 mp2
 have o2:=origin_n (N+17) (by omega) mq1 mq2
 have l1:=len_n (N+19) (by omega) mp1 mp2
 have l2:=len_n (N+19) (by omega) mq1 mq2
 have lb:lenP p≤300000:=by have:=lenP_le mp2; omega
 rw [qf] at f1
 rw [ql] at o2
 refine ok_bind f1 (ok_bind o1 (ok_bind o2 ?_))
 rw [isE]
 cases he:p.isEmpty with
 | true =>
  have:p=[]:=by simpa using he
  subst this
  refine ok_if (fun _=>?_) fun hh=>by cases hh
  refine ok_letE (w:=true) (by simp) (ok_bind (bifT rfl l2) (ok_letE (w:=true) (by rw [qn]; simp [lenP]) (ok_bind (bifT rfl haw) (ok_letE (w:=true) rfl (ok_some rfl)))))
 | false =>
  refine ok_if (fun hh=>by cases hh) fun _=>?_
  have vq:=valid_p (N+18) (by omega) mq1 mq2
  rw [qv] at vq
  have g1:=flat_n (N+19) (by omega) mp1 mp2
  have g2:=flat_n (N+19) (by omega) mq1 mq2
  have fb:(flat p).length≤64:=by rw [flat_len]; omega
  have fq:(flat q).length=k+(flat p).length:=by rw [qt,List.length_append,List.length_replicate]
  refine ok_bind vq (ok_letE (w:=true) rfl (ok_letE (w:=true) (by simp) ?_))
  refine ok_bind' (P:=fun b=>b=true) (ok_if (fun _=>ok_mono (has_n (N+17) (p:=q) a (by omega) mq1 mq2) fun b hb=>hb.2 ?_) fun hh=>by cases hh) fun b hb=>?_
  · rw [qt]
    obtain ⟨j,rfl⟩:∃ j,k=j+1:=⟨k - 1,by omega⟩
    simp [List.replicate_succ]
  subst hb
  refine ok_letE (w:=true) rfl (ok_bind (bifT rfl l2) (ok_bind (bifT rfl l1) (ok_letE (w:=((lenP p+k:Nat):Int)) (wv _ (by omega) (by omega) (by omega)) ?_)))
  refine ok_letE (w:=true) (by rw [qn]; simp) (ok_letE (w:=true) (by simp) (ok_letE (w:=true) (by simp) (ok_bind (bifT rfl g2) (ok_bind (bifT rfl g1) ?_))))
  refine ok_letE (w:=(((flat p).length+k:Nat):Int)) (wv _ (by unfold aJO; omega) (by omega) (by omega)) (ok_letE (w:=true) (by unfold aJO; rw [fq]; simp; omega) (ok_bind (bifT rfl haw) (ok_letE (w:=true) rfl (ok_some rfl))))
end Go.Proofs.YtajoneenakjifaaDoor

/- Chapter 15, plainly: what the laws of the length and of the numbers in front come to. -/
namespace Go.Proofs.YtajoneenakjifaaDoor
open Go.VM
theorem longerT (N:Nat) (hN:200000000 < N) {a0:List Int} (a1 a2:Int) (h:a0.length≤9223372036854775807):n7 (N+21) (a0,a1,a2)=some true :=
 longerE N hN a1 a2 h (awakeT N (by omega)) fun p a k hp hl ha hk ht=>by
  have hm:midB p=true:=midB_iff.2 ⟨by omega,fun s hs=>Nat.le_trans (pvd_len hp s hs) (by omega)⟩
  have e:prepD p a ((k:Nat):Int)=(preP p a k,0):=by
   unfold prepD
   rw [if_neg (by rw [hp,ha]; simp),if_neg (by omega),if_neg (by omega)]; rfl
  rw [e31]
  unfold gPrep
  rw [if_pos hm,e]
end Go.Proofs.YtajoneenakjifaaDoor
